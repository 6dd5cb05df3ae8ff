/-
  No cell of these rows narrows 'for every input' (looked for: loops, veiled, ifaces, maps, wideKeys, modest, calm, conditions, laid).
  DERIVED. THE GIVEN ROWS OF THIS SEAT. 6 by the template 'for every input the law returns true; each argument reads behind the call as it read before'; 0 by the template 'total and deterministic' (their statements: YtbnjbdjjedndbaaTotals.lean).
  GIVEN WITH THE SEED: the statements are not yours to turn. If you find one false, say at which input.
  Laid BY PROGRAM, IN A SANDBOX (cutbox-rows.mjs): the forced cells as the released guide's own fill.sh prints them over the translation c5876921a556db7c… (all of the seat's roots in one cut). By AI agents, Wed Nov 11 2026. No macro, syntax, notation, axiom, sorry.
-/
import Derived.Test.YtbnjbdjjedndbaaChecked
import GoSem.Claim
import GoSem.ClaimJoined
import GoSem.ClaimMapViews
import Derived.JoinedTies
import Derived.KernelRfl
namespace Go.Proofs.Ytbnjbdjjedndbaa
/- THE CELL 'sum', in the pinned program and in every row, IS THE sha256 OF THE DUMP (.gsa) THAT YtbnjbdjjedndbaaProg.lean LOADS. Nothing in Lean hashes anything: it is a label: what it is worth is what the hold of that sum in a sandbox is worth. -/
noncomputable def Try.pinned : Pinned := { name := "ytbnjbdjjedndbaa", sum := "c5876921a556db7c26dbfde8763528cf934e06c9e8dedd8a1038b9f0c014d94f", checked := Try.checked }
namespace Rows
def none {H : Type} : Left H := { results := [], args := [] }

/-- 'synopticlaw38.ScoreTables': WHATEVER THE INPUT: true; the input reads as it did. -/
def scoreTablesSpec : ChangeSpec := { name := "scoreTables", fn := fun _ => fun
  | [d] => { results := [.lit (.bool true)], args := [d] }
  | _ => none }
def scoreTablesRow : OpenClaim := { program := "ytbnjbdjjedndbaa", sum := "c5876921a556db7c26dbfde8763528cf934e06c9e8dedd8a1038b9f0c014d94f", func := "synoptic/synopticlaw38.ScoreTables", spec := "scoreTables", unfollowed := true, recurses := true, apart := false }
def ScoreTablesSaid : Prop := scoreTablesRow.holds Try.pinned (OpenSpec.ofChange scoreTablesSpec)

/-- ITS FALSE NEIGHBOUR: 'it returns false'. Refute it at one input. -/
def scoreTablesWrong : ChangeSpec := { name := "scoreTables", fn := fun _ => fun
  | [d] => { results := [.lit (.bool false)], args := [d] }
  | _ => none }
def ScoreTablesWrongFalsely : Prop := scoreTablesRow.holds Try.pinned (OpenSpec.ofChange scoreTablesWrong)

/-- 'synopticlaw38.ScorePerfect': WHATEVER THE INPUT: true; the input reads as it did. -/
def scorePerfectSpec : ChangeSpec := { name := "scorePerfect", fn := fun _ => fun
  | [d1, d2, d3, d4] => { results := [.lit (.bool true)], args := [d1, d2, d3, d4] }
  | _ => none }
def scorePerfectRow : OpenClaim := { program := "ytbnjbdjjedndbaa", sum := "c5876921a556db7c26dbfde8763528cf934e06c9e8dedd8a1038b9f0c014d94f", func := "synoptic/synopticlaw38.ScorePerfect", spec := "scorePerfect", apart := false }
def ScorePerfectSaid : Prop := scorePerfectRow.holds Try.pinned (OpenSpec.ofChange scorePerfectSpec)

/-- ITS FALSE NEIGHBOUR: 'it returns false'. Refute it at one input. -/
def scorePerfectWrong : ChangeSpec := { name := "scorePerfect", fn := fun _ => fun
  | [d1, d2, d3, d4] => { results := [.lit (.bool false)], args := [d1, d2, d3, d4] }
  | _ => none }
def ScorePerfectWrongFalsely : Prop := scorePerfectRow.holds Try.pinned (OpenSpec.ofChange scorePerfectWrong)

/-- 'synopticlaw38.ScoreSummaries': WHATEVER THE INPUT: true; the input reads as it did. -/
def scoreSummariesSpec : ChangeSpec := { name := "scoreSummaries", fn := fun _ => fun
  | [d1, d2, d3, d4, d5] => { results := [.lit (.bool true)], args := [d1, d2, d3, d4, d5] }
  | _ => none }
def scoreSummariesRow : OpenClaim := { program := "ytbnjbdjjedndbaa", sum := "c5876921a556db7c26dbfde8763528cf934e06c9e8dedd8a1038b9f0c014d94f", func := "synoptic/synopticlaw38.ScoreSummaries", spec := "scoreSummaries", unfollowed := true, recurses := true, apart := false }
def ScoreSummariesSaid : Prop := scoreSummariesRow.holds Try.pinned (OpenSpec.ofChange scoreSummariesSpec)

/-- ITS FALSE NEIGHBOUR: 'it returns false'. Refute it at one input. -/
def scoreSummariesWrong : ChangeSpec := { name := "scoreSummaries", fn := fun _ => fun
  | [d1, d2, d3, d4, d5] => { results := [.lit (.bool false)], args := [d1, d2, d3, d4, d5] }
  | _ => none }
def ScoreSummariesWrongFalsely : Prop := scoreSummariesRow.holds Try.pinned (OpenSpec.ofChange scoreSummariesWrong)

/-- 'synopticlaw38.ScoreMerges': WHATEVER THE INPUT: true; the input reads as it did. -/
def scoreMergesSpec : ChangeSpec := { name := "scoreMerges", fn := fun _ => fun
  | [d1, d2] => { results := [.lit (.bool true)], args := [d1, d2] }
  | _ => none }
def scoreMergesRow : OpenClaim := { program := "ytbnjbdjjedndbaa", sum := "c5876921a556db7c26dbfde8763528cf934e06c9e8dedd8a1038b9f0c014d94f", func := "synoptic/synopticlaw38.ScoreMerges", spec := "scoreMerges", apart := false }
def ScoreMergesSaid : Prop := scoreMergesRow.holds Try.pinned (OpenSpec.ofChange scoreMergesSpec)

/-- ITS FALSE NEIGHBOUR: 'it returns false'. Refute it at one input. -/
def scoreMergesWrong : ChangeSpec := { name := "scoreMerges", fn := fun _ => fun
  | [d1, d2] => { results := [.lit (.bool false)], args := [d1, d2] }
  | _ => none }
def ScoreMergesWrongFalsely : Prop := scoreMergesRow.holds Try.pinned (OpenSpec.ofChange scoreMergesWrong)

/-- 'synopticlaw38.ScoreFractions': WHATEVER THE INPUT: true; the input reads as it did. -/
def scoreFractionsSpec : ChangeSpec := { name := "scoreFractions", fn := fun _ => fun
  | [d1, d2, d3, d4] => { results := [.lit (.bool true)], args := [d1, d2, d3, d4] }
  | _ => none }
def scoreFractionsRow : OpenClaim := { program := "ytbnjbdjjedndbaa", sum := "c5876921a556db7c26dbfde8763528cf934e06c9e8dedd8a1038b9f0c014d94f", func := "synoptic/synopticlaw38.ScoreFractions", spec := "scoreFractions", inPlace := ["math/bits.Add64"], apart := false }
def ScoreFractionsSaid : Prop := scoreFractionsRow.holds Try.pinned (OpenSpec.ofChange scoreFractionsSpec)

/-- ITS FALSE NEIGHBOUR: 'it returns false'. Refute it at one input. -/
def scoreFractionsWrong : ChangeSpec := { name := "scoreFractions", fn := fun _ => fun
  | [d1, d2, d3, d4] => { results := [.lit (.bool false)], args := [d1, d2, d3, d4] }
  | _ => none }
def ScoreFractionsWrongFalsely : Prop := scoreFractionsRow.holds Try.pinned (OpenSpec.ofChange scoreFractionsWrong)

/-- 'synopticlaw38.ScoreBounds': WHATEVER THE INPUT: true; the input reads as it did. -/
def scoreBoundsSpec : ChangeSpec := { name := "scoreBounds", fn := fun _ => fun
  | [d1, d2, d3] => { results := [.lit (.bool true)], args := [d1, d2, d3] }
  | _ => none }
def scoreBoundsRow : OpenClaim := { program := "ytbnjbdjjedndbaa", sum := "c5876921a556db7c26dbfde8763528cf934e06c9e8dedd8a1038b9f0c014d94f", func := "synoptic/synopticlaw38.ScoreBounds", spec := "scoreBounds", unfollowed := true, recurses := true, apart := false }
def ScoreBoundsSaid : Prop := scoreBoundsRow.holds Try.pinned (OpenSpec.ofChange scoreBoundsSpec)

/-- ITS FALSE NEIGHBOUR: 'it returns false'. Refute it at one input. -/
def scoreBoundsWrong : ChangeSpec := { name := "scoreBounds", fn := fun _ => fun
  | [d1, d2, d3] => { results := [.lit (.bool false)], args := [d1, d2, d3] }
  | _ => none }
def ScoreBoundsWrongFalsely : Prop := scoreBoundsRow.holds Try.pinned (OpenSpec.ofChange scoreBoundsWrong)

/- THE SECOND FORM. 'bulk': how many values and letters a reading holds, each counted each time it is reached (what is shared counts as often as it is met; a slice's spare places count too). A statement '..UptoSaid' is the law's where the arguments, and the package variables that the reading takes, are together of bulk at most 1048576: NARROWER than '..Said'. Prove '..Said' where nothing that the law and all that it calls make is longer than what came in: it says more and counts as full. Else prove '..UptoSaid'. A law counts once. -/
mutual
def uptoBulk {H : Type} : DataW H → Nat
  | .lit (.string bytes) => bytes.length + 1
  | .lit _ => 1
  | .nil => 1
  | .ptr d => uptoBulk d + 1
  | .slice elems spare => uptoBulkAll elems + uptoBulkAll spare + 1
  | .agg parts => uptoBulkAll parts + 1
  | .iface _ d => uptoBulk d + 1
  | .map entries => uptoBulkEntries entries + 1
  | .held _ => 1
def uptoBulkAll {H : Type} : List (DataW H) → Nat
  | [] => 0
  | d :: r => uptoBulk d + uptoBulkAll r
def uptoBulkEntries {H : Type} : List (Lit × DataW H) → Nat
  | [] => 0
  | x :: r => uptoBulkEntry x + uptoBulkEntries r
def uptoBulkEntry {H : Type} : Lit × DataW H → Nat
  | (.string bytes, d) => bytes.length + uptoBulk d + 1
  | (_, d) => uptoBulk d + 1
 end
def uptoSmall : (H : Type) → List (DataW H) → Bool := fun _ ds => decide (uptoBulkAll ds ≤ 1048576)
def OpenSpec.upto (s : _root_.Go.ChangeSpec) : _root_.Go.OpenSpec := { _root_.Go.OpenSpec.ofChange s with cond := some uptoSmall }

/-- 'synopticlaw38.ScoreTables', WHERE WHAT IT READS IS OF BULK AT MOST 1048576: true; the input reads as it did. -/
def scoreTablesUptoRow : OpenClaim := { program := "ytbnjbdjjedndbaa", sum := "c5876921a556db7c26dbfde8763528cf934e06c9e8dedd8a1038b9f0c014d94f", func := "synoptic/synopticlaw38.ScoreTables", spec := "scoreTables", unfollowed := true, recurses := true, apart := false, narrowed := true }
def ScoreTablesUptoSaid : Prop := scoreTablesUptoRow.holds Try.pinned (OpenSpec.upto scoreTablesSpec)

/-- 'synopticlaw38.ScorePerfect', WHERE WHAT IT READS IS OF BULK AT MOST 1048576: true; the input reads as it did. -/
def scorePerfectUptoRow : OpenClaim := { program := "ytbnjbdjjedndbaa", sum := "c5876921a556db7c26dbfde8763528cf934e06c9e8dedd8a1038b9f0c014d94f", func := "synoptic/synopticlaw38.ScorePerfect", spec := "scorePerfect", apart := false, narrowed := true }
def ScorePerfectUptoSaid : Prop := scorePerfectUptoRow.holds Try.pinned (OpenSpec.upto scorePerfectSpec)

/-- 'synopticlaw38.ScoreSummaries', WHERE WHAT IT READS IS OF BULK AT MOST 1048576: true; the input reads as it did. -/
def scoreSummariesUptoRow : OpenClaim := { program := "ytbnjbdjjedndbaa", sum := "c5876921a556db7c26dbfde8763528cf934e06c9e8dedd8a1038b9f0c014d94f", func := "synoptic/synopticlaw38.ScoreSummaries", spec := "scoreSummaries", unfollowed := true, recurses := true, apart := false, narrowed := true }
def ScoreSummariesUptoSaid : Prop := scoreSummariesUptoRow.holds Try.pinned (OpenSpec.upto scoreSummariesSpec)

/-- 'synopticlaw38.ScoreMerges', WHERE WHAT IT READS IS OF BULK AT MOST 1048576: true; the input reads as it did. -/
def scoreMergesUptoRow : OpenClaim := { program := "ytbnjbdjjedndbaa", sum := "c5876921a556db7c26dbfde8763528cf934e06c9e8dedd8a1038b9f0c014d94f", func := "synoptic/synopticlaw38.ScoreMerges", spec := "scoreMerges", apart := false, narrowed := true }
def ScoreMergesUptoSaid : Prop := scoreMergesUptoRow.holds Try.pinned (OpenSpec.upto scoreMergesSpec)

/-- 'synopticlaw38.ScoreFractions', WHERE WHAT IT READS IS OF BULK AT MOST 1048576: true; the input reads as it did. -/
def scoreFractionsUptoRow : OpenClaim := { program := "ytbnjbdjjedndbaa", sum := "c5876921a556db7c26dbfde8763528cf934e06c9e8dedd8a1038b9f0c014d94f", func := "synoptic/synopticlaw38.ScoreFractions", spec := "scoreFractions", inPlace := ["math/bits.Add64"], apart := false, narrowed := true }
def ScoreFractionsUptoSaid : Prop := scoreFractionsUptoRow.holds Try.pinned (OpenSpec.upto scoreFractionsSpec)

/-- 'synopticlaw38.ScoreBounds', WHERE WHAT IT READS IS OF BULK AT MOST 1048576: true; the input reads as it did. -/
def scoreBoundsUptoRow : OpenClaim := { program := "ytbnjbdjjedndbaa", sum := "c5876921a556db7c26dbfde8763528cf934e06c9e8dedd8a1038b9f0c014d94f", func := "synoptic/synopticlaw38.ScoreBounds", spec := "scoreBounds", unfollowed := true, recurses := true, apart := false, narrowed := true }
def ScoreBoundsUptoSaid : Prop := scoreBoundsUptoRow.holds Try.pinned (OpenSpec.upto scoreBoundsSpec)

end Rows
end Go.Proofs.Ytbnjbdjjedndbaa
