/- ScoreSummaries returns true for every list of pairs, every list of codes, every threshold and every two summaries: Of, Table, Merge, Mean, MeanSquare and Skill answer as the reference does. No condition. -/
import Derived.Test.YtbnjbdjjedndbaaRows
import Derived.Test.YtbnjbdjjedndbaaLSummaries
import Derived.Test.YtbnjbdjjedndbaaSummaries
import Derived.Test.YtbnjbdjjedndbaaVpairs
import Derived.WalkKit
import Derived.ProofKit
import Derived.OpenShut
import Derived.ShutString
import Derived.ChangeOld
import Derived.Below
import Derived.SizedLaws
import Derived.Carry
import Derived.Lib.SmallJoins
import Derived.Test.YtbnjbdjjedndbaaWSized
namespace Go.Proofs.Ytbnjbdjjedndbaa.scoreSummaries
open Go.ChangeShapes Go.WideShapes Go.ChangeAt Go.RowKit Go.Joins
open Go.ChangeMaps (open_string shut_string)
open Go.Proofs.Ytbnjbdjjedndbaa.B Go.Proofs.YtbnjbdjjedndbaaW.PrintWords Go.Proofs.YtbnjbdjjedndbaaW.PrintLast Go.Proofs.YtbnjbdjjedndbaaW.PrintMore
set_option linter.unusedVariables false
set_option linter.unusedSimpArgs false
theorem own : ownKnob Try.prog.godebug = none := by kernel_rfl
theorem laidOut : laidOutB Try.prog = true := by kernel_rfl
def IsRow (k : IntKind) (w : World) (a : Option Addr) (len cap : Nat) (zs : List Int) : Prop :=
  (a = none ∧ len = 0 ∧ cap = 0 ∧ zs = []) ∨
  ∃ x, a = some x ∧ len ≤ cap ∧ cap ≤ maxLen ∧ zs.length = cap ∧ (∀ i, i < zs.length → w.cell? (x.add i) = some (.int k (zs.getD i 0))) ∧ ∀ n ∈ zs, (Lit.int k n).wf = true
set_option maxRecDepth 100000 in
theorem lifted (os : Os) (started : os.Started) (H : Type) (enc : TypeId × Value → H) :
    ReturnsInHanded {} Try.checked os 5 .any (Rows.scoreSummariesSpec.pre6 enc Try.prog Try.f5 Rows.scoreSummariesRow.domain false) (Rows.scoreSummariesSpec.post enc Try.prog Try.f5 false true false false) := by
  refine returnsInHanded_of_change_sized (C := Try.checked) own started (by kernel_rfl) Try.func5
    (ChangeSpec.witness6 (enc := enc) (C := Try.checked) false ⟨#[], #[.slice none 0 0, .slice none 0 0, .int .i64 0, .agg #[.int .i64 0, .int .i64 0, .int .i64 0, .int .i64 0], .agg #[.int .i64 0, .int .i64 0, .int .i64 0, .int .i64 0]], []⟩ 8 (by kernel_rfl) (by kernel_rfl) (by kernel_rfl) (by kernel_rfl)) ?_
  intro W base args ds gs before hval0 hW hcnd hsz0 _
  have hsz : (DataW.weightsEach Try.prog (Try.f5.params.toList ++ Rows.scoreSummariesSpec.plain.varTypes Try.prog) (ds ++ gs)).all (· ≤ reachBytes) = true := hsz0
  have hval : ∀ (j : Nat) t v, Try.f5.params[j]? = some t → args[j]? = some v → Value.okWide Try.prog W .any base t v := hval0
  have hW' := hW
  obtain ⟨p, q, hA0, hV, rfl, hfz, hnd⟩ := hW
  have hA : DataW.TrodAll enc Try.prog W 0 (fun _ => true) true Try.f5.params.toList args.toList ds p := hA0
  rw [Try.params5] at hA hval hsz
  obtain ⟨v0, vs0, d0, ds0, p0, q0, hargs, rfl, rfl, h0, r0⟩ := trodAll_cons hA
  obtain ⟨v1, vs1, d1, ds1, p1, q1, rfl, rfl, rfl, h1, r1⟩ := trodAll_cons r0
  obtain ⟨v2, vs2, d2, ds2, p2, q2, rfl, rfl, rfl, h2, r2⟩ := trodAll_cons r1
  obtain ⟨v3, vs3, d3, ds3, p3, q3, rfl, rfl, rfl, h3, r3⟩ := trodAll_cons r2
  obtain ⟨v4, vs4, d4, ds4, p4, q4, rfl, rfl, rfl, h4, r4⟩ := trodAll_cons r3
  obtain ⟨rfl, rfl, rfl⟩ := trodAll_nil r4
  obtain rfl : args = #[v0, v1, v2, v3, v4] := by cases args; simp_all
  obtain ⟨rfl, rfl⟩ := trodVars_none hV
  have k0 := h0
  have lt0 : ∀ x ∈ p0, x.block < W.heap.size := by obtain ⟨m, hm⟩ := k0; exact DataW.trod_lt m _ _ _ hm
  obtain ⟨A0, len0, cap0, rfl⟩ := okWide_slice Try.underlying35 (hval 0 35 v0 rfl rfl)
  obtain ⟨l0, rfl, hV0⟩ : ∃ l : List S40, l.length = len0 ∧ Kd.V k40 40 W W.heap.size (fun _ => True) (.slice A0 l.length cap0) l := by
    obtain ⟨fuel, hf⟩ := h0
    exact pairs_row hf
  obtain ⟨A1, len1, cap1, rfl⟩ := okWide_slice Try.underlying33 (hval 1 33 v1 rfl rfl)
  have k1 := h1
  have lt1 : ∀ x ∈ p1, x.block < W.heap.size := by obtain ⟨m, hm⟩ := k1; exact DataW.trod_lt m _ _ _ hm
  obtain ⟨z1, w1⟩ : ∃ zs, IsRow .u8 W A1 len1 cap1 zs := by
    obtain ⟨fuel, hf⟩ := h1
    rcases open_ints Try.underlying33 Try.underlying5 (by kernel_rfl) hf with ⟨hcs, _⟩ | ⟨x, l, c, zs, hcs, _, hl, hm, hz, _, hcell, hwz⟩
    · simp [Value.cells] at hcs
      obtain ⟨rfl, rfl, rfl⟩ := hcs
      exact ⟨[], .inl ⟨rfl, rfl, rfl, rfl⟩⟩
    · simp [Value.cells] at hcs
      obtain ⟨rfl, rfl, rfl⟩ := hcs
      exact ⟨zs, .inr ⟨_, rfl, hl, hm, by simpa using hz, hcell, hwz⟩⟩
  have y1 : len1 * 1 ≤ 140737488351232 := sized_ints hsz (j := 1) (t := 33) rfl rfl Try.underlying33 Try.underlying5 (by kernel_rfl) (by kernel_rfl) h1
  obtain ⟨l1, rfl, hr1, hm1, hw1, hc1⟩ := ReadsInt.ofRowC w1
  obtain ⟨a2, rfl, rfl, rfl, w2⟩ := open_int Try.underlying3 (hval 2 3 v2 rfl rfl) h2
  have k3 := h3
  have lt3 : ∀ x ∈ p3, x.block < W.heap.size := by obtain ⟨m, hm⟩ := k3; exact DataW.trod_lt m _ _ _ hm
  obtain ⟨c3_0, c3_1, c3_2, c3_3, y3_0, y3_1, y3_2, y3_3, m3, rfl, rfl, rfl, hy3_0, hy3_1, hy3_2, hy3_3⟩ := open_agg4 Try.underlying42 (by kernel_rfl) (by kernel_rfl) (hval 3 42 v3 rfl rfl) h3
  obtain ⟨a3_0, e3_0, f3_0, w3_0⟩ := DataW.trod_int Try.underlying3 hy3_0
  simp only [List.cons.injEq, and_true] at e3_0
  subst e3_0
  obtain ⟨a3_1, e3_1, f3_1, w3_1⟩ := DataW.trod_int Try.underlying3 hy3_1
  simp only [List.cons.injEq, and_true] at e3_1
  subst e3_1
  obtain ⟨a3_2, e3_2, f3_2, w3_2⟩ := DataW.trod_int Try.underlying3 hy3_2
  simp only [List.cons.injEq, and_true] at e3_2
  subst e3_2
  obtain ⟨a3_3, e3_3, f3_3, w3_3⟩ := DataW.trod_int Try.underlying3 hy3_3
  simp only [List.cons.injEq, and_true] at e3_3
  subst e3_3
  have k4 := h4
  have lt4 : ∀ x ∈ p4, x.block < W.heap.size := by obtain ⟨m, hm⟩ := k4; exact DataW.trod_lt m _ _ _ hm
  obtain ⟨c4_0, c4_1, c4_2, c4_3, y4_0, y4_1, y4_2, y4_3, m4, rfl, rfl, rfl, hy4_0, hy4_1, hy4_2, hy4_3⟩ := open_agg4 Try.underlying42 (by kernel_rfl) (by kernel_rfl) (hval 4 42 v4 rfl rfl) h4
  obtain ⟨a4_0, e4_0, f4_0, w4_0⟩ := DataW.trod_int Try.underlying3 hy4_0
  simp only [List.cons.injEq, and_true] at e4_0
  subst e4_0
  obtain ⟨a4_1, e4_1, f4_1, w4_1⟩ := DataW.trod_int Try.underlying3 hy4_1
  simp only [List.cons.injEq, and_true] at e4_1
  subst e4_1
  obtain ⟨a4_2, e4_2, f4_2, w4_2⟩ := DataW.trod_int Try.underlying3 hy4_2
  simp only [List.cons.injEq, and_true] at e4_2
  subst e4_2
  obtain ⟨a4_3, e4_3, f4_3, w4_3⟩ := DataW.trod_int Try.underlying3 hy4_3
  simp only [List.cons.injEq, and_true] at e4_3
  subst e4_3
  clear hA0 hval0 hsz0 hsz
  refine (Exists.elim (summaries_some l0 l1 (Bytes.of_wf hw1) a2 a3_0 a3_1 a3_2 a3_3 a4_0 a4_1 a4_2 a4_3) fun k hk => synopticlaw38_ScoreSummaries.calls k (fun _ => True) A0 cap0 l0 A1 cap1 l1 a2 a3_0 a3_1 a3_2 a3_3 a4_0 a4_1 a4_2 a4_3 true W hV0 (Kd.C_of_reads (d := (0 : Int)) (h1 := fun _ => rfl) hr1) hc1 hk).mono fun e W' ⟨he, bel⟩ => ?_
  subst he
  exact ⟨_, rfl, _, _, _, [], _, [], hW', trodAll_mk1 (shut_bool Try.underlying4 _), (trodAll_cons_mk (Below.trod laidOut (by kernel_rfl) (of_decide_eq_true (by kernel_rfl)) k0 bel lt0) (trodAll_cons_mk (Below.trod laidOut (by kernel_rfl) (of_decide_eq_true (by kernel_rfl)) k1 bel lt1) (trodAll_cons_mk (shut_int Try.underlying3 w2) (trodAll_cons_mk (Below.trod laidOut (by kernel_rfl) (of_decide_eq_true (by kernel_rfl)) k3 bel lt3) (trodAll_cons_mk (Below.trod laidOut (by kernel_rfl) (of_decide_eq_true (by kernel_rfl)) k4 bel lt4) trodAll_mk0))))), rfl, bel.frame _, fun h => by cases h⟩
theorem over : Rows.scoreSummariesRow.holds Try.pinned (OpenSpec.ofChange Rows.scoreSummariesSpec) :=
  OpenClaim.holds_of_wide 5 Try.f5 rfl rfl rfl rfl rfl rfl rfl ⟨rfl, rfl, rfl, rfl, rfl⟩ rfl rfl rfl rfl rfl (by kernel_rfl) Try.func5 (by kernel_rfl)
    (of_decide_eq_true (by kernel_rfl)) (by unfold Func.isWrapper; first | (rw [if_pos (by decide +kernel)]; kernel_rfl) | (rw [if_neg (by decide +kernel)]; exact ⟨rfl, rfl⟩))
    (fun os started H enc _ => lifted os started H enc)
theorem proved : Rows.ScoreSummariesSaid := over
#print axioms proved
end Go.Proofs.Ytbnjbdjjedndbaa.scoreSummaries
namespace Go.Proofs.Ytbnjbdjjedndbaa
/-- The row, under a short name, for the claim. -/
theorem scoreSummaries_holds : Rows.ScoreSummariesSaid := scoreSummaries.proved
end Go.Proofs.Ytbnjbdjjedndbaa
