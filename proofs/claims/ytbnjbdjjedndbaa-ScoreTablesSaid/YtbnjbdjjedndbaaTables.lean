/- The statement ScoreTables without Go: each table of the three gives the same scores by the program and by the reference. -/
import Derived.Test.YtbnjbdjjedndbaaLTables
namespace Go.Proofs.Ytbnjbdjjedndbaa.B
open Go.RowKit Go.Proofs.YtbnjbdjjedndbaaW.PrintWords Go.Proofs.YtbnjbdjjedndbaaW.PrintLast Go.Proofs.YtbnjbdjjedndbaaW.PrintMore

theorem mod_some (a n : Int) (hn : 1 ≤ n) : ∃ r, synopticfield_Mod.f a n = some r := by
  unfold synopticfield_Mod.f
  rw [if_neg (by omega), if_neg (by omega)]
  split <;> exact ⟨_, rfl⟩

theorem awake_yes : synopticlaw38_awake.f 10 = some true := by kernel_rfl

theorem tables_loop (xs : List S23) (hl : xs.length ≤ 1000) : ∀ (d k : Nat) (i : Int), 0 ≤ i → i ≤ xs.length → (xs.length : Int) - i = d → d < k → synopticlaw38_ScoreTables.l0 k xs (xs.length : Int) i = some true := by
  intro d
  induction d with
  | zero =>
    intro k i h0 h1 hd hk
    obtain ⟨k, rfl⟩ : ∃ m, k = m + 1 := ⟨k - 1, by omega⟩
    simp only [synopticlaw38_ScoreTables.l0]
    rw [if_neg (by omega)]
  | succ d ih =>
    intro k i h0 h1 hd hk
    obtain ⟨k, rfl⟩ : ∃ m, k = m + 1 := ⟨k - 1, by omega⟩
    have hw : wrap64 (i + 1) = i + 1 := by unfold wrap64; omega
    have hr := ih k (i + 1) (by omega) (by omega) (by omega) (by omega)
    have hlt : i < (xs.length : Int) := by omega
    simp only [synopticlaw38_ScoreTables.l0]
    rw [if_pos hlt, if_pos h0, if_pos hlt, hw]
    simp only [score_Detection.f, synopticref38_Detection.f, score_FalseAlarm.f, synopticref38_FalseAlarm.f, score_Threat.f, synopticref38_Threat.f, score_Heidke.f, synopticref38_Heidke.f, Option.bind_some, beq_self_eq_true, Bool.not_true, Bool.or_self, if_true]
    simpa using hr

theorem tables_pure (a b c d : Int) : synopticlaw38_ScoreTables.f 10 a b c d = some true := by
  obtain ⟨x0, h0⟩ := mod_some a 12 (by omega)
  obtain ⟨x1, h1⟩ := mod_some b 5 (by omega)
  obtain ⟨x2, h2⟩ := mod_some c 5 (by omega)
  obtain ⟨x3, h3⟩ := mod_some d 10001 (by omega)
  unfold synopticlaw38_ScoreTables.f
  rw [awake_yes, h0, h1, h2, h3]
  simp only [Option.bind_some, if_true]
  exact tables_loop _ (by simp) 3 10 0 (by omega) (by simp) (by simp) (by omega)

theorem tables_walk (a b c d : Int) (w : World) : Calls Try.prog 3 #[.agg #[.int .i64 a, .int .i64 b, .int .i64 c, .int .i64 d]] w fun e w' => e = .returned (.bool true) ∧ Below w.heap.size w w' :=
  synopticlaw38_ScoreTables.calls 10 a b c d true w (tables_pure a b c d)
end Go.Proofs.Ytbnjbdjjedndbaa.B
