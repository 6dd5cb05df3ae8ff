/- The statement ScoreSummaries without Go: whatever the lists and the summaries, it answers true. -/
import Derived.Test.YtbnjbdjjedndbaaLSummaries
import Derived.Test.YtbnjbdjjedndbaaSummed
import Derived.Test.YtbnjbdjjedndbaaCodes
import Derived.KernelRfl
namespace Go.Proofs.Ytbnjbdjjedndbaa.B
open Go.RowKit Go.Proofs.YtbnjbdjjedndbaaW.PrintWords Go.Proofs.YtbnjbdjjedndbaaW.PrintLast Go.Proofs.YtbnjbdjjedndbaaW.PrintMore
set_option linter.unusedVariables false
set_option linter.unusedSimpArgs false

theorem awake_sum (k : Nat) (hk : 10 ≤ k) : synopticlaw38_awake.f k = some true := by
  have h : ∀ d, synopticlaw38_awake.f (10 + d) = some true := by
    intro d
    induction d with
    | zero => kernel_rfl
    | succ d ih => exact synopticlaw38_awake.mono (10 + d) _ ih
  obtain ⟨d, rfl⟩ : ∃ d, k = 10 + d := ⟨k - 10, by omega⟩
  exact h d
theorem leO_up {α β γ δ : Type} {f : Nat → α → β → γ → Option δ} (h : ∀ a b c k, LeO (f k a b c) (f (k + 1) a b c)) (n : Nat) : ∀ (m : Nat), m ≤ n → ∀ {a b c r}, f m a b c = some r → f n a b c = some r := by
  intro m hm a b c r e
  obtain ⟨d, rfl⟩ : ∃ d, n = m + d := ⟨n - m, by omega⟩
  induction d with
  | zero => exact e
  | succ d ih => exact h a b c (m + d) r (ih (by omega))
theorem mod_some (a n : Int) (hn : 1 ≤ n) (hn2 : n ≤ 1152921504606846976) : ∃ r, synopticfield_Mod.f a n = some r := by
  unfold synopticfield_Mod.f
  rw [if_neg (by omega), if_neg (by omega)]
  by_cases c : Int.tmod a n < 0
  · rw [if_pos c]; exact ⟨_, rfl⟩
  · rw [if_neg c]; exact ⟨_, rfl⟩
theorem little_some (a b c d : Int) : ∃ r, synopticlaw38_ScoreSummaries_1.f a b c d = some r := by
  obtain ⟨x, hx⟩ := mod_some a 20 (by omega) (by omega)
  obtain ⟨y, hy⟩ := mod_some c 5000 (by omega) (by omega)
  obtain ⟨z, hz⟩ := mod_some d 576460752303423488 (by omega) (by omega)
  unfold synopticlaw38_ScoreSummaries_1.f
  rw [hx, hy, hz]
  exact ⟨_, rfl⟩
theorem summ_l1 (R : List S52) (hR : R.length ≤ 1000) : ∀ (d i : Nat), i + d = R.length → ∃ K, ∀ k, K ≤ k → synopticlaw38_ScoreSummaries.l1 k R (R.length : Int) (i : Int) = some true := by
  intro d
  induction d with
  | zero =>
    intro i hd
    refine ⟨1, fun k hk => ?_⟩
    obtain ⟨k, rfl⟩ : ∃ m, k = m + 1 := ⟨k - 1, by omega⟩
    simp only [synopticlaw38_ScoreSummaries.l1]
    rw [if_neg (by omega)]
  | succ d ih =>
    intro i hd
    obtain ⟨K0, h0⟩ := ih (i + 1) (by omega)
    obtain ⟨x, hx⟩ : ∃ x, x = rd_T52 R (i : Int) := ⟨_, rfl⟩
    obtain ⟨r1, e1⟩ := merge_same x.f0.f0 x.f0.f1 x.f0.f2 x.f0.f3 x.f1.f0 x.f1.f1 x.f1.f2 x.f1.f3
    obtain ⟨K2, r2, e2⟩ := mean_same x.f0.f1 x.f0.f0
    obtain ⟨K3, r3, e3⟩ := mean_same x.f0.f3 x.f0.f0
    obtain ⟨K4, r4, e4⟩ := skill_same x.f0.f0 x.f0.f1 x.f0.f2 x.f0.f3 x.f1.f0 x.f1.f1 x.f1.f2 x.f1.f3
    have hw := wrap_next i (by omega)
    have hi : (i : Int) < (R.length : Int) := by omega
    have hi0 : (0 : Int) ≤ (i : Int) := by omega
    refine ⟨K0 + K2 + K3 + K4 + 11, fun k hk => ?_⟩
    obtain ⟨k, rfl⟩ : ∃ m, k = m + 1 := ⟨k - 1, by omega⟩
    have m1 : score_Mean.f k x.f0.f0 x.f0.f1 x.f0.f2 x.f0.f3 = some r2 := by unfold score_Mean.f; rw [(e2 k (by omega)).1]; rfl
    have m2 : synopticref38_Mean.f k x.f0.f0 x.f0.f1 x.f0.f2 x.f0.f3 = some r2 := by unfold synopticref38_Mean.f; rw [(e2 k (by omega)).2]; rfl
    have m3 : score_MeanSquare.f k x.f0.f0 x.f0.f1 x.f0.f2 x.f0.f3 = some r3 := by unfold score_MeanSquare.f; rw [(e3 k (by omega)).1]; rfl
    have m4 : synopticref38_MeanSquare.f k x.f0.f0 x.f0.f1 x.f0.f2 x.f0.f3 = some r3 := by unfold synopticref38_MeanSquare.f; rw [(e3 k (by omega)).2]; rfl
    conv => lhs; rw [synopticlaw38_ScoreSummaries.l1]
    rw [if_pos hi, if_pos hi0, if_pos hi, ← hx, (e1 k (by omega)).1]
    refine (Option.bind_some _ _).trans ?_
    rw [(e1 k (by omega)).2]
    refine (Option.bind_some _ _).trans ?_
    rw [m1]
    refine (Option.bind_some _ _).trans ?_
    rw [m2]
    refine (Option.bind_some _ _).trans ?_
    rw [m3]
    refine (Option.bind_some _ _).trans ?_
    rw [m4]
    refine (Option.bind_some _ _).trans ?_
    rw [(e4 k (by omega)).1]
    refine (Option.bind_some _ _).trans ?_
    rw [(e4 k (by omega)).2]
    refine (Option.bind_some _ _).trans ?_
    rw [if_pos rfl, if_neg (by simp), if_pos rfl, if_neg (by simp), if_pos rfl, if_neg (by simp), if_pos rfl, if_neg (by simp), hw]
    exact h0 k (by omega)
theorem summ_l0 (t : Int) (R : List (List S40)) (hR : R.length ≤ 1000) (a0 a1 a2 a3 b0 b1 b2 b3 : Int) : ∀ (d i : Nat), i + d = R.length → ∃ K, ∀ k, K ≤ k → synopticlaw38_ScoreSummaries.l0 k t R (R.length : Int) (i : Int) a0 a1 a2 a3 b0 b1 b2 b3 = some true := by
  intro d
  induction d with
  | zero =>
    intro i hd
    obtain ⟨x, hx⟩ := little_some a0 a1 a2 a3
    obtain ⟨y, hy⟩ := little_some b0 b1 b2 b3
    obtain ⟨K, hK⟩ := summ_l1 [(⟨(⟨a0, a1, a2, a3⟩ : S42), (⟨b0, b1, b2, b3⟩ : S42)⟩ : S52), (⟨(⟨x.1, x.2.1, x.2.2.1, x.2.2.2⟩ : S42), (⟨y.1, y.2.1, y.2.2.1, y.2.2.2⟩ : S42)⟩ : S52), (⟨(⟨x.1, x.2.1, x.2.2.1, x.2.2.2⟩ : S42), (⟨b0, b1, b2, b3⟩ : S42)⟩ : S52), (⟨(⟨x.1, x.2.1, x.2.2.1, x.2.2.2⟩ : S42), (⟨x.1, 0, 0, b3⟩ : S42)⟩ : S52)] (by simp) 4 0 rfl
    refine ⟨K + 1, fun k hk => ?_⟩
    obtain ⟨k, rfl⟩ : ∃ m, k = m + 1 := ⟨k - 1, by omega⟩
    conv => lhs; rw [synopticlaw38_ScoreSummaries.l0]
    rw [if_neg (by omega), hx, hy]
    refine (Option.bind_some _ _).trans ((Option.bind_some _ _).trans ((Option.bind_some _ _).trans ((Option.bind_some _ _).trans ((Option.bind_some _ _).trans ((Option.bind_some _ _).trans ?_)))))
    exact hK k (by omega)
  | succ d ih =>
    intro i hd
    obtain ⟨K0, h0⟩ := ih (i + 1) (by omega)
    obtain ⟨m, hm⟩ := mod_some t 9 (by omega) (by omega)
    obtain ⟨r1, e1⟩ := of_same (rd_L3 R (i : Int))
    obtain ⟨r2, e2⟩ := table_same (rd_L3 R (i : Int)) t
    obtain ⟨r3, e3⟩ := table_same (rd_L3 R (i : Int)) m
    have hw := wrap_next i (by omega)
    have hi : (i : Int) < (R.length : Int) := by omega
    have hi0 : (0 : Int) ≤ (i : Int) := by omega
    refine ⟨K0 + 30002, fun k hk => ?_⟩
    obtain ⟨k, rfl⟩ : ∃ j, k = j + 1 := ⟨k - 1, by omega⟩
    have hk3 : 30000 < k := by omega
    conv => lhs; rw [synopticlaw38_ScoreSummaries.l0]
    rw [if_pos hi, if_pos hi0, if_pos hi, (e1 k hk3).1]
    refine (Option.bind_some _ _).trans ?_
    rw [(e1 k hk3).2]
    refine (Option.bind_some _ _).trans ?_
    rw [(e2 k hk3).1]
    refine (Option.bind_some _ _).trans ?_
    rw [(e2 k hk3).2]
    refine (Option.bind_some _ _).trans ?_
    rw [hm]
    refine (Option.bind_some _ _).trans ?_
    rw [(e3 k hk3).1]
    refine (Option.bind_some _ _).trans ((Option.bind_some _ _).trans ?_)
    rw [(e3 k hk3).2]
    refine (Option.bind_some _ _).trans ?_
    rw [if_pos rfl, if_neg (by simp), if_pos rfl, if_neg (by simp), if_pos rfl, if_neg (by simp), hw]
    exact h0 k (by omega)
theorem summaries_some (l0 : List S40) (l1 : List Int) (hb : Bytes l1) (t a0 a1 a2 a3 b0 b1 b2 b3 : Int) : ∃ k, synopticlaw38_ScoreSummaries.f k l0 l1 t a0 a1 a2 a3 b0 b1 b2 b3 = some true := by
  unfold synopticlaw38_ScoreSummaries.f
  by_cases h : (l0.length : Int) > 60
  · refine ⟨10, ?_⟩
    rw [awake_sum 10 (by omega)]
    refine (Option.bind_some _ _).trans ?_
    rw [if_pos rfl, if_pos h]
  · obtain ⟨c, q, e, _⟩ := pairs_some (hb.take 160) 1001 (by omega) 12 (by omega) (by omega)
    have e2 : ∀ k, 1001 ≤ k → synopticfield_Codes_Pairs.f k (l1.take 160) 0 12 = some (c, q) := fun k hk => leO_up synopticfield_Codes_Pairs.mono k 1001 hk e
    obtain ⟨K, hK⟩ := summ_l0 t [l0, c] (by simp) a0 a1 a2 a3 b0 b1 b2 b3 2 0 rfl
    refine ⟨K + 1010, ?_⟩
    rw [awake_sum (K + 1010) (by omega)]
    refine (Option.bind_some _ _).trans ?_
    rw [if_pos rfl, if_neg h, new_some l1 160 (by omega)]
    refine (Option.bind_some _ _).trans ?_
    rw [show ((160 : Int).toNat) = 160 from rfl, e2 (K + 1010) (by omega)]
    refine (Option.bind_some _ _).trans ((Option.bind_some _ _).trans ?_)
    exact hK (K + 1010) (by omega)
end Go.Proofs.Ytbnjbdjjedndbaa.B
