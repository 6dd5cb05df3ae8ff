/- The statement SamplingIntervals without Go: it answers true for every list of codes and all four numbers. -/
import Derived.Test.YtcgjgpdandjicaaLIntervals
import Derived.Test.YtcgjgpdandjicaaIvas
import Derived.Test.YtcgjgpdandjicaaSamp
namespace Go.Proofs.Ytcgjgpdandjicaa.B
open Go.RowKit Go.Proofs.YtcgjgpdandjicaaW.PrintWords Go.Proofs.YtcgjgpdandjicaaW.PrintLast Go.Proofs.YtcgjgpdandjicaaW.PrintMore
open Go.Proofs.Ytcgjgpdandjicaa.Smp
set_option linter.unusedVariables false
set_option linter.unusedSimpArgs false
theorem tailN_left (m i : Nat) (h : i ≤ m + 1) : tailN (m : Int) ((i : Int) - 1) = i := by
  unfold tailN
  repeat' split
  all_goals omega
theorem tailN_right (m i : Nat) (h : i ≤ m + 1) : tailN (m : Int) ((m : Int) - (i : Int)) = m + 1 - i := by
  unfold tailN
  repeat' split
  all_goals omega
theorem mod_u8 (x : Int) (h0 : 0 ≤ x) (h1 : x ≤ 255) (d : Nat) (hd : 1 ≤ d) (hd2 : d ≤ 255) : ∃ m : Nat, Int.tmod (wrap64 x) (d : Int) = (m : Int) ∧ m < d := by
  have hw : wrap64 x = x := by unfold wrap64; omega
  rw [hw, Int.tmod_eq_emod_of_nonneg h0]
  have a := Int.emod_nonneg x (show (d : Int) ≠ 0 by omega)
  have b := Int.emod_lt_of_pos x (show (0 : Int) < d by omega)
  exact ⟨(x % (d : Int)).toNat, by omega, by omega⟩
theorem shl_u64 (m M : Nat) (hm : m ≤ 50) (hM : 2 ^ m = M) (hM2 : M ≤ 1125899906842624) : shl .i64 1 (IntKind.u64.wrap (m : Int)) = (M : Int) := by
  rw [u64_small (by omega) (by omega)]
  exact shl_one m M hm hM hM2
theorem wrap_two (m : Nat) (h : m ≤ 1000) : wrap64 ((m : Int) + 2) = ((m + 2 : Nat) : Int) := by unfold wrap64; omega
theorem wrap_pred (i : Nat) (h : i ≤ 1000) : wrap64 ((i : Int) - 1) = (i : Int) - 1 := by unfold wrap64; omega
theorem wrap_dif (m i : Nat) (h : m ≤ 1000) (h2 : i ≤ 1000) : wrap64 ((m : Int) - (i : Int)) = (m : Int) - (i : Int) := by unfold wrap64; omega
theorem le_one {a b k : Nat} (h : a + b + 1 ≤ k + 1) : a ≤ k := by omega
theorem le_two {a b k : Nat} (h : a + b + 1 ≤ k + 1) : b ≤ k := by omega
theorem inter_j1 (x3 x4 : Int) (h3 : 0 ≤ x3 ∧ x3 ≤ 255) (h4 : 0 ≤ x4 ∧ x4 ≤ 255) : ∃ K, ∀ k, K ≤ k → synopticlaw39_SamplingIntervals.j1 k x3 x4 false = some true := by
  obtain ⟨m, e1, hm⟩ := mod_u8 x3 h3.1 h3.2 51 (by decide) (by decide)
  obtain ⟨i, e3, hi⟩ := mod_u8 x4 h4.1 h4.2 (m + 2) (by omega) (by omega)
  have hu : (0 : Int) ≤ IntKind.u64.wrap (m : Int) := by rw [u64_small (by omega) (by omega)]; omega
  have n2 : ¬ ((m + 2 : Nat) : Int) = 0 := by omega
  have hi1 : i ≤ m + 1 := by omega
  have hm5 : m ≤ 50 := by omega
  obtain ⟨M, hM⟩ : ∃ M, 2 ^ m = M := ⟨_, rfl⟩
  have hMM := two_pow_le hm5
  rw [hM] at hMM
  have hM1 : (1 : Int) ≤ (M : Int) := by have := hMM.1; omega
  have hM2 : (M : Int) ≤ 1125899906842624 := by have := hMM.2; omega
  obtain ⟨g1, p1, p2, ht1, hg1, hx1, hy1, hp2⟩ := tail_frac m hm5 ((i : Int) - 1) i (tailN_left m i hi1) M hM
  obtain ⟨g2, q1, q2, ht2, hg2, hx2, hy2, hq2⟩ := tail_frac m hm5 ((m : Int) - (i : Int)) (m + 1 - i) (tailN_right m i hi1) M hM
  have hsum := tsum_both m i (m + 1 - i) (by omega)
  rw [hM] at hsum
  generalize tsum m i = T1 at *
  generalize tsum m (m + 1 - i) = T2 at *
  obtain ⟨K1, h1⟩ := tail_some (m : Int) ((i : Int) - 1)
  obtain ⟨K2, h2⟩ := tail_some (m : Int) ((m : Int) - (i : Int))
  rw [ht1] at h1
  rw [ht2] at h2
  have b1 := part_back g1 p1 p2 (M : Int) (T1 : Int) hg1 hx1 hy1 hp2 hM2 hM1 (Int.natCast_nonneg _) (by omega)
  have b2 := part_back g2 q1 q2 (M : Int) (T2 : Int) hg2 hx2 hy2 hq2 hM2 hM1 (Int.natCast_nonneg _) (by omega)
  have hsumI : (T1 : Int) + (T2 : Int) = (M : Int) := by omega
  have hred := red_one (M : Int) hM1 hM2
  have hsh := shl_u64 m M hm5 hM hMM.2
  have e2 : wrap64 ((m : Int) + 2) = ((m + 2 : Nat) : Int) := wrap_two m (Nat.le_trans hm5 (by decide))
  have e4 : wrap64 ((i : Int) - 1) = (i : Int) - 1 := wrap_pred i (Nat.le_trans hi1 (Nat.le_trans (Nat.succ_le_succ hm5) (by decide)))
  have e5 : wrap64 ((m : Int) - (i : Int)) = (m : Int) - (i : Int) := wrap_dif m i (Nat.le_trans hm5 (by decide)) (Nat.le_trans hi1 (Nat.le_trans (Nat.succ_le_succ hm5) (by decide)))
  have e6 : wrap64 (M : Int) = (M : Int) := wrap_id (Int.le_trans (by decide) hM1) (Int.le_trans hM2 (by decide))
  have np : ¬ p2 < 1 := Int.not_lt.2 hp2
  have nq : ¬ q2 < 1 := Int.not_lt.2 hq2
  have np0 : ¬ p2 = 0 := fun h => by rw [h] at hp2; exact absurd hp2 (by decide)
  have nq0 : ¬ q2 = 0 := fun h => by rw [h] at hq2; exact absurd hq2 (by decide)
  refine ⟨K1 + K2 + 1, fun k hk => ?_⟩
  obtain ⟨k, rfl⟩ : ∃ q, k = q + 1 := ⟨k - 1, (Nat.succ_pred_eq_of_pos (Nat.lt_of_lt_of_le (Nat.succ_pos _) hk)).symm⟩
  have h1k := h1 k (le_one hk)
  have h2k := h2 k (le_two hk)
  simp only [synopticlaw39_SamplingIntervals.j1]
  rw [if_neg (by decide)]
  rw [show ((51 : Nat) : Int) = 51 from rfl] at e1
  rw [e1, e2, if_neg n2, e3, e4, e5, h1k]
  refine Eq.trans (Option.bind_some _ _) ?_
  rw [h2k]
  refine Eq.trans (Option.bind_some _ _) ?_
  try dsimp only
  rw [if_neg np, if_neg nq, if_pos hu, if_neg np0, if_neg nq0, hsh, b1, b2, hsumI, e6]
  unfold score_Reduce.f
  rw [hred]
  refine Eq.trans (Option.bind_some _ _) ?_
  try dsimp only
  rw [if_pos rfl, if_pos rfl, if_pos rfl]
  rfl
theorem rank_lev (n m : Nat) (hn : n ≤ 50) (hm : m ≤ 100) : rankR (n : Int) (lev m).1 (lev m).2 = ((rk n (lev m).1 (lev m).2 : Int), 0) ∧ 1 ≤ (lev m).2 ∧ (lev m).2 ≤ 1000000 ∧ 0 ≤ (lev m).1 ∧ (lev m).1 ≤ 1000000 := by
  have hr : reducedB (lev m).1 (lev m).2 = true := lev_all ⟨m, by omega⟩
  refine ⟨?_, ?_⟩
  · unfold rankR
    rw [if_pos ⟨by omega, hr⟩]
    rfl
  · unfold reducedB at hr
    simp only [Bool.and_eq_true, decide_eq_true_eq] at hr
    exact ⟨hr.1.1, hr.1.2, hr.2.1.1, Int.le_trans hr.2.1.2 hr.1.2⟩
/-- Median of a sample and a level of the statement. -/
theorem med_lev (l : List Int) (hl : l.length ≤ 50) (hf : Fine l) (m : Nat) (hm : m ≤ 100) : ∃ r : Nat, r = rk l.length (lev m).1 (lev m).2 ∧ r ≤ l.length ∧ (1 ≤ r → 2 * r ≤ l.length + 1) ∧
    medR l (lev m).1 (lev m).2 = if r = 0 then (0, 0, 9) else (rd (asc l) ((r : Int) - 1), rd (asc l) ((l.length : Int) - (r : Int)), 0) := by
  obtain ⟨hr, hb, hb2, ha, ha2⟩ := rank_lev l.length m hl hm
  refine ⟨_, rfl, rk_le _ _ _ hb ha, rk_half _ _ _ hb ha, ?_⟩
  unfold medR
  rw [if_neg (by omega), if_neg (by rw [(outB_fine l).2 hf]; decide), hr]
  try dsimp only
  rw [if_pos rfl]
  by_cases h : rk l.length (lev m).1 (lev m).2 = 0
  · rw [if_pos h, if_pos (by rw [h]; rfl)]
  · rw [if_neg h, if_neg (by omega)]
theorem median_some (l : List Int) (a b : Int) (h : l.length ≤ 1000) : sampling_Median.f l a b = some (medR l a b) := by
  unfold sampling_Median.f
  rw [if_pos (by omega)]
theorem int_pred (r : Nat) (h : 1 ≤ r) : (r : Int) - 1 = ((r - 1 : Nat) : Int) := by omega
theorem int_dif (n r : Nat) (h : r ≤ n) : (n : Int) - (r : Int) = ((n - r : Nat) : Int) := by omega
theorem inter_j0 (x3 x4 : Int) (h3 : 0 ≤ x3 ∧ x3 ≤ 255) (h4 : 0 ≤ x4 ∧ x4 ≤ 255) (l : List Int) (hl : l.length ≤ 50) (hf : Fine l) (m1 m2 : Nat) (hm1 : m1 ≤ 100) (hm2 : m2 ≤ 100)
    (hcmp : (lev m1).1 * (lev m2).2 ≤ (lev m2).1 * (lev m1).2) : ∃ K, ∀ k, K ≤ k → synopticlaw39_SamplingIntervals.j0 k x3 x4 l (lev m1).1 (lev m1).2 (lev m2).1 (lev m2).2 = some true := by
  obtain ⟨K, hK⟩ := inter_j1 x3 x4 h3 h4
  obtain ⟨r1, e1, a1, b1, c1⟩ := med_lev l hl hf m1 hm1
  obtain ⟨r2, e2, a2, b2, c2⟩ := med_lev l hl hf m2 hm2
  have hle : r2 ≤ r1 := by rw [e1, e2]; exact rk_anti l.length _ _ _ _ (rank_lev l.length m1 hl hm1).2.1 (rank_lev l.length m2 hl hm2).2.1 hcmp
  clear e1 e2
  refine ⟨K + 1002, fun k hk => ?_⟩
  obtain ⟨k, rfl⟩ : ∃ q, k = q + 1 := ⟨k - 1, by omega⟩
  have hKk := hK k (by omega)
  simp only [synopticlaw39_SamplingIntervals.j0]
  rw [median_some l _ _ (by omega), median_some l _ _ (by omega)]
  refine Eq.trans (Option.bind_some _ _) (Eq.trans (Option.bind_some _ _) ?_)
  rw [c1, c2]
  by_cases z1 : r1 = 0
  · rw [if_pos z1, if_pos (show r2 = 0 by omega)]
    try dsimp only
    rw [if_neg (by decide), if_neg (by decide)]
    exact hKk
  · have hb := b1 (by omega)
    have q1 : r1 - 1 ≤ l.length - r1 := by omega
    have q2 : l.length - r1 < l.length := by omega
    have h1 := asc_le l (r1 - 1) (l.length - r1) q1 q2
    have i1 := in_true l (by omega) _ (asc_mem l (r1 - 1) (by omega)) k (by omega)
    have i2 := in_true l (by omega) _ (asc_mem l (l.length - r1) q2) k (by omega)
    rw [if_neg z1, int_pred r1 (by omega), int_dif l.length r1 a1]
    try dsimp only
    rw [if_pos rfl, if_neg (Int.not_lt.2 h1), i1]
    refine Eq.trans (Option.bind_some _ _) ?_
    rw [if_pos rfl, i2]
    refine Eq.trans (Option.bind_some _ _) ?_
    rw [if_pos rfl]
    by_cases z2 : r2 = 0
    · rw [if_pos z2]
      try dsimp only
      rw [if_neg (by decide)]
      exact hKk
    · have g1 := asc_le l (r2 - 1) (r1 - 1) (by omega) (by omega)
      have g2 := asc_le l (l.length - r1) (l.length - r2) (by omega) (by omega)
      rw [if_neg z2, int_pred r2 (by omega), int_dif l.length r2 a2]
      try dsimp only
      rw [if_pos rfl, if_neg (Int.not_lt.2 g1), if_neg (Int.not_lt.2 g2)]
      exact hKk
theorem sample_up {k n : Nat} (h : k ≤ n) {a : List Int} {b c : Int} {r : List Int × Int} (e : synopticlaw39_sample.f k a b c = some r) : synopticlaw39_sample.f n a b c = some r := by
  obtain ⟨d, rfl⟩ : ∃ d, n = k + d := ⟨n - k, by omega⟩
  induction d with
  | zero => exact e
  | succ d ih => exact synopticlaw39_sample.mono _ _ _ (k + d) r (ih (by omega))
theorem mn_u8 (a b : Int) (ha : 0 ≤ a ∧ a ≤ 255) (hb : 0 ≤ b ∧ b ≤ 255) : 0 ≤ wrap64 (mn a b) ∧ wrap64 (mn a b) ≤ 255 := by
  have : 0 ≤ mn a b ∧ mn a b ≤ 255 := by unfold mn; split <;> omega
  generalize mn a b = x at this ⊢
  unfold wrap64; omega
theorem mx_u8 (a b : Int) (ha : 0 ≤ a ∧ a ≤ 255) (hb : 0 ≤ b ∧ b ≤ 255) : 0 ≤ wrap64 (mx a b) ∧ wrap64 (mx a b) ≤ 255 := by
  have : 0 ≤ mx a b ∧ mx a b ≤ 255 := by unfold mx; split <;> omega
  generalize mx a b = x at this ⊢
  unfold wrap64; omega
theorem lev_cmp (m1 m2 : Nat) (h1 : m1 ≤ 100) (h2 : m2 ≤ 100) : score_Compare.f (lev m1).1 (lev m1).2 (lev m2).1 (lev m2).2 = some (cmpI ((lev m1).1 * (lev m2).2) ((lev m2).1 * (lev m1).2)) := by
  obtain ⟨_, a, b, c, d⟩ := rank_lev 0 m1 (by decide) h1
  obtain ⟨_, a', b', c', d'⟩ := rank_lev 0 m2 (by decide) h2
  unfold score_Compare.f
  rw [if_pos ⟨⟨Int.le_trans (by decide) c, Int.le_trans d (by decide)⟩, ⟨a, Int.le_trans b (by decide)⟩, ⟨Int.le_trans (by decide) c', Int.le_trans d' (by decide)⟩, ⟨a', Int.le_trans b' (by decide)⟩⟩]
theorem u8_of {x : Int} (h : (Lit.int .u8 x).wf = true) : 0 ≤ x ∧ x ≤ 255 := bytes_of (s := [x]) (fun y hy => by rw [List.mem_singleton] at hy; rw [hy]; exact h) x (List.mem_singleton.2 rfl)
theorem inter_pure : synopticlaw39_SamplingIntervals.Pure := by
  intro s a b n k _ hs hy ha hb hn hk
  obtain ⟨c, e1, hc⟩ := new_some s (bytes_of hy) (by omega) 80 (by omega)
  obtain ⟨l, q, e2, hf, hl, _, _⟩ := sample_some hc 1000 (by omega) 0 20 (by omega) (by omega) (by omega)
  obtain ⟨m1, hm1, K1, h1⟩ := level_lev 0 _ (mn_u8 a b (u8_of ha) (u8_of hb))
  obtain ⟨m2, hm2, K2, h2⟩ := level_lev 0 _ (mx_u8 a b (u8_of ha) (u8_of hb))
  have hl2 : l.length ≤ 50 := by omega
  unfold synopticlaw39_SamplingIntervals.f
  rw [awake_true]
  by_cases hc : (lev m1).1 * (lev m2).2 ≤ (lev m2).1 * (lev m1).2
  · obtain ⟨K, hK⟩ := inter_j0 n k (u8_of hn) (u8_of hk) l hl2 hf m1 m2 hm1 hm2 hc
    refine ⟨K + K1 + K2 + 1000, ?_⟩
    refine Eq.trans (Option.bind_some _ _) ?_
    rw [if_pos rfl, e1]
    refine Eq.trans (Option.bind_some _ _) ?_
    rw [sample_up (by omega) e2]
    refine Eq.trans (Option.bind_some _ _) ?_
    rw [h1 _ (by omega)]
    refine Eq.trans (Option.bind_some _ _) ?_
    rw [h2 _ (by omega)]
    refine Eq.trans (Option.bind_some _ _) ?_
    rw [lev_cmp m1 m2 hm1 hm2]
    refine Eq.trans (Option.bind_some _ _) ?_
    rw [if_neg (Int.not_lt.2 (cmpI_le0.2 hc))]
    exact hK _ (by omega)
  · obtain ⟨K, hK⟩ := inter_j0 n k (u8_of hn) (u8_of hk) l hl2 hf m2 m1 hm2 hm1 (Int.le_of_lt (Int.not_le.1 hc))
    refine ⟨K + K1 + K2 + 1000, ?_⟩
    refine Eq.trans (Option.bind_some _ _) ?_
    rw [if_pos rfl, e1]
    refine Eq.trans (Option.bind_some _ _) ?_
    rw [sample_up (by omega) e2]
    refine Eq.trans (Option.bind_some _ _) ?_
    rw [h1 _ (by omega)]
    refine Eq.trans (Option.bind_some _ _) ?_
    rw [h2 _ (by omega)]
    refine Eq.trans (Option.bind_some _ _) ?_
    rw [lev_cmp m1 m2 hm1 hm2]
    refine Eq.trans (Option.bind_some _ _) ?_
    rw [if_pos (cmpI_pos.2 (Int.not_le.1 hc))]
    exact hK _ (by omega)
end Go.Proofs.Ytcgjgpdandjicaa.B
