/- The reference's Choose, Tail, Ranks and Median answer as the program's do. -/
import Derived.Test.YtcgjgpdandjicaaMedA
import Derived.Test.YtcgjgpdandjicaaBP
import Derived.Test.YtcgjgpdandjicaaBS
namespace Go.Proofs.Ytcgjgpdandjicaa.B
open Go.RowKit Go.Proofs.YtcgjgpdandjicaaW.PrintWords Go.Proofs.YtcgjgpdandjicaaW.PrintLast Go.Proofs.YtcgjgpdandjicaaW.PrintMore
set_option linter.unusedVariables false
set_option linter.unusedSimpArgs false
theorem rchoose_l1 (n : Nat) (hn : n ≤ 59) (x0 x1 x21 : Int) (r : Option (Int × Int)) (K : Nat) (hK : ∀ k, K ≤ k → synopticref39_Choose.l0 k x0 x1 (prow (n + 1)) (wrap64 (x21 + 1)) = r) : ∀ (d k i : Nat), i + d = n + 1 → K + d < k →
    synopticref39_Choose.l1 k x0 x1 (prow n) x21 (mid n i) (i : Int) = r := by
  intro d
  induction d with
  | zero =>
    intro k i hd hk
    obtain ⟨k, rfl⟩ : ∃ m, k = m + 1 := ⟨k - 1, by omega⟩
    obtain rfl : i = n + 1 := by omega
    simp only [synopticref39_Choose.l1]
    rw [prow_length, if_neg (by omega), mid_all]
    exact hK k (by omega)
  | succ d ih =>
    intro k i hd hk
    obtain ⟨k, rfl⟩ : ∃ m, k = m + 1 := ⟨k - 1, by omega⟩
    have hi : i ≤ n := by omega
    have hw : wrap64 ((i : Int) + 1) = ((i + 1 : Nat) : Int) := by unfold wrap64; omega
    have hs := mid_step n i hn hi
    have ih' := ih k (i + 1) (by omega) (by omega)
    rw [← hs] at ih'
    simp only [synopticref39_Choose.l1]
    rw [hw, mid_length, prow_length]
    rw [if_pos (by omega), if_pos (by omega), if_pos (by omega)]
    refine Eq.trans (Option.bind_some _ _) ?_
    try dsimp only
    rw [if_pos (by omega), if_pos (by omega)]
    exact ih'
theorem rchoose_l0 (N j : Nat) (hN : N ≤ 60) (hj : j ≤ N) : ∀ (d n : Nat), n + d = N → ∃ K, ∀ k, K ≤ k → synopticref39_Choose.l0 k (N : Int) (j : Int) (prow n) (n : Int) = some ((bin N j : Int), 0) := by
  intro d
  induction d with
  | zero =>
    intro n hd
    refine ⟨1, fun k hk => ?_⟩
    obtain ⟨k, rfl⟩ : ∃ m, k = m + 1 := ⟨k - 1, by omega⟩
    obtain rfl : n = N := by omega
    simp only [synopticref39_Choose.l0]
    rw [if_neg (by omega), if_pos (by omega), prow_length, if_pos (by omega), prow_rd n j hj]
  | succ d ih =>
    intro n hd
    obtain ⟨K, hK⟩ := ih (n + 1) (by omega)
    refine ⟨K + n + 5, fun k hk => ?_⟩
    obtain ⟨k, rfl⟩ : ∃ m, k = m + 1 := ⟨k - 1, by omega⟩
    have hw : wrap64 (((n + 1 : Nat) : Int) + 1) = ((n + 2 : Nat) : Int) := by unfold wrap64; omega
    have hw2 : wrap64 ((n : Int) + 1) = ((n + 1 : Nat) : Int) := by unfold wrap64; omega
    simp only [synopticref39_Choose.l0]
    rw [if_pos (by omega), prow_length, hw, if_pos (by omega)]
    simp only [Int.toNat_natCast]
    rw [if_pos (by omega), ← mid_zero]
    refine rchoose_l1 n (by omega) (N : Int) (j : Int) (n : Int) _ K (fun k hk => ?_) (n + 1) k 0 (by omega) (by omega)
    rw [hw2]
    exact hK k hk

theorem rchoose_some (n k : Int) : ∃ K, ∀ m, K ≤ m → synopticref39_Choose.f m n k = some (chooseR n k) := by
  unfold synopticref39_Choose.f chooseR
  by_cases h : 0 ≤ n ∧ n ≤ 60 ∧ 0 ≤ k ∧ k ≤ n
  · obtain ⟨N, rfl⟩ : ∃ N : Nat, n = N := ⟨n.toNat, by omega⟩
    obtain ⟨j, rfl⟩ : ∃ j : Nat, k = j := ⟨k.toNat, by omega⟩
    obtain ⟨K, hK⟩ := rchoose_l0 N j (by omega) (by omega) N 0 (by omega)
    refine ⟨K + 1, fun m hm => ?_⟩
    obtain ⟨m, rfl⟩ : ∃ q, m = q + 1 := ⟨m - 1, by omega⟩
    rw [if_pos h, if_neg (by omega), if_neg (by omega), if_neg (by omega), decide_eq_false (by omega)]
    simp only [synopticref39_Choose.j0]
    rw [if_neg (by simp)]
    exact hK m (by omega)
  · refine ⟨1, fun m hm => ?_⟩
    obtain ⟨m, rfl⟩ : ∃ q, m = q + 1 := ⟨m - 1, by omega⟩
    rw [if_neg h]
    simp only [synopticref39_Choose.j0]
    repeat' split
    all_goals first | rfl | (exfalso; first | omega | (simp_all; done) | (simp_all; omega))
end Go.Proofs.Ytcgjgpdandjicaa.B
namespace Go.Proofs.Ytcgjgpdandjicaa.B
open Go.RowKit Go.Proofs.YtcgjgpdandjicaaW.PrintWords Go.Proofs.YtcgjgpdandjicaaW.PrintLast Go.Proofs.YtcgjgpdandjicaaW.PrintMore
set_option linter.unusedVariables false
set_option linter.unusedSimpArgs false
theorem rtail_l0 (m : Nat) (hm : m ≤ 50) (x1 : Int) : ∀ (d i : Nat), i + d = tailN m x1 → ∃ K, ∀ k, K ≤ k → synopticref39_Tail.l0 k (m : Int) x1 (tsum m i : Int) (i : Int) = some (red (tsum m (tailN m x1) : Int) ((2 ^ m : Nat) : Int)) := by
  have hu : IntKind.u64.wrap (m : Int) = (m : Int) := u64_small (by omega) (by omega)
  intro d
  induction d with
  | zero =>
    intro i hd
    obtain ⟨K, hK⟩ := refred_some (tsum m (tailN m x1) : Int) ((2 ^ m : Nat) : Int)
    refine ⟨K + 1, fun k hk => ?_⟩
    obtain ⟨k, rfl⟩ : ∃ q, k = q + 1 := ⟨k - 1, by omega⟩
    obtain rfl : i = tailN m x1 := by omega
    simp only [synopticref39_Tail.l0]
    rw [if_neg (by rw [tail_cond]; omega), hu, if_pos (by omega), shl_one m _ hm rfl (two_pow_le hm).2, hK k (by omega)]
    rfl
  | succ d ih =>
    intro i hd
    have hN := tailN_le m x1
    obtain ⟨K1, h1⟩ := ih (i + 1) (by omega)
    obtain ⟨K2, h2⟩ := rchoose_some (m : Int) (i : Int)
    refine ⟨K1 + K2 + 1, fun k hk => ?_⟩
    obtain ⟨k, rfl⟩ : ∃ q, k = q + 1 := ⟨k - 1, by omega⟩
    have hw : wrap64 ((i : Int) + 1) = ((i + 1 : Nat) : Int) := by unfold wrap64; omega
    simp only [synopticref39_Tail.l0]
    rw [if_pos ((tail_cond m i x1).2 (by omega)), h2 k (by omega), chooseR_at m i hm (by omega)]
    refine Eq.trans (Option.bind_some _ _) ?_
    try dsimp only
    rw [tail_add m i hm, hw]
    exact h1 k (by omega)
theorem rtail_some (n k : Int) : ∃ K, ∀ m, K ≤ m → synopticref39_Tail.f m n k = some (tailR n k) := by
  unfold synopticref39_Tail.f tailR
  by_cases h : 0 ≤ n ∧ n ≤ 50
  · obtain ⟨N, rfl⟩ : ∃ N : Nat, n = N := ⟨n.toNat, by omega⟩
    obtain ⟨K, hK⟩ := rtail_l0 N (by omega) k (tailN N k) 0 (by omega)
    refine ⟨K + 1, fun m hm => ?_⟩
    obtain ⟨m, rfl⟩ : ∃ q, m = q + 1 := ⟨m - 1, by omega⟩
    rw [if_pos h, if_neg (by omega), decide_eq_false (by omega)]
    simp only [synopticref39_Tail.j0]
    rw [if_neg (by simp)]
    exact hK m (by omega)
  · refine ⟨1, fun m hm => ?_⟩
    obtain ⟨m, rfl⟩ : ∃ q, m = q + 1 := ⟨m - 1, by omega⟩
    rw [if_neg h]
    simp only [synopticref39_Tail.j0]
    repeat' split
    all_goals first | rfl | (exfalso; first | omega | (simp_all; done) | (simp_all; omega))
theorem level_some (a b : Int) : ∃ K, ∀ k, K ≤ k → synopticref39_level.f k a b = some (reducedB a b) := by
  obtain ⟨K, hK⟩ := refred_some a b
  refine ⟨K, fun k hk => ?_⟩
  unfold synopticref39_level.f reducedB
  rw [hK k hk]
  by_cases h : (1 ≤ b ∧ b ≤ 1000000) ∧ (0 ≤ a ∧ a ≤ b)
  · rw [if_neg (by omega), if_neg (by omega), if_neg (by omega), if_neg (by omega), decide_eq_true h.1, decide_eq_true h.2]
    simp
  · have e : (decide (1 ≤ b ∧ b ≤ 1000000) && (decide (0 ≤ a ∧ a ≤ b) && ((red a b).1 == a && (red a b).2.1 == b))) = false := by
      by_cases h1 : 1 ≤ b ∧ b ≤ 1000000
      · rw [decide_eq_false (p := 0 ≤ a ∧ a ≤ b) (by omega)]; simp
      · rw [decide_eq_false h1]; simp
    rw [e]
    repeat' split
    all_goals first | rfl | (exfalso; omega)
theorem product_pos (x y : Int) (hx : 0 ≤ x ∧ x ≤ 1152921504606846976) (hy : 0 ≤ y ∧ y ≤ 1152921504606846976) (hp : x * y < 18446744073709551616 * 9223372036854775808) :
    synopticref22_Product.f x y = some ((x * y) / 18446744073709551616, (x * y) % 18446744073709551616) := by
  have h0 : 0 ≤ x * y := Int.mul_nonneg hx.1 hy.1
  unfold synopticref22_Product.f synopticref22_size.f
  rw [if_neg (by omega), if_neg (by omega), u64_small (by omega) (by omega), u64_small (by omega) (by omega)]
  refine Eq.trans (Option.bind_some _ _) ?_
  refine Eq.trans (Option.bind_some _ _) ?_
  rw [mul_word x y hx hy]
  refine Eq.trans (Option.bind_some _ _) ?_
  dsimp only
  rw [decide_eq_false (p := x < 0) (by omega), decide_eq_false (p := y < 0) (by omega), if_neg (by simp)]
  have : wrap64 (x * y / 18446744073709551616) = x * y / 18446744073709551616 := by
    generalize x * y = P at h0 hp
    unfold wrap64; omega
  rw [this]
theorem rcompare_pos (k : Nat) (x y c b : Int) (hx : 0 ≤ x ∧ x ≤ 1152921504606846976) (hy : 0 ≤ y ∧ y ≤ 1152921504606846976) (hc : 0 ≤ c ∧ c ≤ 1000000) (hb : 0 ≤ b ∧ b ≤ 1000000) :
    ∃ t, synopticref38_Compare.f (k + 1) x y c b = some t ∧ (t > 0 ↔ c * y < x * b) := by
  have h1 : x * b ≤ 1152921504606846976 * 1000000 := Int.le_trans (Int.mul_le_mul_of_nonneg_right hx.2 hb.1) (Int.mul_le_mul_of_nonneg_left hb.2 (by omega))
  have h2 : c * y ≤ 1000000 * 1152921504606846976 := Int.le_trans (Int.mul_le_mul_of_nonneg_right hc.2 hy.1) (Int.mul_le_mul_of_nonneg_left hy.2 (by omega))
  have h3 : 0 ≤ x * b := Int.mul_nonneg hx.1 hb.1
  have h4 : 0 ≤ c * y := Int.mul_nonneg hc.1 hy.1
  unfold synopticref38_Compare.f
  rw [product_pos x b hx (by omega) (by omega), product_pos c y (by omega) hy (by omega)]
  generalize x * b = P at *
  generalize c * y = Q at *
  simp only [Option.bind_some]
  unfold synopticref22_Compare.f
  simp only [synopticref22_Compare.j0]
  by_cases e1 : P / 18446744073709551616 < Q / 18446744073709551616
  · rw [if_pos e1]
    simp only [if_true, Option.bind_some]
    exact ⟨_, rfl, by constructor <;> intro h <;> omega⟩
  · rw [if_neg e1]
    by_cases e2 : P / 18446744073709551616 = Q / 18446744073709551616
    · rw [if_pos e2]
      by_cases e3 : P % 18446744073709551616 < Q % 18446744073709551616
      · rw [decide_eq_true e3]
        simp only [if_true, Option.bind_some]
        exact ⟨_, rfl, by constructor <;> intro h <;> omega⟩
      · rw [decide_eq_false e3, if_neg (by simp)]
        by_cases e4 : P % 18446744073709551616 = Q % 18446744073709551616
        · rw [e2, e4, if_pos (by simp)]
          exact ⟨_, rfl, by constructor <;> intro h <;> omega⟩
        · rw [if_neg (by simp [e4])]
          exact ⟨_, rfl, by constructor <;> intro h <;> omega⟩
    · rw [if_neg e2, if_neg (by simp), if_neg (by simp [e2])]
      exact ⟨_, rfl, by constructor <;> intro h <;> omega⟩
/-- What the tail of rank j is, and that it is small enough just below the rank. -/
def RStepAt (n : Nat) (a b : Int) (R j : Nat) : Prop := ∃ x y : Int, tailR (n : Int) (j : Int) = (x, y, 0) ∧ True ∧
  ∀ k, ∃ t, synopticref38_Compare.f (k + 1) (wrap64 (2 * x)) y (wrap64 (b - a)) b = some t ∧ (t > 0 ↔ ¬ j < R)
theorem rstep_at (n : Nat) (hn : n ≤ 50) (a b : Int) (hb : 1 ≤ b ∧ b ≤ 1000000) (ha : 0 ≤ a ∧ a ≤ b) (j : Nat) (hj : j ≤ n) : RStepAt n a b (rk n a b) j := by
  obtain ⟨g, x, y, ht, hg, hx, hy, hy1, hy2, hx0, hx2⟩ := tailR_at n hn j hj
  have hc := (ranks_cmp n hn a b hb ha j g x y hg hx hy).symm.trans (small_rk n a b hb.1 j hj)
  have hba : 0 ≤ b - a ∧ b - a ≤ 1000000 := by clear hy2 hx2 hx hy hc; omega
  have h2b : 1 ≤ 2 * b ∧ 2 * b ≤ 1152921504606846976 := by clear hy2 hx2 hx hy hc; omega
  have hl := le60 hx2
  have hl2 := le60' hx2
  have hly := le60 hy2
  have hw : wrap64 (2 * x) = 2 * x := wrap_id (Int.le_trans (by decide) (Int.mul_nonneg (by decide) hx0)) (Int.le_trans hl2 (by decide))
  have hw2 : wrap64 (b - a) = b - a := wrap_id (Int.le_trans (by decide) hba.1) (Int.le_trans hba.2 (by decide))
  refine ⟨x, y, ht, trivial, fun k => ?_⟩
  · obtain ⟨t, h5, h6⟩ := rcompare_pos k (2 * x) y (b - a) b ⟨Int.mul_nonneg (by decide) hx0, hl2⟩ ⟨Int.le_trans (by decide) hy1, hly⟩ hba ⟨Int.le_trans (by decide) hb.1, hb.2⟩
    refine ⟨t, by rw [hw, hw2]; exact h5, h6.trans ?_⟩
    rw [← hc, show 2 * x * b = x * (2 * b) by rw [Int.mul_assoc, Int.mul_left_comm]]
    exact Int.not_le.symm
theorem rranks_l0 (n : Nat) (hn : n ≤ 50) (a b : Int) (hb : 1 ≤ b ∧ b ≤ 1000000) (ha : 0 ≤ a ∧ a ≤ b) (R : Nat) (hr : R ≤ n) (hst : ∀ j, j ≤ n → RStepAt n a b R j) : ∀ (d j : Nat), j + d = R → ∃ K, ∀ k, K ≤ k →
    synopticref39_Ranks.l0 k (n : Int) (j : Int) a b = some ((R : Int), 0) := by
  intro d
  induction d with
  | zero =>
    intro j hd
    obtain ⟨K2, h2⟩ := rtail_some (n : Int) (j : Int)
    obtain ⟨x, y, ht, _, hcr⟩ := hst j (by omega)
    refine ⟨K2 + 2, fun k hk => ?_⟩
    obtain ⟨k, rfl⟩ : ∃ q, k = q + 1 + 1 := ⟨k - 2, by omega⟩
    obtain ⟨t, h5, h6⟩ := hcr k
    obtain rfl : j = R := by omega
    have hcond : (j : Int) ≤ (n : Int) := by omega
    have h2k := h2 (k + 1) (by omega)
    conv => lhs; rw [synopticref39_Ranks.l0]
    rw [if_pos hcond, h2k, ht]
    refine Eq.trans (Option.bind_some _ _) ?_
    try dsimp only
    rw [h5]
    refine Eq.trans (Option.bind_some _ _) ?_
    rw [if_pos (h6.2 (Nat.lt_irrefl _))]
  | succ d ih =>
    intro j hd
    obtain ⟨K1, h1⟩ := ih (j + 1) (by omega)
    obtain ⟨K2, h2⟩ := rtail_some (n : Int) (j : Int)
    obtain ⟨x, y, ht, _, hcr⟩ := hst j (by omega)
    refine ⟨K1 + K2 + 2, fun k hk => ?_⟩
    obtain ⟨k, rfl⟩ : ∃ q, k = q + 1 + 1 := ⟨k - 2, by omega⟩
    obtain ⟨t, h5, h6⟩ := hcr k
    have hcond : (j : Int) ≤ (n : Int) := by omega
    have h2k := h2 (k + 1) (by omega)
    have h1k := h1 (k + 1) (by omega)
    have hjR : j < R := by omega
    have hw3 : wrap64 ((j : Int) + 1) = ((j + 1 : Nat) : Int) := by unfold wrap64; omega
    conv => lhs; rw [synopticref39_Ranks.l0]
    rw [if_pos hcond, h2k, ht]
    refine Eq.trans (Option.bind_some _ _) ?_
    try dsimp only
    rw [h5]
    refine Eq.trans (Option.bind_some _ _) ?_
    rw [if_neg (fun h => absurd hjR (h6.1 h)), hw3]
    exact h1k
theorem rranks_some (n a b : Int) : ∃ K, ∀ k, K ≤ k → synopticref39_Ranks.f k n a b = some (rankR n a b) := by
  unfold synopticref39_Ranks.f rankR
  by_cases h : 0 ≤ n ∧ n ≤ 50
  · obtain ⟨K1, h1⟩ := level_some a b
    by_cases hr : reducedB a b = true
    · obtain ⟨N, rfl⟩ : ∃ N : Nat, n = N := ⟨n.toNat, by omega⟩
      have hr' := hr
      unfold reducedB at hr'
      simp only [Bool.and_eq_true, decide_eq_true_eq] at hr'
      obtain ⟨hb, ha, _⟩ := hr'
      obtain ⟨K, hK⟩ := rranks_l0 N (by omega) a b hb ha (rk N a b) (rk_le N a b hb.1 ha.1) (rstep_at N (by omega) a b hb ha) (rk N a b) 0 (by omega)
      refine ⟨K + K1 + 1, fun k hk => ?_⟩
      obtain ⟨k, rfl⟩ : ∃ q, k = q + 1 := ⟨k - 1, by omega⟩
      rw [if_neg (by omega), if_neg (by omega), if_pos ⟨h, hr⟩, h1 (k + 1) (by omega), hr]
      refine Eq.trans (Option.bind_some _ _) ?_
      simp only [synopticref39_Ranks.j0]
      rw [if_neg (by simp)]
      exact hK k (by omega)
    · refine ⟨K1 + 1, fun k hk => ?_⟩
      obtain ⟨k, rfl⟩ : ∃ q, k = q + 1 := ⟨k - 1, by omega⟩
      rw [if_neg (by omega), if_neg (by omega), if_neg (fun q => hr q.2), h1 (k + 1) (by omega), Bool.eq_false_iff.mpr hr]
      simp [synopticref39_Ranks.j0]
  · refine ⟨1, fun k hk => ?_⟩
    obtain ⟨k, rfl⟩ : ∃ q, k = q + 1 := ⟨k - 1, by omega⟩
    rw [if_neg (c := (0 ≤ n ∧ n ≤ 50) ∧ reducedB a b = true) (fun q => h q.1)]
    by_cases h0 : n < 0
    · rw [if_pos h0]; simp [synopticref39_Ranks.j0]
    · rw [if_neg h0, if_pos (by omega)]; simp [synopticref39_Ranks.j0]
end Go.Proofs.Ytcgjgpdandjicaa.B
namespace Go.Proofs.Ytcgjgpdandjicaa.B
open Go.RowKit Go.Proofs.YtcgjgpdandjicaaW.PrintWords Go.Proofs.YtcgjgpdandjicaaW.PrintLast Go.Proofs.YtcgjgpdandjicaaW.PrintMore
open Go.Proofs.Ytcgjgpdandjicaa.Smp
set_option linter.unusedVariables false
set_option linter.unusedSimpArgs false
theorem small2_l0 (l : List Int) (hl : l.length ≤ 1000000) : ∀ (d k i : Nat), i + d = l.length → d < k → synopticref22_Small.l0 k l 1000000 (i : Int) = some (!outB (l.drop i)) := by
  intro d
  induction d with
  | zero =>
    intro k i hd hk
    obtain ⟨k, rfl⟩ : ∃ m, k = m + 1 := ⟨k - 1, by omega⟩
    simp only [synopticref22_Small.l0]
    rw [if_neg (by omega), List.drop_of_length_le (by omega)]
    rfl
  | succ d ih =>
    intro k i hd hk
    obtain ⟨k, rfl⟩ : ∃ m, k = m + 1 := ⟨k - 1, by omega⟩
    have hi : i < l.length := by omega
    have er : rd l (i : Int) = l[i] := by unfold rd; simp [hi]
    have hw : wrap64 ((i : Int) + 1) = ((i + 1 : Nat) : Int) := by unfold wrap64; omega
    have hn : wrap64 (-1000000) = -1000000 := by unfold wrap64; omega
    have eo : outB (l.drop i) = (!okB l[i] || outB (l.drop (i + 1))) := by
      rw [List.drop_eq_getElem_cons hi]; unfold outB; rw [List.any_cons]
    simp only [synopticref22_Small.l0]
    rw [if_pos (by omega), if_pos (by omega), er, hn, hw, ih k (i + 1) (by omega) (by omega), eo]
    unfold okB
    by_cases h1 : l[i] > 1000000
    · rw [if_pos h1, decide_eq_false (by omega)]; rfl
    · rw [if_neg h1]
      by_cases h2 : l[i] < -1000000
      · rw [if_pos h2, decide_eq_false (by omega)]; rfl
      · rw [if_neg h2, decide_eq_true (by omega)]; rfl
theorem small2_eq (l : List Int) (hl : l.length ≤ 1000000) (k : Nat) (hk : l.length < k) : synopticref22_Small.f k l 1000000 = some (!outB l) := by
  have h := small2_l0 l hl l.length k 0 (by omega) hk
  exact h

def Asc (l : List Int) : Prop := l.Pairwise (fun a b => decide (a ≤ b) = true)
theorem nat_wrap (n : Nat) (h : n ≤ 1000) : wrap64 ((n : Int) + 1) = ((n + 1 : Nat) : Int) := by unfold wrap64; omega
theorem nat_wrap2 (n : Nat) (h : n ≤ 1000) : wrap64 (((n + 1 : Nat) : Int) - 1) = (n : Int) := by unfold wrap64; omega
/-- What lies in the list while an element is put in: a hole at place p. -/
def holed (out : List Int) (p : Nat) (h : Int) : List Int := out.take p ++ h :: out.drop p
theorem holed_length (out : List Int) (p : Nat) (h : Int) (hp : p ≤ out.length) : (holed out p h).length = out.length + 1 := by
  simp [holed]; omega
theorem holed_set (out : List Int) (p : Nat) (h v : Int) (hp : p ≤ out.length) : (holed out p h).set p v = holed out p v := by
  unfold holed
  rw [List.set_append_right _ _ (by rw [List.length_take]; omega)]
  rw [List.length_take, Nat.min_eq_left hp, Nat.sub_self, List.set_cons_zero]
theorem holed_rd (out : List Int) (p : Nat) (h : Int) (hp : p < out.length) : rd (holed out (p + 1) h) (p : Int) = out[p] := by
  have : p < (holed out (p + 1) h).length := by rw [holed_length _ _ _ (by omega)]; omega
  rw [rd_nat _ _ this]
  simp only [holed]
  rw [List.getElem_append_left (by rw [List.length_take]; omega), List.getElem_take]
theorem holed_move (out : List Int) (p : Nat) (h : Int) (hp : p < out.length) : holed out (p + 1) out[p] = holed out p out[p] := by
  unfold holed
  rw [List.take_succ_eq_append_getElem hp, List.drop_eq_getElem_cons hp, List.append_assoc]
  rfl
theorem holed_end (out : List Int) (h : Int) : holed out out.length h = out ++ [h] := by simp [holed]
theorem holed_perm (out : List Int) (p : Nat) (v : Int) : (holed out p v).Perm (out ++ [v]) := by
  unfold holed
  have h1 : (out.take p ++ v :: out.drop p).Perm (v :: (out.take p ++ out.drop p)) := List.perm_middle
  rw [List.take_append_drop] at h1
  exact h1.trans (List.perm_append_singleton v out).symm
theorem holed_asc (out : List Int) (p : Nat) (v : Int) (ho : Asc out) (h1 : ∀ x ∈ out.take p, x ≤ v) (h2 : ∀ x ∈ out.drop p, v ≤ x) : Asc (holed out p v) := by
  unfold Asc holed at *
  have ho' := ho
  rw [← List.take_append_drop p out] at ho'
  rw [List.pairwise_append] at ho' ⊢
  refine ⟨ho'.1, List.pairwise_cons.2 ⟨fun x hx => decide_eq_true (h2 x hx), ho'.2.1⟩, fun x hx y hy => ?_⟩
  rcases List.mem_cons.1 hy with rfl | hy
  · exact decide_eq_true (h1 x hx)
  · exact ho'.2.2 x hx y hy
theorem take_le (out : List Int) (ho : Asc out) (p : Nat) (hp : p < out.length) (v : Int) (h : out[p] ≤ v) : ∀ x ∈ out.take (p + 1), x ≤ v := by
  intro x hx
  rw [List.take_succ_eq_append_getElem hp] at hx
  rcases List.mem_append.1 hx with hx | hx
  · obtain ⟨i, hi, rfl⟩ := List.mem_iff_getElem.1 hx
    rw [List.length_take] at hi
    rw [List.getElem_take]
    exact Int.le_trans (of_decide_eq_true (List.pairwise_iff_getElem.1 ho i p (by omega) hp (by omega))) h
  · rw [List.mem_singleton] at hx
    rw [hx]; exact h
theorem drop_le (out : List Int) (p : Nat) (hp : p < out.length) (v : Int) (h : v ≤ out[p]) (h2 : ∀ x ∈ out.drop (p + 1), v ≤ x) : ∀ x ∈ out.drop p, v ≤ x := by
  intro x hx
  rw [List.drop_eq_getElem_cons hp] at hx
  rcases List.mem_cons.1 hx with rfl | hx
  · exact h
  · exact h2 x hx
theorem rsorted_l1 (l : List Int) (i : Nat) (hi : i < l.length) (hl : l.length ≤ 1000) (out : List Int) (ho : Asc out) (hol : out.length ≤ 1000) : ∀ (p : Nat) (h : Int), p ≤ out.length → (∀ x ∈ out.drop p, l[i] ≤ x) →
    ∃ out', out'.Perm (out ++ [l[i]]) ∧ Asc out' ∧ ∀ (r : Option (List Int)) (K : Nat), (∀ k, K ≤ k → synopticref39_sorted.l0 k l out' ((i + 1 : Nat) : Int) = r) →
      ∀ k, K + p < k → synopticref39_sorted.l1 k l (holed out p h) (i : Int) (p : Int) = r := by
  have er := rd_nat l i hi
  have hwi := nat_wrap i (by omega)
  have q1 : (0 : Int) ≤ (i : Int) := by omega
  have q2 : (i : Int) < (l.length : Int) := by omega
  intro p
  induction p with
  | zero =>
    intro h hp hd
    refine ⟨holed out 0 l[i], holed_perm _ _ _, holed_asc out 0 _ ho (fun x hx => by cases hx) hd, fun r K hK k hk => ?_⟩
    obtain ⟨k, rfl⟩ : ∃ m, k = m + 1 := ⟨k - 1, by omega⟩
    have hlen := holed_length out 0 h hp
    have q3 : ((0 : Nat) : Int) < ((holed out 0 h).length : Int) := by rw [hlen]; omega
    have hKk := hK k (by omega)
    conv => lhs; rw [synopticref39_sorted.l1]
    rw [if_neg (by decide), if_pos q1, if_pos q2, if_pos (by decide), if_pos q3, er, hwi]
    have := holed_set out 0 h l[i] hp
    rw [← this] at hKk
    exact hKk
  | succ p ih =>
    intro h hp hd
    have hp' : p < out.length := by omega
    have hlen := holed_length out (p + 1) h hp
    have hr := holed_rd out p h hp'
    have hw := nat_wrap2 p (by omega)
    have q3 : (p : Int) < ((holed out (p + 1) h).length : Int) := by rw [hlen]; omega
    have q4 : ((p + 1 : Nat) : Int) < ((holed out (p + 1) h).length : Int) := by rw [hlen]; omega
    have q5 : (0 : Int) ≤ ((p + 1 : Nat) : Int) := by omega
    have q6 : ((p + 1 : Nat) : Int) > 0 := by omega
    have q7 : (0 : Int) ≤ (p : Int) := by omega
    by_cases hgt : out[p] > l[i]
    · obtain ⟨out', a, b, c⟩ := ih out[p] (by omega) (drop_le out p hp' _ (Int.le_of_lt hgt) hd)
      refine ⟨out', a, b, fun r K hK k hk => ?_⟩
      obtain ⟨k, rfl⟩ : ∃ m, k = m + 1 := ⟨k - 1, by omega⟩
      have hc := c r K hK k (by omega)
      conv => lhs; rw [synopticref39_sorted.l1]
      rw [if_pos q6, hw, if_pos q7, if_pos q3, if_pos q1, if_pos q2, hr, er, if_pos hgt, if_pos q5, if_pos q4]
      have e := holed_set out (p + 1) h out[p] hp
      rw [← holed_move out p h hp', ← e] at hc
      exact hc
    · refine ⟨holed out (p + 1) l[i], holed_perm _ _ _, holed_asc out (p + 1) _ ho (take_le out ho p hp' _ (Int.not_lt.1 hgt)) hd, fun r K hK k hk => ?_⟩
      obtain ⟨k, rfl⟩ : ∃ m, k = m + 1 := ⟨k - 1, by omega⟩
      have hKk := hK k (by omega)
      conv => lhs; rw [synopticref39_sorted.l1]
      rw [if_pos q6, hw, if_pos q7, if_pos q3, if_pos q1, if_pos q2, hr, er, if_neg hgt, if_pos q5, if_pos q4, hwi]
      have := holed_set out (p + 1) h l[i] hp
      rw [← this] at hKk
      exact hKk
theorem rsorted_l0 (l : List Int) (hl : l.length ≤ 1000) : ∀ (d i : Nat) (out : List Int), i + d = l.length → Asc out → out.Perm (l.take i) → ∃ K, ∀ k, K ≤ k → synopticref39_sorted.l0 k l out (i : Int) = some (asc l) := by
  intro d
  induction d with
  | zero =>
    intro i out hd ho hp
    refine ⟨1, fun k hk => ?_⟩
    obtain ⟨k, rfl⟩ : ∃ m, k = m + 1 := ⟨k - 1, by omega⟩
    rw [List.take_of_length_le (by omega)] at hp
    simp only [synopticref39_sorted.l0]
    rw [if_neg (by omega)]
    congr 1
    refine List.Perm.eq_of_pairwise (le := fun a b : Int => decide (a ≤ b) = true) (fun a b _ _ h1 h2 => Int.le_antisymm (of_decide_eq_true h1) (of_decide_eq_true h2)) ho (asc_sorted l) (hp.trans (List.mergeSort_perm l _).symm)
  | succ d ih =>
    intro i out hd ho hp
    have hi : i < l.length := by omega
    have hlen : out.length = i := by have := hp.length_eq; rw [List.length_take] at this; omega
    obtain ⟨out', a, b, c⟩ := rsorted_l1 l i hi hl out ho (by omega) out.length l[i] (Nat.le_refl _) (fun x hx => by rw [List.drop_length] at hx; cases hx)
    obtain ⟨K, hK⟩ := ih (i + 1) out' (by omega) b (a.trans (by rw [List.take_succ_eq_append_getElem hi]; exact hp.append_right _))
    refine ⟨K + out.length + 2, fun k hk => ?_⟩
    obtain ⟨k, rfl⟩ : ∃ m, k = m + 1 := ⟨k - 1, by omega⟩
    have hc := c _ K hK k (by omega)
    simp only [synopticref39_sorted.l0]
    rw [if_pos (by omega), if_pos (by omega), if_pos (by omega), rd_nat l i hi]
    rw [holed_end] at hc
    exact hc
theorem rsorted_some (l : List Int) (hl : l.length ≤ 1000) : ∃ K, ∀ k, K ≤ k → synopticref39_sorted.f k l = some (asc l) := by
  unfold synopticref39_sorted.f
  exact rsorted_l0 l hl l.length 0 [] (by omega) List.Pairwise.nil (by simp)
theorem rk_wrap1 (r : Int) (h0 : 0 ≤ r) (h1 : r ≤ 1000) : wrap64 (r - 1) = r - 1 := by unfold wrap64; omega
theorem rk_wrap2 (n : Nat) (r : Int) (hn : n ≤ 1000) (h0 : 0 ≤ r) (h1 : r ≤ 1000) : wrap64 ((n : Int) - r) = (n : Int) - r := by unfold wrap64; omega
theorem rmed_some (l : List Int) (hl : l.length ≤ 100000) (a b : Int) : ∃ K, ∀ k, K ≤ k → synopticref39_Median.f k l a b = some (medR l a b) := by
  unfold synopticref39_Median.f medR
  by_cases h50 : 50 < l.length
  · refine ⟨1, fun k hk => ?_⟩
    obtain ⟨k, rfl⟩ : ∃ m, k = m + 1 := ⟨k - 1, by omega⟩
    rw [if_pos (by omega), if_pos h50]
    simp [synopticref39_Median.j0]
  · rw [if_neg h50]
    by_cases ho : outB l = true
    · refine ⟨l.length + 1, fun k hk => ?_⟩
      obtain ⟨k, rfl⟩ : ∃ m, k = m + 1 := ⟨k - 1, by omega⟩
      rw [if_neg (by omega), if_pos ho, small2_eq l (by omega) _ (by omega), ho]
      simp [synopticref39_Median.j0]
    · obtain ⟨K1, h1⟩ := rranks_some (l.length : Int) a b
      obtain ⟨K2, h2⟩ := rsorted_some l (by omega)
      have hb := rank_bound l a b (by omega)
      have hal := asc_length l
      refine ⟨K1 + K2 + l.length + 2, fun k hk => ?_⟩
      obtain ⟨k, rfl⟩ : ∃ m, k = m + 1 := ⟨k - 1, by omega⟩
      have h1k := h1 k (by omega)
      have h2k := h2 k (by omega)
      rw [if_neg (by omega), if_neg ho, small2_eq l (by omega) _ (by omega), Bool.eq_false_iff.mpr ho]
      refine Eq.trans (Option.bind_some _ _) ?_
      simp only [synopticref39_Median.j0]
      rw [if_neg (by decide), h1k]
      generalize rankR (l.length : Int) a b = q at hb ⊢
      obtain ⟨r, e_⟩ := q
      dsimp only at hb ⊢
      refine Eq.trans (Option.bind_some _ _) ?_
      dsimp only
      by_cases he : e_ = 0
      · rw [if_pos he, if_pos he]
        obtain ⟨b0, b1⟩ := hb he
        by_cases hr : r = 0
        · rw [if_pos hr, if_pos hr]
        · rw [if_neg hr, if_neg hr, h2k]
          refine Eq.trans (Option.bind_some _ _) ?_
          rw [hal, rk_wrap1 r b0 (by omega), rk_wrap2 l.length r (by omega) b0 (by omega)]
          rw [if_pos (by omega), if_pos (by omega), if_pos (by omega), if_pos (by omega)]
      · rw [if_neg he, if_neg he]
end Go.Proofs.Ytcgjgpdandjicaa.B
