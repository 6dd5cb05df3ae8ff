/- The statement ScoreFractions without Go: both Compares answer by the cross products; what is reduced stays as it is. -/
import Derived.Test.YtbnjbdjjedndbaaLFractions
import Derived.Test.YtbnjbdjjedndbaaFracs
namespace Go.Proofs.Ytbnjbdjjedndbaa.B
open Go.RowKit Go.Proofs.YtbnjbdjjedndbaaW.PrintWords Go.Proofs.YtbnjbdjjedndbaaW.PrintLast Go.Proofs.YtbnjbdjjedndbaaW.PrintMore
set_option linter.unusedVariables false

theorem size22 (x : Int) (h : In60 x) : synopticref22_size.f x = some (x.natAbs : Int) := by
  unfold In60 at h
  unfold synopticref22_size.f
  by_cases c : x < 0
  · rw [if_pos c, u64_wrap, u64_wrap]; congr 1; omega
  · rw [if_neg c, u64_wrap]; congr 1; omega
theorem product22 (x y : Int) (hx : In60 x) (hy : 0 ≤ y ∧ y ≤ 1152921504606846976) : synopticref22_Product.f x y = some ((x * y) / 18446744073709551616, (x * y) % 18446744073709551616) := by
  unfold synopticref22_Product.f
  have h2 : In60 y := by unfold In60; omega
  rw [size22 x hx, size22 y h2]
  unfold In60 at hx
  refine Eq.trans (Option.bind_some _ _) ?_
  refine Eq.trans (Option.bind_some _ _) ?_
  rw [mul_word _ _ (by omega) (by omega)]
  refine Eq.trans (Option.bind_some _ _) ?_
  have q0 : 0 ≤ (x.natAbs : Int) * (y.natAbs : Int) := Int.mul_nonneg (by omega) (by omega)
  have q1 : (x.natAbs : Int) * (y.natAbs : Int) ≤ 1152921504606846976 * 1152921504606846976 := Int.mul_le_mul (by omega) (by omega) (by omega) (by omega)
  have ey : (y.natAbs : Int) = y := by omega
  dsimp only
  rw [decide_eq_false (p := y < 0) (by omega)]
  by_cases c : x < 0
  · rw [decide_eq_true c, if_pos (by rfl)]
    have e : x * y = -((x.natAbs : Int) * (y.natAbs : Int)) := by rw [ey, show (x.natAbs : Int) = -x from by omega, Int.neg_mul, Int.neg_neg]
    rw [e]
    generalize (x.natAbs : Int) * (y.natAbs : Int) = Q at q0 q1 ⊢
    have w1 : wrap64 (Q / 18446744073709551616) = Q / 18446744073709551616 := wrap_id (by omega) (by omega)
    rw [w1]
    unfold synopticref22_Negate.f
    rw [if_pos (by omega)]
    refine Eq.trans (Option.bind_some _ _) ?_
    dsimp only
    rw [wrap_id (by omega) (by omega)]
    congr 1
    refine Prod.ext ?_ ?_
    · show _ = _
      omega
    · show _ = _
      omega
  · rw [decide_eq_false c, if_neg (by simp)]
    have e : (x.natAbs : Int) * (y.natAbs : Int) = x * y := by rw [ey, show (x.natAbs : Int) = x from by omega]
    rw [e] at q0 q1 ⊢
    rw [wrap_id (by omega) (by omega)]
theorem compare22 (k : Nat) (hk : 1 ≤ k) (P Q : Int) : synopticref22_Compare.f k (P / 18446744073709551616) (P % 18446744073709551616) (Q / 18446744073709551616) (Q % 18446744073709551616) = some (cmpI P Q) := by
  obtain ⟨k, rfl⟩ : ∃ m, k = m + 1 := ⟨k - 1, by omega⟩
  unfold synopticref22_Compare.f cmpI
  simp only [synopticref22_Compare.j0]
  by_cases c1 : P / 18446744073709551616 < Q / 18446744073709551616
  · rw [if_pos c1, if_pos trivial, if_pos (by omega)]
  · rw [if_neg c1]
    by_cases c2 : P / 18446744073709551616 = Q / 18446744073709551616
    · rw [if_pos c2]
      by_cases c3 : P % 18446744073709551616 < Q % 18446744073709551616
      · rw [decide_eq_true c3, if_pos rfl, if_pos (by omega)]
      · rw [decide_eq_false c3, if_neg (by simp)]
        by_cases c4 : P % 18446744073709551616 = Q % 18446744073709551616
        · rw [if_pos (by simp [c2, c4]), if_neg (by omega), if_neg (by omega)]
        · rw [if_neg (by simp [c4]), if_neg (c := P < Q) (by omega), if_pos (by omega)]
    · rw [if_neg c2, if_neg (by simp), if_neg (by simp [c2]), if_neg (c := P < Q) (by omega), if_pos (by omega)]
theorem ref_compare (k : Nat) (hk : 1 ≤ k) (a b c d : Int) (ha : In60 a) (hb : 0 ≤ b ∧ b ≤ 1152921504606846976) (hc : In60 c) (hd : 0 ≤ d ∧ d ≤ 1152921504606846976) :
    synopticref38_Compare.f k a b c d = some (cmpI (a * d) (c * b)) := by
  unfold synopticref38_Compare.f
  rw [product22 a d ha hd, product22 c b hc hb]
  refine Eq.trans (Option.bind_some _ _) ?_
  refine Eq.trans (Option.bind_some _ _) ?_
  dsimp only
  rw [compare22 k hk]
  rfl
theorem cmp_swap (a b : Int) : cmpI a b = wrap64 (-cmpI b a) := by
  have e : -1 ≤ cmpI b a ∧ cmpI b a ≤ 1 := by unfold cmpI; (repeat' split) <;> omega
  rw [wrap_id (by omega) (by omega)]
  unfold cmpI
  (repeat' split) <;> omega
theorem mod_pos (a n : Int) (hn : 1 ≤ n) (hn2 : n ≤ 1152921504606846976) : ∃ r, synopticfield_Mod.f a n = some r ∧ 0 ≤ r ∧ r < n := by
  unfold synopticfield_Mod.f
  rw [if_neg (by omega), if_neg (by omega)]
  have h1 := Int.tmod_lt_of_pos a (by omega : 0 < n)
  have h2 := Int.lt_tmod_of_pos a (by omega : 0 < n)
  by_cases c : Int.tmod a n < 0
  · rw [if_pos c, wrap_id (by omega) (by omega)]
    exact ⟨_, rfl, by omega, by omega⟩
  · rw [if_neg c]
    exact ⟨_, rfl, by omega, by omega⟩
/-- What Reduce gives is in range and reduced. -/
theorem red_again (n d : Int) : (red n d).2.2 ≠ 0 ∨ ∃ x y, red n d = (x, y, 0) ∧ In60 x ∧ 1 ≤ y ∧ y ≤ 1152921504606846976 ∧ red x y = (x, y, 0) := by
  by_cases h : d = 0 ∨ 1152921504606846976 < n ∨ n < -1152921504606846976 ∨ 1152921504606846976 < d ∨ d < -1152921504606846976
  · left
    unfold red
    rw [if_pos h]
    decide
  · right
    -- the sign goes up
    have key : ∀ m e : Int, In60 m → 1 ≤ e ∧ e ≤ 1152921504606846976 → ∃ x y, red m e = (x, y, 0) ∧ In60 x ∧ 1 ≤ y ∧ y ≤ 1152921504606846976 ∧ red x y = (x, y, 0) := by
      intro m e hm he
      obtain ⟨g, x, y, e1, hg, e2, e3, b1, b2, b3, _⟩ := red_pos m e hm he
      refine ⟨x, y, e1, b3, b1, b2, ?_⟩
      have hgcd : Int.gcd x y = 1 := by
        have q : red m e = (m.tdiv (Int.gcd m e), e.tdiv (Int.gcd m e), 0) := by
          unfold red
          unfold In60 at hm
          rw [if_neg (by omega), if_neg (by omega)]
        rw [e1] at q
        have q2 := congrArg (fun t : Int × Int × Int => t.2.1) q
        dsimp only at q2
        have g0 : 0 < Int.gcd m e := Int.gcd_pos_of_ne_zero_right m (by omega)
        obtain ⟨v, hv⟩ := Int.gcd_dvd_right (a := m) (b := e)
        have q3 : e.tdiv (Int.gcd m e) = v := by
          conv => lhs; arg 1; rw [hv]
          exact Int.mul_tdiv_cancel_left _ (by omega)
        rw [q3] at q2
        subst q2
        have q4 : (Int.gcd m e : Int) = g := by
          have : (Int.gcd m e : Int) * y = g * y := by rw [← hv, ← e3]
          exact Int.eq_of_mul_eq_mul_right (by omega) this
        have q5 : Int.gcd m e = g.natAbs * Int.gcd x y := by
          conv => lhs; rw [e2, e3]
          exact Int.gcd_mul_left ..
        have q6 : g.natAbs = Int.gcd m e := by omega
        rw [q6] at q5
        have : Int.gcd m e * 1 = Int.gcd m e * Int.gcd x y := by rw [← q5, Nat.mul_one]
        exact (Nat.eq_of_mul_eq_mul_left g0 this).symm
      unfold red
      unfold In60 at b3
      rw [if_neg (by omega), if_neg (by omega), hgcd]
      simp
    by_cases c : d < 0
    · have e : red n d = red (-n) (-d) := by
        have g : Int.gcd (-n) (-d) = Int.gcd n d := by rw [Int.neg_gcd, Int.gcd_neg]
        unfold red
        rw [if_neg h, if_pos c, if_neg (by omega), if_neg (by omega), g]
      rw [e]
      exact key (-n) (-d) (by unfold In60; omega) (by omega)
    · exact key n d (by unfold In60; omega) (by omega)
theorem fractions_loop (a b : Int) (l : List S62) (hl : l.length ≤ 10) (hw : ∀ p ∈ l, -9223372036854775808 ≤ p.f1 ∧ p.f1 ≤ 9223372036854775807) : ∀ (d k i : Nat), i + d = l.length → 9223372036854775900 + 3 * d < k →
    synopticlaw38_ScoreFractions.l0 k a b l (l.length : Int) (i : Int) = some true := by
  intro d
  induction d with
  | zero =>
    intro k i hd hk
    obtain ⟨k, rfl⟩ : ∃ m, k = m + 1 := ⟨k - 1, by omega⟩
    simp only [synopticlaw38_ScoreFractions.l0]
    rw [if_neg (by omega)]
  | succ d ih =>
    intro k i hd hk
    obtain ⟨k, rfl⟩ : ∃ m, k = m + 3 := ⟨k - 3, by omega⟩
    have hp := hw (rd_T62 l (i : Int)) (by
      have : rd_T62 l (i : Int) = l[i]'(by omega) := by simp [rd_T62, List.getElem?_eq_getElem (show i < l.length by omega)]
      rw [this]
      exact List.getElem_mem _)
    have hW : wrap64 ((i : Int) + 1) = ((i + 1 : Nat) : Int) := by rw [wrap_id (by omega) (by omega)]; omega
    simp only [synopticlaw38_ScoreFractions.l0]
    rw [if_pos (by omega), if_pos (by omega), if_pos (by omega), ref_red]
    generalize rd_T62 l (i : Int) = p at hp ⊢
    rw [red_f p.f0 p.f1 (k + 2) (by omega)]
    refine Eq.trans (Option.bind_some _ _) ?_
    refine Eq.trans (Option.bind_some _ _) ?_
    rw [if_pos rfl, if_neg (by simp)]
    simp only [synopticlaw38_ScoreFractions.j1]
    rw [if_neg (by simp), hW]
    rcases red_again p.f0 p.f1 with h | ⟨x, y, e, hx, hy1, hy2, e2⟩
    · rw [if_neg h]
      exact ih (k + 1) (i + 1) (by omega) (by omega)
    · rw [e]
      dsimp only
      rw [if_pos rfl, red_f x y (k + 1) (by omega), e2]
      refine Eq.trans (Option.bind_some _ _) ?_
      dsimp only
      rw [if_pos rfl, if_neg (by simp), if_neg (by omega), compare_frac (k + 1) (by omega) x y x y hx ⟨hy1, hy2⟩ hx ⟨hy1, hy2⟩]
      refine Eq.trans (Option.bind_some _ _) ?_
      have z : cmpI (x * y) (x * y) = 0 := by unfold cmpI; rw [if_neg (by omega), if_neg (by omega)]
      rw [z, if_neg (by simp)]
      simp only [synopticlaw38_ScoreFractions.j2]
      rw [if_neg (by simp)]
      obtain ⟨u, hu, u0, u1⟩ := mod_pos a 1152921504606846976 (by omega) (by omega)
      obtain ⟨v, hv, v0, v1⟩ := mod_pos b 576460752303423488 (by omega) (by omega)
      rw [hu, hv]
      refine Eq.trans (Option.bind_some _ _) ?_
      refine Eq.trans (Option.bind_some _ _) ?_
      have hu6 : In60 u := by unfold In60; omega
      rw [wrap_id (x := 1 + v) (by omega) (by omega), compare_frac k (by omega) x y u (1 + v) hx ⟨hy1, hy2⟩ hu6 (by omega), ref_compare k (by omega) x y u (1 + v) hx (by omega) hu6 (by omega), compare_frac k (by omega) u (1 + v) x y hu6 (by omega) hx ⟨hy1, hy2⟩]
      refine Eq.trans (Option.bind_some _ _) ?_
      refine Eq.trans (Option.bind_some _ _) ?_
      rw [if_pos rfl]
      refine Eq.trans (Option.bind_some _ _) ?_
      refine Eq.trans (Option.bind_some _ _) ?_
      rw [if_pos (cmp_swap _ _), hW]
      exact ih k (i + 1) (by omega) (by omega)
theorem fractions_pure : synopticlaw38_ScoreFractions.Pure := by
  intro a0 a1 a2 a3 w0 w1 w2 w3
  have h1 : -9223372036854775808 ≤ a1 ∧ a1 ≤ 9223372036854775807 := by
    simp [Lit.wf, IntKind.min, IntKind.max, IntKind.signed, IntKind.bits] at w1
    omega
  obtain ⟨k, hk⟩ : ∃ k : Nat, 9223372036854776000 ≤ k := ⟨9223372036854776000, Nat.le_refl _⟩
  refine ⟨k, ?_⟩
  unfold synopticlaw38_ScoreFractions.f
  rw [awake_at k (by omega)]
  refine Eq.trans (Option.bind_some _ _) ?_
  rw [if_pos rfl]
  refine Eq.trans (Option.bind_some _ _) ?_
  have r1 := Int.tmod_lt_of_pos a1 (by omega : (0 : Int) < 300)
  have r2 := Int.lt_tmod_of_pos a1 (by omega : (0 : Int) < 300)
  have r3 := Int.tmod_lt_of_pos a3 (by omega : (0 : Int) < 64)
  have r4 := Int.lt_tmod_of_pos a3 (by omega : (0 : Int) < 64)
  refine fractions_loop a2 a3 _ (by simp) ?_ 3 k 0 (by simp) (by omega)
  intro p hp
  simp only [List.mem_cons, List.not_mem_nil, or_false] at hp
  rcases hp with rfl | rfl | rfl
  · exact h1
  · dsimp only; omega
  · dsimp only; omega
end Go.Proofs.Ytbnjbdjjedndbaa.B
