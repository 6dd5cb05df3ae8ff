/- Compare of fractions answers by the cross products. -/
import Derived.Test.YtcgjgpdandjicaaBY
import Derived.Test.YtcgjgpdandjicaaRed
import Derived.Laws.BitsLemmas
namespace Go.Proofs.Ytcgjgpdandjicaa.B
open Go.RowKit Go.Proofs.YtcgjgpdandjicaaW.PrintWords Go.Proofs.YtcgjgpdandjicaaW.PrintLast Go.Proofs.YtcgjgpdandjicaaW.PrintMore
set_option linter.unusedVariables false
set_option linter.unusedSimpArgs false

theorem wrap_id {x : Int} (h0 : -9223372036854775808 ≤ x) (h1 : x ≤ 9223372036854775807) : wrap64 x = x := by unfold wrap64; omega
theorem u64_wrap (x : Int) : IntKind.u64.wrap x = x % 18446744073709551616 := by simp [IntKind.wrap, IntKind.bits, IntKind.signed]
theorem and32 (x : Int) (h0 : 0 ≤ x) (h1 : x < 18446744073709551616) : Go.bits .and .u64 x 4294967295 = x % 4294967296 :=
  bits_mask .u64 64 (by decide) (fun n a b => by rw [u64_wrap]; omega) 32 (by decide) x h0 h1

theorem mul64_eq (a b : Int) (ha : 0 ≤ a) (ha1 : a < 18446744073709551616) (hb : 0 ≤ b) (hb1 : b < 18446744073709551616) :
    bits_Mul64.f a b = some ((a * b) / 18446744073709551616, (a * b) % 18446744073709551616) := by
  unfold bits_Mul64.f
  have e0 : a = 4294967296 * (a / 4294967296) + a % 4294967296 := by omega
  have e1 : b = 4294967296 * (b / 4294967296) + b % 4294967296 := by omega
  obtain ⟨x1, hx1⟩ : ∃ x, a / 4294967296 = x := ⟨_, rfl⟩
  obtain ⟨x0, hx0⟩ : ∃ x, a % 4294967296 = x := ⟨_, rfl⟩
  obtain ⟨y1, hy1⟩ : ∃ x, b / 4294967296 = x := ⟨_, rfl⟩
  obtain ⟨y0, hy0⟩ : ∃ x, b % 4294967296 = x := ⟨_, rfl⟩
  rw [and32 a ha ha1, and32 b hb hb1, hx1, hx0, hy1, hy0]
  have bx1 : 0 ≤ x1 ∧ x1 ≤ 4294967295 := by omega
  have bx0 : 0 ≤ x0 ∧ x0 ≤ 4294967295 := by omega
  have by1 : 0 ≤ y1 ∧ y1 ≤ 4294967295 := by omega
  have by0 : 0 ≤ y0 ∧ y0 ≤ 4294967295 := by omega
  have hm : ∀ u v : Int, 0 ≤ u ∧ u ≤ 4294967295 → 0 ≤ v ∧ v ≤ 4294967295 → 0 ≤ u * v ∧ u * v ≤ 18446744065119617025 := by
    intro u v hu hv
    have h := Int.mul_le_mul hu.2 hv.2 hv.1 (by omega : (0 : Int) ≤ 4294967295)
    exact ⟨Int.mul_nonneg hu.1 hv.1, h⟩
  have hp := hm x0 y0 bx0 by0
  have hq := hm x1 y0 bx1 by0
  have hr := hm x0 y1 bx0 by1
  have hs := hm x1 y1 bx1 by1
  have hab : a * b = 18446744073709551616 * (x1 * y1) + 4294967296 * (x1 * y0 + x0 * y1) + x0 * y0 := by
    rw [e0, e1, hx1, hx0, hy1, hy0, Int.add_mul, Int.mul_add, Int.mul_add]
    have f1 : 4294967296 * x1 * (4294967296 * y1) = 18446744073709551616 * (x1 * y1) := by
      rw [Int.mul_assoc, Int.mul_left_comm x1, ← Int.mul_assoc]; rfl
    have f2 : 4294967296 * x1 * y0 = 4294967296 * (x1 * y0) := Int.mul_assoc _ _ _
    have f3 : x0 * (4294967296 * y1) = 4294967296 * (x0 * y1) := Int.mul_left_comm _ _ _
    rw [f1, f2, f3]
    omega
  rw [hab]
  generalize x0 * y0 = p at hp ⊢
  generalize x1 * y0 = q at hq ⊢
  generalize x0 * y1 = r at hr ⊢
  generalize x1 * y1 = s at hs ⊢
  clear hm hab e0 e1 hx1 hx0 hy1 hy0 bx1 bx0 by1 by0
  simp only [u64_wrap]
  have w1 : p % 18446744073709551616 = p := by omega
  rw [w1]
  have w2 : q % 18446744073709551616 = q := by omega
  rw [w2]
  have w3 : r % 18446744073709551616 = r := by omega
  rw [w3]
  have w4 : s % 18446744073709551616 = s := by omega
  rw [w4]
  have w5 : (q + p / 4294967296) % 18446744073709551616 = q + p / 4294967296 := by omega
  rw [w5, and32 (q + p / 4294967296) (by omega) (by omega)]
  have w6 : ((q + p / 4294967296) % 4294967296 + r) % 18446744073709551616 = (q + p / 4294967296) % 4294967296 + r := by omega
  rw [w6]
  congr 2
  omega

/-- The sign of a comparison. -/
def cmpI (a b : Int) : Int := if a < b then -1 else if a > b then 1 else 0
theorem cmp_int (a b : Int) : cmp_Compare_int.f a b = some (cmpI a b) := by
  unfold cmp_Compare_int.f cmp_isNaN_int.f cmpI
  simp only [Option.bind_some, bne_self_eq_false]
  rw [if_neg (by simp), if_neg (by simp)]
  by_cases h : a < b
  · rw [if_pos h, if_pos h]
  · rw [if_neg h, if_neg h]
    by_cases h2 : a > b
    · rw [if_pos h2, if_pos h2]
    · rw [if_neg h2, if_neg h2]
theorem cmp_u64 (a b : Int) : cmp_Compare_uint64.f a b = some (cmpI a b) := by
  unfold cmp_Compare_uint64.f cmp_isNaN_uint64.f cmpI
  simp only [Option.bind_some, bne_self_eq_false]
  rw [if_neg (by simp), if_neg (by simp)]
  by_cases h : a < b
  · rw [if_pos h, if_pos h]
  · rw [if_neg h, if_neg h]
    by_cases h2 : a > b
    · rw [if_pos h2, if_pos h2]
    · rw [if_neg h2, if_neg h2]
theorem or_two (k : Nat) (hk : 3 ≤ k) (x y : Int) : cmp_Or_int.f k [x, y] = some (if x = 0 then y else x) := by
  obtain ⟨k, rfl⟩ : ∃ m, k = m + 3 := ⟨k - 3, by omega⟩
  unfold cmp_Or_int.f
  have w0 : wrap64 (0 + 1) = 1 := by unfold wrap64; omega
  have w1 : wrap64 (1 + 1) = 2 := by unfold wrap64; omega
  have r0 : rd [x, y] 0 = x := rfl
  have r1 : rd [x, y] 1 = y := rfl
  have hl : (([x, y] : List Int).length : Int) = 2 := rfl
  simp only [cmp_Or_int.l0, hl, r0, w0, r1, w1]
  by_cases h : x = 0
  · by_cases h2 : y = 0
    · simp [h, h2]
    · simp [h, h2]
  · simp [h]
/-- Compare of numbers in two words. -/
theorem cmp_words (k : Nat) (hk : 3 ≤ k) (P Q : Int) : ((cmp_Compare_uint64.f (P / 18446744073709551616) (Q / 18446744073709551616)).bind fun t192 => ((cmp_Compare_uint64.f (P % 18446744073709551616) (Q % 18446744073709551616)).bind fun t193 => (cmp_Or_int.f k [t192, t193]).bind fun t => some t)) = some (cmpI P Q) := by
  rw [cmp_u64, cmp_u64]
  simp only [Option.bind_some]
  rw [or_two k hk]
  simp only [Option.bind_some]
  congr 1
  unfold cmpI
  by_cases h1 : P / 18446744073709551616 < Q / 18446744073709551616
  · rw [if_pos h1, if_neg (by omega), if_pos (by omega)]
  · rw [if_neg h1]
    by_cases h2 : P / 18446744073709551616 > Q / 18446744073709551616
    · rw [if_pos h2, if_neg (by omega), if_neg (by omega), if_pos (by omega)]
    · rw [if_neg h2, if_pos rfl]
      by_cases h3 : P % 18446744073709551616 < Q % 18446744073709551616
      · rw [if_pos h3, if_pos (c := P < Q) (by omega)]
      · rw [if_neg h3, if_neg (c := P < Q) (by omega)]
        by_cases h4 : P % 18446744073709551616 > Q % 18446744073709551616
        · rw [if_pos h4, if_pos (c := P > Q) (by omega)]
        · rw [if_neg h4, if_neg (c := P > Q) (by omega)]
/-- A whole number in the range that the fractions keep. -/
def In60 (x : Int) : Prop := -1152921504606846976 ≤ x ∧ x ≤ 1152921504606846976
theorem sign_eq (a : Int) : score_sign.f a = some (cmpI a 0) := by
  unfold score_sign.f
  rw [cmp_int]
  rfl
theorem abs_word (a : Int) (ha : In60 a) : IntKind.u64.wrap (mx a (wrap64 (-a))) = (a.natAbs : Int) := by
  obtain ⟨h0, h1⟩ := ha
  rw [wrap_id (by omega) (by omega), u64_wrap]
  unfold mx
  by_cases h : a < -a
  · rw [if_pos h]; omega
  · rw [if_neg h]; omega
theorem mul_word (x y : Int) (hx : 0 ≤ x ∧ x ≤ 1152921504606846976) (hy : 0 ≤ y ∧ y ≤ 1152921504606846976) : bits_Mul64.f x y = some ((x * y) / 18446744073709551616, (x * y) % 18446744073709551616) :=
  mul64_eq x y hx.1 (by omega) hy.1 (by omega)
/-- Compare answers by the cross products. -/
theorem compare_frac (k : Nat) (hk : 4 ≤ k) (a b c d : Int) (ha : In60 a) (hb : 1 ≤ b ∧ b ≤ 1152921504606846976) (hc : In60 c) (hd : 1 ≤ d ∧ d ≤ 1152921504606846976) :
    score_CompareP.f k a b c d = some (cmpI (a * d) (c * b)) := by
  obtain ⟨k, rfl⟩ : ∃ m, k = m + 1 := ⟨k - 1, by omega⟩
  have pos : ∀ x y : Int, 0 < x → 1 ≤ y → 0 < x * y := fun x y h1 h2 => Int.mul_pos h1 (by omega)
  have neg : ∀ x y : Int, x < 0 → 1 ≤ y → x * y < 0 := fun x y h1 h2 => Int.mul_neg_of_neg_of_pos h1 (by omega)
  have key : ∀ s : Int, wrap64 (s * cmpI ((a.natAbs : Int) * d) ((c.natAbs : Int) * b)) = s * cmpI ((a.natAbs : Int) * d) ((c.natAbs : Int) * b) ∨ ¬ (s = 1 ∨ s = -1) := by
    intro s
    by_cases hs : s = 1 ∨ s = -1
    · refine .inl ?_
      unfold cmpI
      rcases hs with rfl | rfl <;> (repeat' split) <;> exact wrap_id (by decide) (by decide)
    · exact .inr hs
  unfold score_CompareP.f
  rw [sign_eq, sign_eq]
  refine Eq.trans (Option.bind_some _ _) ?_
  refine Eq.trans (Option.bind_some _ _) ?_
  simp only [score_CompareP.j0]
  rw [abs_word a ha, abs_word c hc, show IntKind.u64.wrap d = d from by rw [u64_wrap]; omega, show IntKind.u64.wrap b = b from by rw [u64_wrap]; omega, mul_word _ d (by unfold In60 at ha; omega) (by omega), mul_word _ b (by unfold In60 at hc; omega) (by omega)]
  have cw := cmp_words k (by omega) ((a.natAbs : Int) * d) ((c.natAbs : Int) * b)
  simp only [Option.bind_some]
  rw [cmp_int]
  simp only [cmp_u64, Option.bind_some] at cw ⊢
  rw [or_two k (by omega)] at cw ⊢
  simp only [Option.bind_some, Option.some.injEq] at cw ⊢
  rw [cw]
  rcases Int.lt_trichotomy a 0 with h1 | h1 | h1
  · have s1 : cmpI a 0 = -1 := by unfold cmpI; rw [if_pos h1]
    have e1 : (a.natAbs : Int) * d = -(a * d) := by rw [show (a.natAbs : Int) = -a from by omega, Int.neg_mul]
    have n1 := neg a d h1 hd.1
    rcases Int.lt_trichotomy c 0 with h2 | h2 | h2
    · have s2 : cmpI c 0 = -1 := by unfold cmpI; rw [if_pos h2]
      have e2 : (c.natAbs : Int) * b = -(c * b) := by rw [show (c.natAbs : Int) = -c from by omega, Int.neg_mul]
      rw [s1, s2, if_pos rfl, if_neg (by simp), (key (-1)).resolve_right (by simp), e1, e2]
      unfold cmpI
      congr 1
      repeat' split
      all_goals omega
    · subst h2
      have s2 : cmpI 0 0 = 0 := rfl
      rw [s1, s2, if_neg (by simp), if_pos trivial, Int.zero_mul]
      unfold cmpI
      rw [if_pos n1]
      rfl
    · have s2 : cmpI c 0 = 1 := by unfold cmpI; rw [if_neg (by omega), if_pos h2]
      have n2 := pos c b h2 hb.1
      rw [s1, s2, if_neg (by simp), if_pos trivial]
      unfold cmpI
      rw [if_pos (by omega), if_pos (by omega)]
  · subst h1
    have s1 : cmpI 0 0 = 0 := rfl
    rcases Int.lt_trichotomy c 0 with h2 | h2 | h2
    · have s2 : cmpI c 0 = -1 := by unfold cmpI; rw [if_pos h2]
      have n2 := neg c b h2 hb.1
      rw [s1, s2, if_neg (by simp), if_pos trivial, Int.zero_mul]
      unfold cmpI
      rw [if_neg (by omega), if_pos (by omega), if_neg (by omega), if_pos (by omega)]
    · subst h2
      rw [s1, if_pos rfl, if_pos (by simp), Int.zero_mul, Int.zero_mul]
    · have s2 : cmpI c 0 = 1 := by unfold cmpI; rw [if_neg (by omega), if_pos h2]
      have n2 := pos c b h2 hb.1
      rw [s1, s2, if_neg (by simp), if_pos trivial, Int.zero_mul]
      unfold cmpI
      rw [if_pos (by omega), if_pos (by omega)]
  · have s1 : cmpI a 0 = 1 := by unfold cmpI; rw [if_neg (by omega), if_pos h1]
    have e1 : (a.natAbs : Int) * d = a * d := by rw [show (a.natAbs : Int) = a from by omega]
    have n1 := pos a d h1 hd.1
    rcases Int.lt_trichotomy c 0 with h2 | h2 | h2
    · have s2 : cmpI c 0 = -1 := by unfold cmpI; rw [if_pos h2]
      have n2 := neg c b h2 hb.1
      rw [s1, s2, if_neg (by simp), if_pos trivial]
      unfold cmpI
      rw [if_neg (by omega), if_pos (by omega), if_neg (by omega), if_pos (by omega)]
    · subst h2
      have s2 : cmpI 0 0 = 0 := rfl
      rw [s1, s2, if_neg (by simp), if_pos trivial, Int.zero_mul]
      unfold cmpI
      rw [if_neg (by omega), if_pos (by omega), if_neg (by omega), if_pos (by omega)]
    · have s2 : cmpI c 0 = 1 := by unfold cmpI; rw [if_neg (by omega), if_pos h2]
      have e2 : (c.natAbs : Int) * b = c * b := by rw [show (c.natAbs : Int) = c from by omega]
      rw [s1, s2, if_pos rfl, if_neg (by simp), (key 1).resolve_right (by simp), e1, e2, Int.one_mul]

/-- A reduced fraction with a positive denominator. -/
theorem red_pos (n d : Int) (hn : In60 n) (hd : 1 ≤ d ∧ d ≤ 1152921504606846976) :
    ∃ g n' d' : Int, red n d = (n', d', 0) ∧ 0 < g ∧ n = g * n' ∧ d = g * d' ∧ 1 ≤ d' ∧ d' ≤ 1152921504606846976 ∧ In60 n' ∧ (n = d → n' = 1 ∧ d' = 1) := by
  unfold In60 at hn ⊢
  have hg : 0 < Int.gcd n d := Int.gcd_pos_of_ne_zero_right n (by omega)
  obtain ⟨x, hx⟩ := Int.gcd_dvd_left (a := n) (b := d)
  obtain ⟨y, hy⟩ := Int.gcd_dvd_right (a := n) (b := d)
  have hr : red n d = (n.tdiv (Int.gcd n d), d.tdiv (Int.gcd n d), 0) := by
    unfold red
    rw [if_neg (by omega), if_neg (by omega)]
  have h1 : n.tdiv (Int.gcd n d) = x := by
    conv => lhs; arg 1; rw [hx]
    exact Int.mul_tdiv_cancel_left _ (by omega)
  have h2 : d.tdiv (Int.gcd n d) = y := by
    conv => lhs; arg 1; rw [hy]
    exact Int.mul_tdiv_cancel_left _ (by omega)
  rw [h1, h2] at hr
  generalize hG : (Int.gcd n d : Int) = g at hx hy hg
  have hg' : 0 < g := by omega
  have hy0 : 1 ≤ y := by
    rcases Int.lt_or_le 0 y with h | h
    · omega
    · have := Int.mul_nonpos_of_nonneg_of_nonpos (by omega : (0 : Int) ≤ g) h; omega
  have hy1 : y ≤ d := by
    have := Int.mul_le_mul_of_nonneg_right (by omega : (1 : Int) ≤ g) (by omega : (0 : Int) ≤ y); omega
  have hx1 : -1152921504606846976 ≤ x ∧ x ≤ 1152921504606846976 := by
    rcases Int.lt_or_le x 0 with h | h
    · have := Int.mul_le_mul_of_nonpos_right (by omega : (1 : Int) ≤ g) (by omega : x ≤ 0); omega
    · have := Int.mul_le_mul_of_nonneg_right (by omega : (1 : Int) ≤ g) h; omega
  refine ⟨g, x, y, hr, hg', hx, hy, hy0, by omega, hx1, fun e => ?_⟩
  have hgd : g = d := by
    rw [← hG, e, Int.gcd_self]; omega
  have : g * x = g * 1 := by rw [← hx, Int.mul_one]; omega
  have ex := Int.eq_of_mul_eq_mul_left (by omega) this
  have : g * y = g * 1 := by rw [← hy, Int.mul_one]; omega
  exact ⟨ex, Int.eq_of_mul_eq_mul_left (by omega) this⟩
/-- Of cross products the common factors fall out. -/
theorem cmp_mul {g : Int} (hg : 0 < g) (a b : Int) : cmpI (g * a) (g * b) = cmpI a b := by
  unfold cmpI
  have h1 : g * a < g * b ↔ a < b := ⟨fun h => Int.lt_of_mul_lt_mul_left h (by omega), fun h => Int.mul_lt_mul_of_pos_left h hg⟩
  have h2 : g * a > g * b ↔ a > b := ⟨fun h => Int.lt_of_mul_lt_mul_left h (by omega), fun h => Int.mul_lt_mul_of_pos_left h hg⟩
  simp only [h1, h2]
theorem cmp_le {a b : Int} (h : a ≤ b) : cmpI a b ≤ 0 := by unfold cmpI; rw [if_neg (c := a > b) (by omega)]; split <;> omega
theorem cmp_ge {a b : Int} (h : b ≤ a) : 0 ≤ cmpI a b := by unfold cmpI; rw [if_neg (c := a < b) (by omega)]; split <;> omega

/-- Compare, told at once, where the fractions are within the range. -/
def score_Compare.f (a b c d : Int) : Option Int := if (-1152921504606846976 ≤ a ∧ a ≤ 1152921504606846976) ∧ (1 ≤ b ∧ b ≤ 1152921504606846976) ∧ (-1152921504606846976 ≤ c ∧ c ≤ 1152921504606846976) ∧ (1 ≤ d ∧ d ≤ 1152921504606846976) then some (cmpI (a * d) (c * b)) else none
theorem score_Compare.calls (a0_0 a0_1 a1_0 a1_1 r : Int) (w : World) (h : score_Compare.f a0_0 a0_1 a1_0 a1_1 = some r) :
    Calls Try.prog 13 #[.agg #[.int .i64 a0_0, .int .i64 a0_1], .agg #[.int .i64 a1_0, .int .i64 a1_1]] w fun e w' => e = .returned (.int .i64 r) ∧ Below w.heap.size w w' := by
  unfold score_Compare.f at h
  split at h
  case isTrue c => exact score_CompareP.calls 4 _ _ _ _ _ w ((compare_frac 4 (by omega) _ _ _ _ c.1 c.2.1 c.2.2.1 c.2.2.2).trans h)
  case isFalse => cases h
end Go.Proofs.Ytcgjgpdandjicaa.B
