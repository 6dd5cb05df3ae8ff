/- Mul64 is the exact product in two words; Product and Compare of package precision are exact. -/
import Derived.Test.YtbnjbdjjedndbaaBP
import Derived.Laws.BitsLemmas
namespace Go.Proofs.Ytbnjbdjjedndbaa.B
open Go.RowKit Go.Proofs.YtbnjbdjjedndbaaW.PrintWords Go.Proofs.YtbnjbdjjedndbaaW.PrintLast Go.Proofs.YtbnjbdjjedndbaaW.PrintMore

theorem u64_wrap (x : Int) : IntKind.u64.wrap x = x % 18446744073709551616 := by simp [IntKind.wrap, IntKind.bits, IntKind.signed]
theorem and32 (x : Int) (h0 : 0 ≤ x) (h1 : x < 18446744073709551616) : Go.bits .and .u64 x 4294967295 = x % 4294967296 :=
  bits_mask .u64 64 (by decide) (fun n a b => by rw [u64_wrap]; omega) 32 (by decide) x h0 h1

theorem mul64_eq (a b : Int) (ha : 0 ≤ a) (ha1 : a < 18446744073709551616) (hb : 0 ≤ b) (hb1 : b < 18446744073709551616) :
    bits_Mul64.f a b = some ((a * b) / 18446744073709551616, (a * b) % 18446744073709551616) := by
  unfold bits_Mul64.f
  have e0 : a = 4294967296 * (a / 4294967296) + a % 4294967296 := by omega
  have e1 : b = 4294967296 * (b / 4294967296) + b % 4294967296 := by omega
  obtain ⟨x1, hx1⟩ : ∃ x, a / 4294967296 = x := ⟨_, rfl⟩
  obtain ⟨x0, hx0⟩ : ∃ x, a % 4294967296 = x := ⟨_, rfl⟩
  obtain ⟨y1, hy1⟩ : ∃ x, b / 4294967296 = x := ⟨_, rfl⟩
  obtain ⟨y0, hy0⟩ : ∃ x, b % 4294967296 = x := ⟨_, rfl⟩
  rw [and32 a ha ha1, and32 b hb hb1, hx1, hx0, hy1, hy0]
  have bx1 : 0 ≤ x1 ∧ x1 ≤ 4294967295 := by omega
  have bx0 : 0 ≤ x0 ∧ x0 ≤ 4294967295 := by omega
  have by1 : 0 ≤ y1 ∧ y1 ≤ 4294967295 := by omega
  have by0 : 0 ≤ y0 ∧ y0 ≤ 4294967295 := by omega
  have hm : ∀ u v : Int, 0 ≤ u ∧ u ≤ 4294967295 → 0 ≤ v ∧ v ≤ 4294967295 → 0 ≤ u * v ∧ u * v ≤ 18446744065119617025 := by
    intro u v hu hv
    have h := Int.mul_le_mul hu.2 hv.2 hv.1 (by omega : (0 : Int) ≤ 4294967295)
    exact ⟨Int.mul_nonneg hu.1 hv.1, h⟩
  have hp := hm x0 y0 bx0 by0
  have hq := hm x1 y0 bx1 by0
  have hr := hm x0 y1 bx0 by1
  have hs := hm x1 y1 bx1 by1
  have hab : a * b = 18446744073709551616 * (x1 * y1) + 4294967296 * (x1 * y0 + x0 * y1) + x0 * y0 := by
    rw [e0, e1, hx1, hx0, hy1, hy0, Int.add_mul, Int.mul_add, Int.mul_add]
    have f1 : 4294967296 * x1 * (4294967296 * y1) = 18446744073709551616 * (x1 * y1) := by
      rw [Int.mul_assoc, Int.mul_left_comm x1, ← Int.mul_assoc]; rfl
    have f2 : 4294967296 * x1 * y0 = 4294967296 * (x1 * y0) := Int.mul_assoc _ _ _
    have f3 : x0 * (4294967296 * y1) = 4294967296 * (x0 * y1) := Int.mul_left_comm _ _ _
    rw [f1, f2, f3]
    omega
  rw [hab]
  generalize x0 * y0 = p at hp ⊢
  generalize x1 * y0 = q at hq ⊢
  generalize x0 * y1 = r at hr ⊢
  generalize x1 * y1 = s at hs ⊢
  clear hm hab e0 e1 hx1 hx0 hy1 hy0 bx1 bx0 by1 by0
  simp only [u64_wrap]
  have w1 : p % 18446744073709551616 = p := by omega
  rw [w1]
  have w2 : q % 18446744073709551616 = q := by omega
  rw [w2]
  have w3 : r % 18446744073709551616 = r := by omega
  rw [w3]
  have w4 : s % 18446744073709551616 = s := by omega
  rw [w4]
  have w5 : (q + p / 4294967296) % 18446744073709551616 = q + p / 4294967296 := by omega
  rw [w5, and32 (q + p / 4294967296) (by omega) (by omega)]
  have w6 : ((q + p / 4294967296) % 4294967296 + r) % 18446744073709551616 = (q + p / 4294967296) % 4294967296 + r := by omega
  rw [w6]
  congr 2
  omega

theorem product_eq (a b : Int) (ha : -4611686018427387904 ≤ a) (ha1 : a ≤ 4611686018427387904) (hb : -4611686018427387904 ≤ b) (hb1 : b ≤ 4611686018427387904) :
    precision_Product.f a b = some ((a * b) / 18446744073709551616, (a * b) % 18446744073709551616) := by
  unfold precision_Product.f
  have hP : -21267647932558653966460912964485513216 ≤ a * b ∧ a * b ≤ 21267647932558653966460912964485513216 := by
    have h : (a * b).natAbs ≤ 21267647932558653966460912964485513216 := by
      rw [Int.natAbs_mul]
      exact Nat.mul_le_mul (show a.natAbs ≤ 4611686018427387904 by omega) (show b.natAbs ≤ 4611686018427387904 by omega)
    omega
  simp only [u64_wrap]
  have hw : ∀ x : Int, wrap64 x = (x + 9223372036854775808) % 18446744073709551616 - 9223372036854775808 := fun x => by unfold wrap64; omega
  by_cases h1 : a < 0
  · have ea : a % 18446744073709551616 = a + 18446744073709551616 := by omega
    by_cases h2 : b < 0
    · have eb : b % 18446744073709551616 = b + 18446744073709551616 := by omega
      have em : (a + 18446744073709551616) * (b + 18446744073709551616) = a * b + 18446744073709551616 * a + 18446744073709551616 * b + 340282366920938463463374607431768211456 := by
        rw [Int.add_mul, Int.mul_add, Int.mul_add, Int.mul_comm a 18446744073709551616]; omega
      rw [ea, eb, mul64_eq _ _ (by omega) (by omega) (by omega) (by omega), em]
      simp only [Option.bind_some]
      rw [if_pos h1, if_pos h2, hw]
      generalize a * b = P at hP ⊢
      congr 2 <;> omega
    · have eb : b % 18446744073709551616 = b := by omega
      have em : (a + 18446744073709551616) * b = a * b + 18446744073709551616 * b := Int.add_mul _ _ _
      rw [ea, eb, mul64_eq _ _ (by omega) (by omega) (by omega) (by omega), em]
      simp only [Option.bind_some]
      rw [if_pos h1, if_neg h2, hw]
      generalize a * b = P at hP ⊢
      congr 2 <;> omega
  · have ea : a % 18446744073709551616 = a := by omega
    by_cases h2 : b < 0
    · have eb : b % 18446744073709551616 = b + 18446744073709551616 := by omega
      have em : a * (b + 18446744073709551616) = a * b + 18446744073709551616 * a := by rw [Int.mul_add, Int.mul_comm a 18446744073709551616]
      rw [ea, eb, mul64_eq _ _ (by omega) (by omega) (by omega) (by omega), em]
      simp only [Option.bind_some]
      rw [if_neg h1, if_pos h2, hw]
      generalize a * b = P at hP ⊢
      congr 2 <;> omega
    · have eb : b % 18446744073709551616 = b := by omega
      rw [ea, eb, mul64_eq _ _ (by omega) (by omega) (by omega) (by omega)]
      simp only [Option.bind_some]
      rw [if_neg h1, if_neg h2, hw]
      generalize a * b = P at hP ⊢
      congr 2
      omega

/-- The sign of a comparison. -/
def cmpI (a b : Int) : Int := if a < b then -1 else if a > b then 1 else 0
theorem cmp_int (a b : Int) : cmp_Compare_int.f a b = some (cmpI a b) := by
  unfold cmp_Compare_int.f cmp_isNaN_int.f cmpI
  simp only [Option.bind_some, bne_self_eq_false]
  rw [if_neg (by simp), if_neg (by simp)]
  by_cases h : a < b
  · rw [if_pos h, if_pos h]
  · rw [if_neg h, if_neg h]
    by_cases h2 : a > b
    · rw [if_pos h2, if_pos h2]
    · rw [if_neg h2, if_neg h2]
theorem cmp_u64 (a b : Int) : cmp_Compare_uint64.f a b = some (cmpI a b) := by
  unfold cmp_Compare_uint64.f cmp_isNaN_uint64.f cmpI
  simp only [Option.bind_some, bne_self_eq_false]
  rw [if_neg (by simp), if_neg (by simp)]
  by_cases h : a < b
  · rw [if_pos h, if_pos h]
  · rw [if_neg h, if_neg h]
    by_cases h2 : a > b
    · rw [if_pos h2, if_pos h2]
    · rw [if_neg h2, if_neg h2]
theorem or_two (k : Nat) (hk : 3 ≤ k) (x y : Int) : cmp_Or_int.f k [x, y] = some (if x = 0 then y else x) := by
  obtain ⟨k, rfl⟩ : ∃ m, k = m + 3 := ⟨k - 3, by omega⟩
  unfold cmp_Or_int.f
  have w0 : wrap64 (0 + 1) = 1 := by unfold wrap64; omega
  have w1 : wrap64 (1 + 1) = 2 := by unfold wrap64; omega
  have r0 : rd [x, y] 0 = x := rfl
  have r1 : rd [x, y] 1 = y := rfl
  have hl : (([x, y] : List Int).length : Int) = 2 := rfl
  simp only [cmp_Or_int.l0, hl, r0, w0, r1, w1]
  by_cases h : x = 0
  · by_cases h2 : y = 0
    · simp [h, h2]
    · simp [h, h2]
  · simp [h]
/-- Compare of numbers in two words. -/
theorem compare_eq (k : Nat) (hk : 3 ≤ k) (P Q : Int) : precision_Compare.f k (P / 18446744073709551616) (P % 18446744073709551616) (Q / 18446744073709551616) (Q % 18446744073709551616) = some (cmpI P Q) := by
  unfold precision_Compare.f
  rw [cmp_int, cmp_u64]
  simp only [Option.bind_some]
  rw [or_two k hk]
  simp only [Option.bind_some]
  congr 1
  unfold cmpI
  by_cases h1 : P / 18446744073709551616 < Q / 18446744073709551616
  · rw [if_pos h1, if_neg (by omega), if_pos (by omega)]
  · rw [if_neg h1]
    by_cases h2 : P / 18446744073709551616 > Q / 18446744073709551616
    · rw [if_pos h2, if_neg (by omega), if_neg (by omega), if_pos (by omega)]
    · rw [if_neg h2, if_pos rfl]
      by_cases h3 : P % 18446744073709551616 < Q % 18446744073709551616
      · rw [if_pos h3, if_pos (c := P < Q) (by omega)]
      · rw [if_neg h3, if_neg (c := P < Q) (by omega)]
        by_cases h4 : P % 18446744073709551616 > Q % 18446744073709551616
        · rw [if_pos h4, if_pos (c := P > Q) (by omega)]
        · rw [if_neg h4, if_neg (c := P > Q) (by omega)]
end Go.Proofs.Ytbnjbdjjedndbaa.B
