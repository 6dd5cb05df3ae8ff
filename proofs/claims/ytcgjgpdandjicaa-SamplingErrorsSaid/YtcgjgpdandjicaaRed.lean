/- Reduce of the program and of the reference return the fraction in lowest terms (or ErrRange), for any numbers. -/
import Derived.Test.YtcgjgpdandjicaaBR
import Derived.Test.YtcgjgpdandjicaaBQ
namespace Go.Proofs.Ytcgjgpdandjicaa.B
set_option linter.unusedVariables false
set_option linter.unusedSimpArgs false
open Go.RowKit Go.Proofs.YtcgjgpdandjicaaW.PrintWords Go.Proofs.YtcgjgpdandjicaaW.PrintLast Go.Proofs.YtcgjgpdandjicaaW.PrintMore

/-- The fraction in lowest terms, and the error. -/
def red (a b : Int) : Int × Int × Int :=
  if b = 0 ∨ 1152921504606846976 < a ∨ a < -1152921504606846976 ∨ 1152921504606846976 < b ∨ b < -1152921504606846976 then (0, 0, 1)
  else if b < 0 then ((-a).tdiv (Int.gcd a b), (-b).tdiv (Int.gcd a b), 0) else (a.tdiv (Int.gcd a b), b.tdiv (Int.gcd a b), 0)

theorem wrap_small {x : Int} (h0 : -1152921504606846976 ≤ x) (h1 : x ≤ 1152921504606846976) : wrap64 x = x := by unfold wrap64; omega
theorem tdiv_small {x : Int} (g : Nat) (h0 : -1152921504606846976 ≤ x) (h1 : x ≤ 1152921504606846976) : wrap64 (x.tdiv g) = x.tdiv g := by
  have h : (x.tdiv g).natAbs ≤ x.natAbs := by rw [Int.natAbs_tdiv]; exact Nat.div_le_self _ _
  exact wrap_small (by omega) (by omega)

theorem within_eq (a lo hi : Int) : score_within.f a lo hi = some (decide (lo ≤ a ∧ a ≤ hi)) := by
  unfold score_within.f
  split <;> simp [*]

theorem red_l0 (x0 x1 : Int) (hx0 : -1152921504606846976 ≤ x0 ∧ x0 ≤ 1152921504606846976) (hx1 : -1152921504606846976 ≤ x1 ∧ x1 ≤ 1152921504606846976) :
    ∀ (k m n : Nat), n < k → 0 < m ∨ 0 < n → score_ReduceP.l0 k x0 x1 m n = some (x0.tdiv (Nat.gcd m n), x1.tdiv (Nat.gcd m n), 0) := by
  intro k
  induction k with
  | zero => intro m n h; omega
  | succ k ih =>
    intro m n hk hp
    simp only [score_ReduceP.l0]
    by_cases hn : n = 0
    · subst hn
      rw [if_pos (by simp), if_neg (by omega), Nat.gcd_zero_right, tdiv_small _ hx0.1 hx0.2, tdiv_small _ hx1.1 hx1.2]
    · rw [if_neg (by omega)]
      have hm : Int.tmod (m : Int) n = ((m % n : Nat) : Int) := rfl
      have hlt := Nat.mod_lt m (Nat.pos_of_ne_zero hn)
      rw [hm, ih n (m % n) (by omega) (by omega)]
      have hg : Nat.gcd n (m % n) = Nat.gcd m n := by rw [Nat.gcd_comm n (m % n), ← Nat.gcd_rec, Nat.gcd_comm]
      rw [hg]

theorem ref_l0 : ∀ (k : Nat) (x0 x1 m n : Int), synopticref38_ReduceP.l0 k x0 x1 m n = score_ReduceP.l0 k x0 x1 m n
  | 0, _, _, _, _ => by simp [synopticref38_ReduceP.l0, score_ReduceP.l0]
  | k + 1, x0, x1, m, n => by simp only [synopticref38_ReduceP.l0, score_ReduceP.l0, ref_l0 k]
theorem ref_j1 (k : Nat) (x0 x1 : Int) : synopticref38_ReduceP.j1 k x0 x1 = score_ReduceP.j1 k x0 x1 := by
  cases k with
  | zero => simp [synopticref38_ReduceP.j1, score_ReduceP.j1]
  | succ k => simp only [synopticref38_ReduceP.j1, score_ReduceP.j1, ref_l0 k]
theorem ref_j0 (k : Nat) (x0 x1 : Int) (b : Bool) : synopticref38_ReduceP.j0 k x0 x1 b = score_ReduceP.j0 k x0 x1 b := by
  cases k with
  | zero => simp [synopticref38_ReduceP.j0, score_ReduceP.j0]
  | succ k => simp only [synopticref38_ReduceP.j0, score_ReduceP.j0, ref_j1 k]
theorem ref_red (k : Nat) (a b : Int) : synopticref38_ReduceP.f k a b = score_ReduceP.f k a b := by
  unfold synopticref38_ReduceP.f score_ReduceP.f
  simp only [ref_j0, within_eq, Option.bind_some]
  by_cases h0 : b = 0
  · rw [if_pos h0, if_pos h0]
  · rw [if_neg h0, if_neg h0]
    by_cases h1 : a > 1152921504606846976
    · rw [if_pos h1, if_neg (c := decide (-1152921504606846976 ≤ a ∧ a ≤ 1152921504606846976) = true) (by simp; omega)]
    · rw [if_neg h1]
      by_cases h2 : a < -1152921504606846976
      · rw [if_pos h2, if_neg (c := decide (-1152921504606846976 ≤ a ∧ a ≤ 1152921504606846976) = true) (by simp; omega)]
      · rw [if_neg h2, if_pos (c := decide (-1152921504606846976 ≤ a ∧ a ≤ 1152921504606846976) = true) (by simp; omega)]
        by_cases h3 : b > 1152921504606846976
        · rw [if_pos h3, show (decide (-1152921504606846976 ≤ b ∧ b ≤ 1152921504606846976)) = false from decide_eq_false (by omega)]; rfl
        · rw [if_neg h3]
          congr 1
          by_cases h4 : b < -1152921504606846976
          · rw [decide_eq_true h4, decide_eq_false (by omega)]; rfl
          · rw [decide_eq_false h4, decide_eq_true (by omega)]; rfl

theorem j1_some (k : Nat) (a b : Int) (ha : -1152921504606846976 ≤ a ∧ a ≤ 1152921504606846976) (hb : 0 < b ∧ b ≤ 1152921504606846976) (hk : b.toNat + 1 < k) :
    score_ReduceP.j1 k a b = some (a.tdiv (Int.gcd a b), b.tdiv (Int.gcd a b), 0) := by
  obtain ⟨k, rfl⟩ : ∃ m, k = m + 1 := ⟨k - 1, by omega⟩
  simp only [score_ReduceP.j1]
  rw [wrap_small (x := -a) (by omega) (by omega)]
  have h1 : mx a (-a) = (a.natAbs : Int) := by unfold mx; split <;> omega
  obtain ⟨n, rfl⟩ := Int.eq_ofNat_of_zero_le (show 0 ≤ b by omega)
  rw [h1, red_l0 a n ha (by omega) k a.natAbs n (by omega) (by omega)]
  rfl

theorem red_some (a b : Int) : ∃ k, ∀ k', k ≤ k' → score_ReduceP.f k' a b = some (red a b) := by
  refine ⟨b.natAbs + 5, fun k hk => ?_⟩
  obtain ⟨k, rfl⟩ : ∃ m, k = m + 1 := ⟨k - 1, by omega⟩
  unfold score_ReduceP.f red
  simp only [within_eq, Option.bind_some, score_ReduceP.j0]
  by_cases h0 : b = 0
  · simp [h0]
  · rw [if_neg h0]
    by_cases h1 : -1152921504606846976 ≤ a ∧ a ≤ 1152921504606846976
    · rw [decide_eq_true h1]
      by_cases h2 : -1152921504606846976 ≤ b ∧ b ≤ 1152921504606846976
      · rw [decide_eq_true h2, if_neg (c := b = 0 ∨ _) (by omega)]
        simp only [if_true, Bool.not_true]
        rw [if_neg (by simp)]
        by_cases h3 : b < 0
        · rw [if_pos h3, if_pos h3, wrap_small (x := -a) (by omega) (by omega), wrap_small (x := -b) (by omega) (by omega), j1_some k (-a) (-b) (by omega) (by omega) (by omega)]
          rw [Int.neg_gcd, Int.gcd_neg]
        · rw [if_neg h3, if_neg h3, j1_some k a b h1 (by omega) (by omega)]
      · rw [decide_eq_false h2, if_pos (c := b = 0 ∨ _) (by omega)]
        simp
    · rw [decide_eq_false h1, if_pos (c := b = 0 ∨ _) (by omega)]
      simp

/-- What the program's Reduce returns. -/
theorem Reduce_any (a b : Int) (w : World) : Calls Try.prog 22 #[.int .i64 a, .int .i64 b] w fun e w' => e = .returned (.tuple #[.agg #[.int .i64 (red a b).1, .int .i64 (red a b).2.1], .int .i64 (red a b).2.2]) ∧ Below w.heap.size w w' := by
  obtain ⟨k, h⟩ := red_some a b
  exact score_ReduceP.calls k a b _ _ _ w (h k (Nat.le_refl _))
/-- What the reference's Reduce returns. -/
theorem RefReduce_any (a b : Int) (w : World) : Calls Try.prog 41 #[.int .i64 a, .int .i64 b] w fun e w' => e = .returned (.tuple #[.agg #[.int .i64 (red a b).1, .int .i64 (red a b).2.1], .int .i64 (red a b).2.2]) ∧ Below w.heap.size w w' := by
  obtain ⟨k, h⟩ := red_some a b
  exact synopticref38_ReduceP.calls k a b _ _ _ w (by rw [ref_red]; exact h k (Nat.le_refl _))
/-- Reduce, told at once. -/
def score_Reduce.f (a0 a1 : Int) : Option (Int × Int × Int) := some (red a0 a1)
theorem score_Reduce.calls (a0 a1 r1 r2 r3 : Int) (w : World) (h : score_Reduce.f a0 a1 = some (r1, r2, r3)) : Calls Try.prog 22 #[.int .i64 a0, .int .i64 a1] w fun e w' => e = .returned (.tuple #[.agg #[.int .i64 r1, .int .i64 r2], .int .i64 r3]) ∧ Below w.heap.size w w' := by
  have := Reduce_any a0 a1 w
  rwa [Option.some.inj h] at this
def synopticref38_Reduce.f (a0 a1 : Int) : Option (Int × Int × Int) := some (red a0 a1)
theorem synopticref38_Reduce.calls (a0 a1 r1 r2 r3 : Int) (w : World) (h : synopticref38_Reduce.f a0 a1 = some (r1, r2, r3)) : Calls Try.prog 41 #[.int .i64 a0, .int .i64 a1] w fun e w' => e = .returned (.tuple #[.agg #[.int .i64 r1, .int .i64 r2], .int .i64 r3]) ∧ Below w.heap.size w w' := by
  have := RefReduce_any a0 a1 w
  rwa [Option.some.inj h] at this
end Go.Proofs.Ytcgjgpdandjicaa.B
