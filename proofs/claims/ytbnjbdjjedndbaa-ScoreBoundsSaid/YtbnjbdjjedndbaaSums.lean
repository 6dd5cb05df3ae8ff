/- The summary of errors in plain numbers: Of returns the number, the sum, the absolute sum and the sum of the squares; the square of the sum is at most the number times the sum of the squares. -/
import Derived.Test.YtbnjbdjjedndbaaBM
import Derived.Test.YtbnjbdjjedndbaaCodes
namespace Go.Proofs.Ytbnjbdjjedndbaa.B
open Go.RowKit Go.Proofs.YtbnjbdjjedndbaaW.PrintWords Go.Proofs.YtbnjbdjjedndbaaW.PrintLast Go.Proofs.YtbnjbdjjedndbaaW.PrintMore

def dif (p : S40) : Int := p.f0 - p.f1
def sS : List S40 → Int
  | [] => 0
  | p :: r => dif p + sS r
def sA : List S40 → Int
  | [] => 0
  | p :: r => ((dif p).natAbs : Int) + sA r
def sQ : List S40 → Int
  | [] => 0
  | p :: r => dif p * dif p + sQ r
/-- Pairs that Of accepts. -/
def Fine (l : List S40) : Prop := ∀ p ∈ l, (-1000000 ≤ p.f0 ∧ p.f0 ≤ 1000000) ∧ (-1000000 ≤ p.f1 ∧ p.f1 ≤ 1000000)
theorem Fine.of_small {l : List S40} (h : SmallPairs l) : Fine l := fun p hp => by
  have := h p hp
  omega
theorem sS_append (a b : List S40) : sS (a ++ b) = sS a + sS b := by
  induction a with
  | nil => simp [sS]
  | cons p a ih => simp only [List.cons_append, sS, ih]; omega
theorem sA_append (a b : List S40) : sA (a ++ b) = sA a + sA b := by
  induction a with
  | nil => simp [sA]
  | cons p a ih => simp only [List.cons_append, sA, ih]; omega
theorem sQ_append (a b : List S40) : sQ (a ++ b) = sQ a + sQ b := by
  induction a with
  | nil => simp [sQ]
  | cons p a ih => simp only [List.cons_append, sQ, ih]; omega

theorem sq_bound {d M : Int} (h0 : -M ≤ d) (h1 : d ≤ M) : 0 ≤ d * d ∧ d * d ≤ M * M := by
  have h : d * d = (d.natAbs : Int) * d.natAbs := by
    rw [← Int.natCast_mul, Int.natAbs_mul_self]
  rw [h]
  exact ⟨Int.mul_nonneg (by omega) (by omega), Int.mul_le_mul (by omega) (by omega) (by omega) (by omega)⟩
theorem dif_bound {l : List S40} (h : Fine l) : ∀ p ∈ l, -2000000 ≤ dif p ∧ dif p ≤ 2000000 := fun p hp => by
  have := h p hp
  unfold dif
  omega
theorem sums_bound {l : List S40} (h : Fine l) : -2000000 * (l.length : Int) ≤ sS l ∧ sS l ≤ 2000000 * (l.length : Int) ∧ 0 ≤ sA l ∧ sA l ≤ 2000000 * (l.length : Int) ∧ 0 ≤ sQ l ∧ sQ l ≤ 4000000000000 * (l.length : Int) := by
  induction l with
  | nil => simp [sS, sA, sQ]
  | cons p l ih =>
    have hp := dif_bound h p (List.mem_cons_self ..)
    have hq := sq_bound (M := 2000000) hp.1 hp.2
    have := ih (fun q hq => h q (List.mem_cons_of_mem _ hq))
    simp only [sS, sA, sQ, List.length_cons]
    omega

theorem rd_cons (l : List S40) (i : Nat) (h : i < l.length) : l.drop i = rd_T40 l (i : Int) :: l.drop (i + 1) := by
  unfold rd_T40
  rw [Int.toNat_natCast, List.getD_eq_getElem?_getD, List.getElem?_eq_getElem h, Option.getD_some]
  exact List.drop_eq_getElem_cons h
theorem rd_mem (l : List S40) (i : Nat) (h : i < l.length) : rd_T40 l (i : Int) ∈ l := by
  unfold rd_T40
  rw [Int.toNat_natCast, List.getD_eq_getElem?_getD, List.getElem?_eq_getElem h, Option.getD_some]
  exact List.getElem_mem h

theorem within_yes (x : Int) (h0 : -1000000 ≤ x) (h1 : x ≤ 1000000) : score_within.f x (-1000000) 1000000 = some true := by
  unfold score_within.f
  rw [if_pos h0, decide_eq_true h1]

theorem check_loop (l : List S40) (hl : l.length ≤ 10000) (hf : Fine l) : ∀ (d k i : Nat), i + d = l.length → d < k → score_check.l0 k l (l.length : Int) (i : Int) = some 0 := by
  intro d
  induction d with
  | zero =>
    intro k i hd hk
    obtain ⟨k, rfl⟩ : ∃ m, k = m + 1 := ⟨k - 1, by omega⟩
    simp only [score_check.l0]
    rw [if_neg (by omega)]
  | succ d ih =>
    intro k i hd hk
    obtain ⟨k, rfl⟩ : ∃ m, k = m + 1 := ⟨k - 1, by omega⟩
    have hb := hf _ (rd_mem l i (by omega))
    have hr := ih k (i + 1) (by omega) (by omega)
    simp only [score_check.l0]
    rw [if_pos (by omega), if_pos (by omega), if_pos (by omega), within_yes _ hb.1.1 hb.1.2]
    simp only [Option.bind_some, if_true]
    rw [within_yes _ hb.2.1 hb.2.2]
    simp only [Option.bind_some, if_true]
    rw [wrap_id (by omega) (by omega)]
    exact hr
theorem check_ok (l : List S40) (hl : l.length ≤ 10000) (hf : Fine l) (k : Nat) (hk : l.length < k) : score_check.f k l = some 0 := by
  unfold score_check.f
  rw [if_neg (by omega)]
  exact check_loop l hl hf l.length k 0 (by omega) hk

theorem mx_abs (d : Int) (h0 : -2000000 ≤ d) (h1 : d ≤ 2000000) : mx d (wrap64 (-d)) = (d.natAbs : Int) := by
  rw [wrap_id (by omega) (by omega)]
  unfold mx
  split <;> omega

theorem Of_loop (l : List S40) (hl : l.length ≤ 10000) (hf : Fine l) : ∀ (d k i : Nat) (n s a q : Int), i + d = l.length → d < k →
    -2000000 * (i : Int) ≤ s → s ≤ 2000000 * (i : Int) → 0 ≤ a → a ≤ 2000000 * (i : Int) → 0 ≤ q → q ≤ 4000000000000 * (i : Int) →
    score_Of.l0 k l (l.length : Int) (i : Int) n s a q = some (n, s + sS (l.drop i), a + sA (l.drop i), q + sQ (l.drop i), 0) := by
  intro d
  induction d with
  | zero =>
    intro k i n s a q hd hk _ _ _ _ _ _
    obtain ⟨k, rfl⟩ : ∃ m, k = m + 1 := ⟨k - 1, by omega⟩
    simp only [score_Of.l0]
    rw [if_neg (by omega), List.drop_eq_nil_of_le (by omega)]
    simp [sS, sA, sQ]
  | succ d ih =>
    intro k i n s a q hd hk h1 h2 h3 h4 h5 h6
    obtain ⟨k, rfl⟩ : ∃ m, k = m + 1 := ⟨k - 1, by omega⟩
    have hb := dif_bound hf _ (rd_mem l i (by omega))
    have hq := sq_bound (M := 2000000) hb.1 hb.2
    obtain ⟨p, hp⟩ : ∃ p, rd_T40 l (i : Int) = p := ⟨_, rfl⟩
    simp only [score_Of.l0]
    rw [hp] at hb hq ⊢
    have hdf : p.f0 - p.f1 = dif p := rfl
    rw [rd_cons l i (by omega), hp, hdf]
    rw [if_pos (by omega), if_pos (by omega), if_pos (by omega), wrap_id (x := dif p) (by omega) (by omega), mx_abs _ hb.1 hb.2, wrap_id (x := dif p * dif p) (by omega) (by omega),
      wrap_id (x := s + dif p) (by omega) (by omega), wrap_id (x := a + ((dif p).natAbs : Int)) (by omega) (by omega), wrap_id (x := q + dif p * dif p) (by omega) (by omega), wrap_id (x := (i : Int) + 1) (by omega) (by omega)]
    have hr := ih k (i + 1) n (s + dif p) (a + ((dif p).natAbs : Int)) (q + dif p * dif p) (by omega) (by omega) (by omega) (by omega) (by omega) (by omega) (by omega) (by omega)
    have hc : ((i + 1 : Nat) : Int) = (i : Int) + 1 := by omega
    rw [hc] at hr
    rw [hr]
    simp only [sS, sA, sQ, Int.add_assoc]

/-- Of, of pairs that it accepts. -/
theorem Of_ok (l : List S40) (hl : l.length ≤ 10000) (hf : Fine l) (k : Nat) (hk : l.length < k) : score_Of.f k l = some ((l.length : Int), sS l, sA l, sQ l, 0) := by
  unfold score_Of.f
  rw [check_ok l hl hf k hk]
  simp only [Option.bind_some, if_true]
  have h := Of_loop l hl hf l.length k 0 (l.length : Int) 0 0 0 (by omega) hk (by omega) (by omega) (by omega) (by omega) (by omega) (by omega)
  rw [List.drop_zero, Int.zero_add, Int.zero_add, Int.zero_add] at h
  exact h

theorem sS_le_sA (l : List S40) : ((sS l).natAbs : Int) ≤ sA l := by
  induction l with
  | nil => simp [sS, sA]
  | cons p l ih => simp only [sS, sA]; omega

theorem poly (l : List S40) (x : Int) : 0 ≤ (l.length : Int) * (x * x) - 2 * (sS l * x) + sQ l := by
  induction l with
  | nil => simp [sS, sQ]
  | cons p l ih =>
    have h : 0 ≤ (x - dif p) * (x - dif p) := by
      have := (sq_bound (d := x - dif p) (M := (x - dif p).natAbs) (by omega) (by omega)).1
      exact this
    have e : (x - dif p) * (x - dif p) = x * x - 2 * (dif p * x) + dif p * dif p := by
      rw [Int.sub_mul, Int.mul_sub, Int.mul_sub, Int.mul_comm x (dif p)]; omega
    rw [e] at h
    simp only [sS, sQ, List.length_cons]
    have e1 : ((l.length + 1 : Nat) : Int) * (x * x) = (l.length : Int) * (x * x) + x * x := by
      rw [Int.natCast_add, Int.add_mul]; simp
    have e2 : (dif p + sS l) * x = dif p * x + sS l * x := Int.add_mul _ _ _
    rw [e1, e2]
    omega
/-- The square of the sum is at most the number times the sum of the squares. -/
theorem cauchy (l : List S40) : sS l * sS l ≤ (l.length : Int) * sQ l := by
  induction l with
  | nil => simp [sS, sQ]
  | cons p l ih =>
    have h := poly l (dif p)
    simp only [sS, sQ, List.length_cons]
    have e1 : (dif p + sS l) * (dif p + sS l) = dif p * dif p + 2 * (sS l * dif p) + sS l * sS l := by
      rw [Int.add_mul, Int.mul_add, Int.mul_add, Int.mul_comm (dif p) (sS l)]; omega
    have e2 : ((l.length + 1 : Nat) : Int) * (dif p * dif p + sQ l) = (l.length : Int) * (dif p * dif p) + (l.length : Int) * sQ l + (dif p * dif p + sQ l) := by
      rw [Int.natCast_add, Int.add_mul, Int.mul_add]; simp
    rw [e1, e2]
    omega
end Go.Proofs.Ytbnjbdjjedndbaa.B
