/- The loop of chosen adds up the chosen elements of a sample. -/
import Derived.Test.YtcgjgpdandjicaaBA
import Derived.Test.YtcgjgpdandjicaaDevs
import Derived.Laws.BitsLemmas
namespace Go.Proofs.Ytcgjgpdandjicaa.B
open Go.RowKit Go.Proofs.YtcgjgpdandjicaaW.PrintWords Go.Proofs.YtcgjgpdandjicaaW.PrintLast Go.Proofs.YtcgjgpdandjicaaW.PrintMore
open Go.Proofs.Ytcgjgpdandjicaa.Smp
set_option linter.unusedVariables false
set_option linter.unusedSimpArgs false

/-- The elements of a sample are scores. -/
def Fine (l : List Int) : Prop := ∀ x ∈ l, -1000000 ≤ x ∧ x ≤ 1000000
theorem Fine.drop {l : List Int} (h : Fine l) (i : Nat) : Fine (l.drop i) := fun x hx => h x (List.mem_of_mem_drop hx)
theorem Fine.tail {x : Int} {l : List Int} (h : Fine (x :: l)) : Fine l := fun y hy => h y (List.mem_cons_of_mem _ hy)
theorem chosen_bound : ∀ (l : List Int), Fine l → ∀ c, -(1000000 * (l.length : Int)) ≤ chosen l c ∧ chosen l c ≤ 1000000 * (l.length : Int)
  | [], _, c => by simp [chosen]
  | x :: l, h, c => by
    have h1 := h x (List.mem_cons_self ..)
    have h2 := chosen_bound l h.tail (c / 2)
    simp only [chosen, List.length_cons]
    split <;> omega
theorem total_bound : ∀ (l : List Int), Fine l → -(1000000 * (l.length : Int)) ≤ total l ∧ total l ≤ 1000000 * (l.length : Int)
  | [], _ => by simp [total]
  | x :: l, h => by
    have h1 := h x (List.mem_cons_self ..)
    have h2 := total_bound l h.tail
    simp only [total, List.length_cons]
    omega

theorem u64_small {x : Int} (h0 : 0 ≤ x) (h1 : x < 18446744073709551616) : IntKind.u64.wrap x = x := by
  simp [IntKind.wrap, IntKind.bits, IntKind.signed]; omega
theorem bit_at (c i : Nat) (hc : c < 18446744073709551616) (hi : i ≤ 64) : Go.bits .and .u64 (shr .u64 (c : Int) (i : Int)) 1 = ((c / 2 ^ i % 2 : Nat) : Int) := by
  have e : shr .u64 (c : Int) (i : Int) = ((c / 2 ^ i : Nat) : Int) := by
    unfold shr
    rw [show ((i : Int).toNat) = i from rfl, show IntKind.bits .u64 = 64 from rfl, Nat.min_eq_left hi]
    rw [Int.natCast_ediv, Int.natCast_pow]; rfl
  have hlt : c / 2 ^ i < 18446744073709551616 := Nat.lt_of_le_of_lt (Nat.div_le_self _ _) hc
  rw [e]
  clear e
  generalize c / 2 ^ i = q at hlt ⊢
  have h := bits_mask .u64 64 (by decide) (fun n a b => by rw [u64_small a (by omega)]) 1 (by decide) (q : Int) (by omega) (by omega)
  have h2 : ((2 : Int) ^ 1 - 1) = 1 := by decide
  rw [h2] at h
  rw [h]
  omega

theorem chosen_l0 (l : List Int) (hl : l.length ≤ 64) (hf : Fine l) (c : Nat) (hc : c < 18446744073709551616) : ∀ (d k i : Nat) (S : Int), i + d = l.length → d < k → -(1000000 * (i : Int)) ≤ S → S ≤ 1000000 * (i : Int) →
    sampling_chosen.l0 k (c : Int) S l (l.length : Int) (i : Int) = some (S + chosen (l.drop i) (c / 2 ^ i)) := by
  intro d
  induction d with
  | zero =>
    intro k i S hd hk h0 h1
    obtain ⟨k, rfl⟩ : ∃ m, k = m + 1 := ⟨k - 1, by omega⟩
    simp only [sampling_chosen.l0]
    rw [if_neg (by omega), List.drop_of_length_le (by omega)]
    simp [chosen]
  | succ d ih =>
    intro k i S hd hk h0 h1
    obtain ⟨k, rfl⟩ : ∃ m, k = m + 1 := ⟨k - 1, by omega⟩
    have hi : i < l.length := by omega
    have hx := hf l[i] (List.getElem_mem hi)
    have er : rd l (i : Int) = l[i] := by unfold rd; simp [hi]
    have hw : wrap64 ((i : Int) + 1) = ((i + 1 : Nat) : Int) := by unfold wrap64; omega
    have hs : wrap64 (S + l[i]) = S + l[i] := by unfold wrap64; omega
    have ed : chosen (l.drop i) (c / 2 ^ i) = (if c / 2 ^ i % 2 = 1 then l[i] else 0) + chosen (l.drop (i + 1)) (c / 2 ^ (i + 1)) := by
      rw [List.drop_eq_getElem_cons hi, chosen, Nat.div_div_eq_div_mul, ← Nat.pow_succ]
    simp only [sampling_chosen.l0]
    rw [if_pos (by omega), if_pos (by omega), if_pos (by omega), bit_at c i hc (by omega), hw, er, hs, ed]
    by_cases hb : c / 2 ^ i % 2 = 1
    · rw [if_pos (by omega), if_pos hb, ih k (i + 1) (S + l[i]) (by omega) (by omega) (by omega) (by omega)]
      congr 1; omega
    · rw [if_neg (by omega), if_neg hb, ih k (i + 1) S (by omega) (by omega) (by omega) (by omega)]
      congr 1; omega
theorem chosen_eq (l : List Int) (hl : l.length ≤ 64) (hf : Fine l) (c : Nat) (hc : c < 18446744073709551616) : sampling_chosen.f (l.length + 1) l (c : Int) = some (chosen l c) := by
  unfold sampling_chosen.f
  have h := chosen_l0 l hl hf c hc l.length (l.length + 1) 0 0 (by omega) (by omega) (by omega) (by omega)
  simpa using h
/-- All bits: all elements. -/
theorem chosen_all : ∀ l : List Int, chosen l (2 ^ l.length - 1) = total l
  | [] => rfl
  | x :: l => by
    have hp : 0 < 2 ^ l.length := Nat.two_pow_pos _
    have ih := chosen_all l
    rw [chosen, total, List.length_cons, Nat.pow_succ, if_pos (by omega), show (2 ^ l.length * 2 - 1) / 2 = 2 ^ l.length - 1 from by omega, ih]
theorem chosen_zero : ∀ l : List Int, chosen l 0 = 0
  | [] => rfl
  | x :: l => by simp [chosen, chosen_zero l]
/-- The first bits: the first elements. -/
theorem chosen_first : ∀ (a b : List Int), chosen (a ++ b) (2 ^ a.length - 1) = total a
  | [], b => by simp [chosen_zero, total]
  | x :: a, b => by
    have hp : 0 < 2 ^ a.length := Nat.two_pow_pos _
    have ih := chosen_first a b
    rw [List.cons_append, chosen, total, List.length_cons, Nat.pow_succ, if_pos (by omega), show (2 ^ a.length * 2 - 1) / 2 = 2 ^ a.length - 1 from by omega, ih]
end Go.Proofs.Ytcgjgpdandjicaa.B
