/- What the reference of chapter 39 computes: the same as the program. -/
import Derived.Test.YtcgjgpdandjicaaBI
import Derived.Test.YtcgjgpdandjicaaExact
import Derived.Test.YtcgjgpdandjicaaExch
namespace Go.Proofs.Ytcgjgpdandjicaa.B
open Go.RowKit Go.Proofs.YtcgjgpdandjicaaW.PrintWords Go.Proofs.YtcgjgpdandjicaaW.PrintLast Go.Proofs.YtcgjgpdandjicaaW.PrintMore
open Go.Proofs.Ytcgjgpdandjicaa.Smp
set_option linter.unusedVariables false
set_option linter.unusedSimpArgs false

theorem wrap_succ (n : Nat) (h : n ≤ 1000000) : wrap64 ((n : Int) + 1) = ((n + 1 : Nat) : Int) := by unfold wrap64; omega
theorem small_l0 (l : List Int) (hl : l.length ≤ 1000000) : ∀ (d k i : Nat), i + d = l.length → d < k → synopticref22_Small.l0 k l 1000000 (i : Int) = some (!outB (l.drop i)) := by
  intro d
  induction d with
  | zero =>
    intro k i hd hk
    obtain ⟨k, rfl⟩ : ∃ m, k = m + 1 := ⟨k - 1, by omega⟩
    simp only [synopticref22_Small.l0]
    rw [if_neg (by omega), List.drop_of_length_le (by omega)]
    rfl
  | succ d ih =>
    intro k i hd hk
    obtain ⟨k, rfl⟩ : ∃ m, k = m + 1 := ⟨k - 1, by omega⟩
    have hi : i < l.length := by omega
    have er : rd l (i : Int) = l[i] := by unfold rd; simp [hi]
    have hw : wrap64 ((i : Int) + 1) = ((i + 1 : Nat) : Int) := by unfold wrap64; omega
    have hn : wrap64 (-1000000) = -1000000 := by unfold wrap64; omega
    have eo : outB (l.drop i) = (!okB l[i] || outB (l.drop (i + 1))) := by
      rw [List.drop_eq_getElem_cons hi]; unfold outB; rw [List.any_cons]
    simp only [synopticref22_Small.l0]
    rw [if_pos (by omega), if_pos (by omega), er, hn, hw, ih k (i + 1) (by omega) (by omega), eo]
    unfold okB
    by_cases h1 : l[i] > 1000000
    · rw [if_pos h1, decide_eq_false (by omega)]; rfl
    · rw [if_neg h1]
      by_cases h2 : l[i] < -1000000
      · rw [if_pos h2, decide_eq_false (by omega)]; rfl
      · rw [if_neg h2, decide_eq_true (by omega)]; rfl
theorem small_eq (l : List Int) (hl : l.length ≤ 1000000) (k : Nat) (hk : l.length < k) : synopticref22_Small.f k l 1000000 = some (!outB l) := by
  have h := small_l0 l hl l.length k 0 (by omega) hk
  exact h
theorem size_ab (x : Int) (h0 : -9223372036854775807 ≤ x) (h1 : x ≤ 9223372036854775807) : synopticref39_size.f x = some (ab x) := by
  unfold synopticref39_size.f mx ab wrap64
  congr 1
  repeat' split
  all_goals omega
theorem total_drop (l : List Int) (i : Nat) (hi : i < l.length) : total (l.drop i) = l[i] + total (l.drop (i + 1)) := by
  rw [List.drop_eq_getElem_cons hi]; rfl
theorem chosen_drop (l : List Int) (i m : Nat) (hi : i < l.length) : chosen (l.drop i) (m / 2 ^ i) = (if m / 2 ^ i % 2 = 1 then l[i] else 0) + chosen (l.drop (i + 1)) (m / 2 ^ (i + 1)) := by
  rw [List.drop_eq_getElem_cons hi, chosen, Nat.div_div_eq_div_mul, ← Nat.pow_succ]
theorem drop_at0 (l : List Int) : l.drop 0 = l := rfl
theorem drop_end (l : List Int) (i : Nat) (h : l.length ≤ i) : l.drop i = [] := List.drop_of_length_le h

section
variable (l : List Int) (hl : l.length ≤ 12) (hf : Fine l)
include hl hf
theorem rsign_l0 : ∀ (d k i : Nat) (s : Int), i + d = l.length → d < k → -(1000000 * (i : Int)) ≤ s → s ≤ 1000000 * (i : Int) →
    synopticref39_Signs.l0 k l s (i : Int) = synopticref39_Signs.l1 (k - d - 1) l (s + total (l.drop i)) 0 0 := by
  intro d
  induction d with
  | zero =>
    intro k i s hd hk h0 h1
    obtain ⟨k, rfl⟩ : ∃ m, k = m + 1 := ⟨k - 1, by omega⟩
    simp only [synopticref39_Signs.l0]
    rw [if_neg (by omega), drop_end l i (by omega), total, Int.add_zero]
    rfl
  | succ d ih =>
    intro k i s hd hk h0 h1
    obtain ⟨k, rfl⟩ : ∃ m, k = m + 1 := ⟨k - 1, by omega⟩
    have hi : i < l.length := by omega
    have hx := hf l[i] (List.getElem_mem hi)
    have er : rd l (i : Int) = l[i] := by unfold rd; simp [hi]
    have hw : wrap64 ((i : Int) + 1) = ((i + 1 : Nat) : Int) := by unfold wrap64; omega
    have hs : wrap64 (s + l[i]) = s + l[i] := wrap_self (by omega) (by omega)
    simp only [synopticref39_Signs.l0]
    rw [if_pos (by omega), if_pos (by omega), er, hs, hw, ih k (i + 1) (s + l[i]) (by omega) (by omega) (by omega) (by omega), total_drop l i hi, Int.add_assoc, show k + 1 - (d + 1) - 1 = k - d - 1 by omega]
theorem rsign_l2 (T c : Int) (hT : -12000000 ≤ T ∧ T ≤ 12000000) (m : Nat) (hm : m < 4096) : ∀ (d k i : Nat) (s : Int), i + d = l.length → d < k → -(1000000 * (i : Int)) ≤ s → s ≤ 1000000 * (i : Int) →
    synopticref39_Signs.l2 k l T c (m : Int) s (i : Int) = if ab T ≤ ab (s + total (l.drop i) - 2 * chosen (l.drop i) (m / 2 ^ i)) then synopticref39_Signs.l1 (k - d - 1) l T (wrap64 (c + 1)) (wrap64 ((m : Int) + 1)) else synopticref39_Signs.l1 (k - d - 1) l T c (wrap64 ((m : Int) + 1)) := by
  intro d
  induction d with
  | zero =>
    intro k i s hd hk h0 h1
    obtain ⟨k, rfl⟩ : ∃ m, k = m + 1 := ⟨k - 1, by omega⟩
    simp only [synopticref39_Signs.l2]
    rw [if_neg (by omega), drop_end l i (by omega), total, chosen, size_ab s (by omega) (by omega), size_ab T (by omega) (by omega), Int.add_zero, Int.mul_zero, Int.sub_zero]
    refine Eq.trans (Option.bind_some _ _) (Eq.trans (Option.bind_some _ _) ?_)
    rfl
  | succ d ih =>
    intro k i s hd hk h0 h1
    obtain ⟨k, rfl⟩ : ∃ m, k = m + 1 := ⟨k - 1, by omega⟩
    have hi : i < l.length := by omega
    have hx := hf l[i] (List.getElem_mem hi)
    have er : rd l (i : Int) = l[i] := by unfold rd; simp [hi]
    have hw : wrap64 ((i : Int) + 1) = ((i + 1 : Nat) : Int) := by unfold wrap64; omega
    have hu : IntKind.u64.wrap (i : Int) = (i : Int) := u64_small (by omega) (by omega)
    have hs : wrap64 (s + l[i]) = s + l[i] := wrap_self (by omega) (by omega)
    have hs2 : wrap64 (s - l[i]) = s - l[i] := wrap_self (by omega) (by omega)
    conv => lhs; rw [synopticref39_Signs.l2]
    rw [if_pos (by omega), hu, if_pos (by omega), bit_at64 m i (by omega) (by omega), hw, er, hs, hs2, total_drop l i hi, chosen_drop l i m hi, show k + 1 - (d + 1) - 1 = k - d - 1 by omega]
    by_cases hb : m / 2 ^ i % 2 = 1
    · rw [if_pos (by omega), if_pos (by omega), if_pos hb, ih k (i + 1) (s - l[i]) (by omega) (by omega) (by omega) (by omega)]
      rw [show s - l[i] + total (l.drop (i + 1)) - 2 * chosen (l.drop (i + 1)) (m / 2 ^ (i + 1)) = s + (l[i] + total (l.drop (i + 1))) - 2 * (l[i] + chosen (l.drop (i + 1)) (m / 2 ^ (i + 1))) by omega]
    · rw [if_neg (by omega), if_pos (by omega), if_neg hb, ih k (i + 1) (s + l[i]) (by omega) (by omega) (by omega) (by omega)]
      rw [show s + l[i] + total (l.drop (i + 1)) - 2 * chosen (l.drop (i + 1)) (m / 2 ^ (i + 1)) = s + (l[i] + total (l.drop (i + 1))) - 2 * (0 + chosen (l.drop (i + 1)) (m / 2 ^ (i + 1))) by omega]
theorem rsign_l1 (M K : Nat) (hM : 2 ^ l.length = M) (hM2 : M ≤ 4096) (hK : ∀ k', K ≤ k' → synopticref38_ReduceP.f k' (cnt l : Int) (M : Int) = some (red (cnt l : Int) (M : Int))) : ∀ (d k m c : Nat), m + d = M → K + d * 20 < k →
    c = ((List.range m).countP fun y => decide (ab (total l) ≤ ab (total l - 2 * chosen l y))) → synopticref39_Signs.l1 k l (total l) (c : Int) (m : Int) = some (red (cnt l : Int) (M : Int)) := by
  have hT : -12000000 ≤ total l ∧ total l ≤ 12000000 := by have := total_bound l hf; omega
  intro d
  induction d with
  | zero =>
    intro k m c hd hk hc
    obtain ⟨k, rfl⟩ : ∃ j, k = j + 1 := ⟨k - 1, by omega⟩
    obtain rfl : m = M := by omega
    have hu : IntKind.u64.wrap ((l.length : Nat) : Int) = ((l.length : Nat) : Int) := u64_small (by omega) (by omega)
    have hcc : c = cnt l := by rw [hc]; unfold cnt; rw [hM]
    simp only [synopticref39_Signs.l1]
    rw [if_pos (by rw [hu]; omega), shl_len l.length m (by omega) hM (by omega), if_neg (by omega), hcc, hK k (by omega)]
    refine Eq.trans (Option.bind_some _ _) ?_
    rfl
  | succ d ih =>
    intro k m c hd hk hc
    rw [Nat.succ_mul] at hk
    obtain ⟨k, rfl⟩ : ∃ j, k = j + 1 := ⟨k - 1, by omega⟩
    have hu : IntKind.u64.wrap ((l.length : Nat) : Int) = ((l.length : Nat) : Int) := u64_small (by omega) (by omega)
    have hcl : c ≤ m := by rw [hc]; exact Nat.le_trans List.countP_le_length (Nat.le_of_eq List.length_range)
    have HC := Aside0.mk hc
    clear hc
    have hw : wrap64 ((m : Int) + 1) = ((m + 1 : Nat) : Int) := wrap_succ m (by clear hk hT hM hu ih; omega)
    have hw2 : wrap64 ((c : Int) + 1) = ((c + 1 : Nat) : Int) := wrap_succ c (by clear hk hT hM hu ih; omega)
    simp only [synopticref39_Signs.l1]
    rw [if_pos (by rw [hu]; omega), shl_len l.length M (by omega) hM (by omega), if_pos (by omega)]
    have e := rsign_l2 l hl hf (total l) (c : Int) hT m (by clear hk hT hM hu ih; omega) l.length k 0 0 (by omega) (by omega) (by omega) (by omega)
    rw [drop_at0, Int.zero_add, Nat.pow_zero, Nat.div_one] at e
    refine Eq.trans e ?_
    rw [hw, hw2]
    by_cases hq : ab (total l) ≤ ab (total l - 2 * chosen l m)
    · rw [if_pos hq]
      exact ih _ (m + 1) (c + 1) (by omega) (by omega) (by rw [List.range_succ, List.countP_append, List.countP_cons_of_pos (by simpa using hq), HC.out]; rfl)
    · rw [if_neg hq]
      exact ih _ (m + 1) c (by omega) (by omega) (by rw [List.range_succ, List.countP_append, List.countP_cons_of_neg (by simpa using hq), HC.out]; rfl)
end
theorem refP_some (a b : Int) : ∃ K, ∀ k', K ≤ k' → synopticref38_ReduceP.f k' a b = some (red a b) := by
  obtain ⟨K, h⟩ := red_some a b
  exact ⟨K, fun k' hk => by rw [ref_red]; exact h k' hk⟩
theorem rsign_some (l : List Int) (hl : l.length ≤ 1000000) : ∃ K, ∀ k, K ≤ k → synopticref39_Signs.f k l = some (signsR l) := by
  by_cases h12 : 12 < l.length
  · refine ⟨2, fun k hk => ?_⟩
    obtain ⟨k, rfl⟩ : ∃ m, k = m + 1 := ⟨k - 1, by omega⟩
    unfold synopticref39_Signs.f signsR
    rw [if_pos (by omega), if_pos h12]
    simp only [synopticref39_Signs.j0, if_true]
  · obtain ⟨K, hK⟩ := refP_some (cnt l : Int) ((2 ^ l.length : Nat) : Int)
    refine ⟨K + 100000, fun k hk => ?_⟩
    unfold synopticref39_Signs.f signsR
    rw [if_neg (by omega), if_neg h12, small_eq l hl k (by omega)]
    refine Eq.trans (Option.bind_some _ _) ?_
    obtain ⟨k, rfl⟩ : ∃ m, k = m + 1 := ⟨k - 1, by omega⟩
    by_cases ho : outB l = true
    · rw [if_pos ho, ho]; simp only [synopticref39_Signs.j0, Bool.not_true, Bool.not_false, if_true]
    · have ho' := Bool.eq_false_iff.mpr ho
      have hf := (outB_fine l).1 ho'
      have hp : 2 ^ l.length ≤ 2 ^ 12 := Nat.pow_le_pow_right (by decide) (by omega)
      have h0 := rsign_l0 l (by omega) hf l.length k 0 0 (by omega) (by omega) (by omega) (by omega)
      rw [drop_at0, Int.zero_add] at h0
      rw [if_neg ho, ho']
      simp only [synopticref39_Signs.j0, Bool.not_true, Bool.not_false]
      rw [if_neg (by simp)]
      refine Eq.trans h0 ?_
      exact rsign_l1 l (by omega) hf (2 ^ l.length) K rfl (by omega) hK (2 ^ l.length) _ 0 0 (by omega) (by omega) rfl
end Go.Proofs.Ytcgjgpdandjicaa.B
