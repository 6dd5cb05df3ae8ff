/- What Signs and Exchange tell does not depend on the order; Signs not on the side: the plain facts. -/
import Derived.Test.YtcgjgpdandjicaaParts
import Derived.Test.YtcgjgpdandjicaaSamp
namespace Go.Proofs.Ytcgjgpdandjicaa.B
open Go.RowKit Go.Proofs.YtcgjgpdandjicaaW.PrintWords Go.Proofs.YtcgjgpdandjicaaW.PrintLast Go.Proofs.YtcgjgpdandjicaaW.PrintMore
open Go.Proofs.Ytcgjgpdandjicaa.Smp
set_option linter.unusedVariables false
set_option linter.unusedSimpArgs false

theorem cnt_greatO (l : List Int) : cnt l = great (devs l) (total l) := by
  rw [← great_perm (devs_range l)]
  unfold cnt great
  rw [List.countP_map]
  rfl
theorem cnt_leO (l : List Int) : cnt l ≤ 2 ^ l.length := by
  have := List.countP_le_length (p := fun c => decide (ab (total l) ≤ ab (total l - 2 * chosen l c))) (l := List.range (2 ^ l.length))
  rw [List.length_range] at this
  exact this
theorem signsR_perm {l l' : List Int} (h : l.Perm l') : signsR l = signsR l' := by
  unfold signsR
  rw [h.length_eq, outB_perm h, cnt_greatO, cnt_greatO, great_perm (devs_perm h), total_perm h]
theorem total_negO : ∀ l : List Int, total (l.map (-·)) = - total l
  | [] => rfl
  | x :: l => by simp only [List.map_cons, total]; rw [total_negO l]; omega
theorem ab_negO (x : Int) : ab (-x) = ab x := by unfold ab; split <;> split <;> omega
theorem fine_negO {l : List Int} (h : Fine l) : Fine (l.map (-·)) := by
  intro x hx
  obtain ⟨y, hy, rfl⟩ := List.mem_map.1 hx
  have := h y hy
  omega
theorem signsR_neg (l : List Int) (h : Fine l) : signsR (l.map (-·)) = signsR l := by
  unfold signsR
  have e : cnt (l.map (-·)) = cnt l := by
    rw [cnt_greatO, cnt_greatO, great_perm (devs_turned (Turned.neg l)), total_negO]
    unfold great
    rw [ab_negO]
  rw [List.length_map, (outB_fine _).2 h, (outB_fine _).2 (fine_negO h), e]
theorem signsR_ok (l : List Int) (hl : l.length ≤ 12) (h : Fine l) : (signsR l).2.2 = 0 := by
  have hp : 2 ^ l.length ≤ 2 ^ 12 := Nat.pow_le_pow_right (by decide) hl
  have h1 : 1 ≤ 2 ^ l.length := Nat.one_le_two_pow
  have hc := cnt_leO l
  obtain ⟨x, y, e, _⟩ := isRed_of (cnt l) (2 ^ l.length) (by omega) h1 (by omega)
  unfold signsR
  rw [if_neg (by omega), if_neg (by rw [(outB_fine _).2 h]; simp), e]
theorem subs_has : ∀ (l : List Int) (k : Nat), k ≤ l.length → ∃ p ∈ subs l, p.1 = k
  | [], k, h => ⟨(0, 0), by simp [subs], by simp at h; omega⟩
  | x :: l, 0, _ => by
    obtain ⟨p, hp, e⟩ := subs_has l 0 (by omega)
    exact ⟨p, List.mem_append_left _ hp, e⟩
  | x :: l, k + 1, h => by
    obtain ⟨p, hp, e⟩ := subs_has l k (by simp at h; omega)
    exact ⟨(p.1 + 1, x + p.2), List.mem_append_right _ (List.mem_map.2 ⟨p, hp, rfl⟩), by simp [e]⟩
theorem exchR_ok (a b : List Int) (hl : (a ++ b).length ≤ 12) (h : Fine (a ++ b)) : (exchR a b).2.2 = 0 := by
  have hp : 2 ^ (a ++ b).length ≤ 2 ^ 12 := Nat.pow_le_pow_right (by decide) hl
  have h1 : 1 ≤ exOf a b := by
    rw [exOf_eq]
    obtain ⟨p, hp, e⟩ := subs_has (a ++ b) a.length (by simp)
    refine List.length_pos_of_mem (a := off (a ++ b).length (total (a ++ b)) a.length p.2) ?_
    unfold offs
    exact List.mem_map.2 ⟨p, List.mem_filter.2 ⟨hp, by simpa using e⟩, rfl⟩
  have h2 : exOf a b ≤ 2 ^ (a ++ b).length := by
    have := List.countP_le_length (p := fun c => decide (ones (a ++ b).length c = a.length)) (l := List.range (2 ^ (a ++ b).length))
    rw [List.length_range] at this
    exact this
  have h3 : exNum a b ≤ exOf a b := by
    rw [exNum_eq, exOf_eq]
    exact List.countP_le_length
  obtain ⟨x, y, e, _⟩ := isRed_of (exNum a b) (exOf a b) (by omega) h1 (by omega)
  unfold exchR
  rw [if_neg (by omega), if_neg (by rw [(outB_fine _).2 h]; simp), e]
theorem rd_nthO (l : List Int) (i : Nat) (h : i < l.length) : rd l (i : Int) = l[i] := by unfold rd; simp [h]
/-- A round of a shuffle: two elements change their places. -/
theorem swap_permO (l : List Int) (i j : Int) (h0 : 0 ≤ i) (h1 : i < (l.length : Int)) (k0 : 0 ≤ j) (k1 : j < (l.length : Int)) : ((l.set i.toNat (rd l j)).set j.toNat (rd l i)).Perm l := by
  obtain ⟨i, rfl⟩ : ∃ n : Nat, i = (n : Int) := ⟨i.toNat, by omega⟩
  obtain ⟨j, rfl⟩ : ∃ n : Nat, j = (n : Int) := ⟨j.toNat, by omega⟩
  rw [rd_nthO l i (by omega), rd_nthO l j (by omega)]
  exact List.set_set_perm (by omega) (by omega)
end Go.Proofs.Ytcgjgpdandjicaa.B
