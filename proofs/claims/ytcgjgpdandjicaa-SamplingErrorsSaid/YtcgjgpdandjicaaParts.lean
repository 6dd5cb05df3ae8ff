/- The parts of a sample: what Exchange counts, by the list of all parts. -/
import Derived.Test.YtcgjgpdandjicaaExch
import Derived.Test.YtcgjgpdandjicaaExa
namespace Go.Proofs.Ytcgjgpdandjicaa.B
open Go.RowKit Go.Proofs.YtcgjgpdandjicaaW.PrintWords Go.Proofs.YtcgjgpdandjicaaW.PrintLast Go.Proofs.YtcgjgpdandjicaaW.PrintMore
open Go.Proofs.Ytcgjgpdandjicaa.Smp
set_option linter.unusedVariables false
set_option linter.unusedSimpArgs false

/-- How far the sum s of k elements lies from their share. -/
def off (N : Nat) (T : Int) (k : Nat) (s : Int) : Int := s * (N : Int) - T * (k : Int)
/-- All sums of k elements, each as far as it lies off. -/
def offs (l : List Int) (k : Nat) : List Int := ((subs l).filter fun p => decide (p.1 = k)).map fun p => off l.length (total l) k p.2
theorem offs_perm {l l' : List Int} (h : l.Perm l') (k : Nat) : (offs l k).Perm (offs l' k) := by
  unfold offs
  rw [h.length_eq, total_perm h]
  exact ((subs_perm h).filter _).map _
theorem great_offs (l : List Int) (k : Nat) (x : Int) : great (offs l k) x = (List.range (2 ^ l.length)).countP fun c => decide (ones l.length c = k) && decide (ab x ≤ ab (off l.length (total l) k (chosen l c))) := by
  unfold great offs
  rw [List.countP_map, List.countP_filter, ← (subs_range l).countP_eq, List.countP_map]
  refine List.countP_congr fun c _ => ?_
  simp [Function.comp, and_comm]
theorem length_offs (l : List Int) (k : Nat) : (offs l k).length = (List.range (2 ^ l.length)).countP fun c => decide (ones l.length c = k) := by
  unfold offs
  rw [List.length_map, ← List.countP_eq_length_filter, ← (subs_range l).countP_eq, List.countP_map]
  rfl
theorem exOf_eq (a b : List Int) : exOf a b = (offs (a ++ b) a.length).length := by
  rw [length_offs]; rfl
theorem exNum_eq (a b : List Int) : exNum a b = great (offs (a ++ b) a.length) (off (a ++ b).length (total (a ++ b)) a.length (total a)) := by
  rw [great_offs]
  unfold exNum
  refine List.countP_congr fun c _ => ?_
  unfold dif off
  rw [chosen_first]
/-- Of k elements the rest: as far off, to the other side. -/
theorem offs_rest (l : List Int) (k : Nat) (hk : k ≤ l.length) : ((offs l (l.length - k)).map (-·)).Perm (offs l k) := by
  have hb : ∀ l : List Int, ∀ p ∈ subs l, p.1 ≤ l.length := by
    intro l
    induction l with
    | nil => simp [subs]
    | cons y l ih =>
      intro p hp
      simp only [subs, List.mem_append, List.mem_map] at hp
      rcases hp with hp | ⟨q, hq, rfl⟩
      · have := ih p hp; simp; omega
      · have := ih q hq; simp; omega
  unfold offs
  rw [List.map_map]
  have h := ((subs_rest l).filter fun p => decide (p.1 = k)).map fun p => off l.length (total l) k p.2
  refine List.Perm.trans (List.Perm.of_eq ?_) h
  rw [List.filter_map, List.map_map]
  have e : (subs l).filter (fun p => decide (p.1 = l.length - k)) = (subs l).filter ((fun p : Nat × Int => decide (p.1 = k)) ∘ fun p => (l.length - p.1, total l - p.2)) := by
    refine List.filter_congr fun p hp => ?_
    have := hb l p hp
    simp only [Function.comp]
    exact decide_eq_decide.2 (by omega)
  rw [e]
  refine List.map_congr_left fun p hp => ?_
  simp only [Function.comp, off]
  rw [Int.sub_mul, Int.natCast_sub hk, Int.mul_sub]
  omega
theorem great_neg (l : List Int) (x : Int) : great (l.map (-·)) (-x) = great l x := by
  unfold great
  rw [List.countP_map]
  refine List.countP_congr fun y _ => ?_
  have e : ∀ z : Int, ab (-z) = ab z := by intro z; unfold ab; split <;> split <;> omega
  simp only [Function.comp, e]
theorem exNum_perm {a b l : List Int} (h : (a ++ b).Perm l) : exNum a b = great (offs l a.length) (off l.length (total l) a.length (total a)) := by
  rw [exNum_eq, great_perm (offs_perm h _), h.length_eq, total_perm h]
theorem exOf_perm {a b l : List Int} (h : (a ++ b).Perm l) : exOf a b = (offs l a.length).length := by
  rw [exOf_eq, (offs_perm h _).length_eq]
/-- The samples can be exchanged. -/
theorem ex_comm (a b : List Int) : exNum b a = exNum a b ∧ exOf b a = exOf a b := by
  have hl : (a ++ b).length = a.length + b.length := List.length_append
  have hk : (a ++ b).length - a.length = b.length := by omega
  have hr := offs_rest (a ++ b) a.length (by omega)
  rw [hk] at hr
  have hp : (b ++ a).Perm (a ++ b) := List.perm_append_comm
  refine ⟨?_, ?_⟩
  · rw [exNum_perm hp, exNum_eq, ← great_perm hr, ← great_neg]
    congr 1
    unfold off
    rw [total_append, hl, Int.natCast_add, Int.mul_add, Int.mul_add, Int.add_mul, Int.add_mul]
    omega
  · rw [exOf_perm hp, exOf_eq, ← hr.length_eq, List.length_map]
theorem outB_perm {l l' : List Int} (h : l.Perm l') : outB l = outB l' := by
  unfold outB
  rw [Bool.eq_iff_iff, List.any_eq_true, List.any_eq_true]
  exact ⟨fun ⟨x, hx, e⟩ => ⟨x, h.mem_iff.1 hx, e⟩, fun ⟨x, hx, e⟩ => ⟨x, h.mem_iff.2 hx, e⟩⟩
theorem exchR_comm (a b : List Int) : exchR b a = exchR a b := by
  unfold exchR
  obtain ⟨h1, h2⟩ := ex_comm a b
  have hp : (b ++ a).Perm (a ++ b) := List.perm_append_comm
  rw [hp.length_eq, outB_perm hp, h1, h2]
/-- The order of the samples does not matter. -/
theorem exchR_perm {a b a' b' : List Int} (ha : a.Perm a') (hb : b.Perm b') : exchR a b = exchR a' b' := by
  have hp : (a ++ b).Perm (a' ++ b') := ha.append hb
  unfold exchR
  rw [hp.length_eq, outB_perm hp, exNum_perm hp, exOf_perm hp, exNum_eq, exOf_eq, ha.length_eq, total_perm ha]
end Go.Proofs.Ytcgjgpdandjicaa.B
