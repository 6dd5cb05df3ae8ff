/- Which elements Check rejects. -/
import Derived.Test.YtbnkcajdgmbidaaDoorElm
namespace Go.Proofs.YtbnkcajdgmbidaaDoor.B
open Go.RowKit Go.Proofs.YtbnkcajdgmbidaaDoorW.PrintWords Go.Proofs.YtbnkcajdgmbidaaDoorW.PrintLast Go.Proofs.YtbnkcajdgmbidaaDoorW.PrintMore
set_option linter.unusedVariables false
set_option linter.unusedSimpArgs false
theorem asc_sorted (l : List Int) : (asc l).Pairwise (fun a b => decide (a ≤ b) = true) := by
  unfold asc
  refine List.pairwise_mergeSort (le := fun x y => decide (x ≤ y)) (fun a b c h1 h2 => ?_) (fun a b => ?_) l
  · exact decide_eq_true (Int.le_trans (of_decide_eq_true h1) (of_decide_eq_true h2))
  · rcases Int.le_total a b with h | h
    · rw [decide_eq_true h]; rfl
    · rw [decide_eq_true h, Bool.or_true]
/-- Is it too wet, or too windy? -/
def wetB (l : List S30) : Bool := cmpd l 2 && (cmpd l 3 && decide ((fnd l 2).1 < (fnd l 3).1))
def stormB (l : List S30) : Bool := cmpd l 4 && (cmpd l 5 && decide (810000 < IntKind.i64.wrap (IntKind.i64.wrap ((fnd l 4).1 * (fnd l 4).1) + IntKind.i64.wrap ((fnd l 5).1 * (fnd l 5).1))))
theorem check_mem (l : List S30) (v : Int) : v ∈ checkR l ↔ v ∈ rej l ∨ (wetB l = true ∧ (v = 2 ∨ v = 3)) ∨ (stormB l = true ∧ (v = 4 ∨ v = 5)) := by
  unfold checkR
  rw [(compact_facts _ (asc_sorted _)).2]
  unfold asc
  rw [(List.mergeSort_perm _ _).mem_iff, List.mem_append, List.mem_append]
  have hw : v ∈ wetL (cmpd l 2) (cmpd l 3) (fnd l 2).1 (fnd l 3).1 ↔ wetB l = true ∧ (v = 2 ∨ v = 3) := by
    unfold wetL wetB
    split
    · rename_i h; simp [h]
    · rename_i h; simp [h]
  have hs : v ∈ stormL (cmpd l 4) (cmpd l 5) (fnd l 4).1 (fnd l 5).1 ↔ stormB l = true ∧ (v = 4 ∨ v = 5) := by
    unfold stormL stormB
    split
    · rename_i h; simp [h]
    · rename_i h; simp [h]
  rw [hw, hs, or_assoc]
theorem check_asc (l : List S30) : (checkR l).Pairwise (· < ·) := (compact_facts _ (asc_sorted _)).1
theorem rej_mem (l : List S30) (v : Int) : v ∈ rej l ↔ ∃ r ∈ l, r.f0 = v ∧ grossB r.f0 r.f1 = false := by
  unfold rej
  simp only [List.mem_map, List.mem_filter, Bool.not_eq_true']
  constructor
  · rintro ⟨r, ⟨h1, h2⟩, h3⟩
    exact ⟨r, h1, h3, h2⟩
  · rintro ⟨r, h1, h3, h2⟩
    exact ⟨r, ⟨h1, h2⟩, h3⟩
theorem good_same {x : List S30} (h : Good x) {a b : S30} (ha : a ∈ x) (hb : b ∈ x) (e : a.f0 = b.f0) : a = b := by
  obtain ⟨i, hi, rfl⟩ := List.mem_iff_getElem.1 ha
  obtain ⟨j, hj, rfl⟩ := List.mem_iff_getElem.1 hb
  have hp := List.pairwise_iff_getElem.1 h.asc
  rcases Nat.lt_trichotomy i j with c | c | c
  · have := hp i j hi hj c; omega
  · subst c; rfl
  · have := hp j i hj hi c; omega
theorem rej_one {x : List S30} (h : Good x) {r : S30} (hr : r ∈ x) : r.f0 ∈ rej x ↔ grossB r.f0 r.f1 = false := by
  rw [rej_mem]
  constructor
  · rintro ⟨s, hs, e, hg⟩
    have := good_same h hs hr e
    rw [← this]; exact hg
  · intro hg
    exact ⟨r, hr, rfl, hg⟩
theorem fnd_one (r : S30) (c : Int) : (fnd [r] c).2 = (r.f0 == c) := by
  unfold fnd
  split
  · rename_i h; rw [h]
  · rename_i h; rw [Bool.eq_false_iff.mpr h]; rfl
theorem wet_one (r : S30) : wetB [r] = false := by
  unfold wetB cmpd
  rw [fnd_one, fnd_one]
  by_cases h : r.f0 = 2
  · have : (r.f0 == 3) = false := beq_eq_false_iff_ne.mpr (by omega)
    rw [this]; simp
  · have : (r.f0 == 2) = false := beq_eq_false_iff_ne.mpr h
    rw [this]; simp
theorem storm_one (r : S30) : stormB [r] = false := by
  unfold stormB cmpd
  rw [fnd_one, fnd_one]
  by_cases h : r.f0 = 4
  · have : (r.f0 == 5) = false := beq_eq_false_iff_ne.mpr (by omega)
    rw [this]; simp
  · have : (r.f0 == 4) = false := beq_eq_false_iff_ne.mpr h
    rw [this]; simp
theorem one_pos (r : S30) : decide (((checkR [r]).length : Int) > 0) = !grossB r.f0 r.f1 := by
  have hm := check_mem [r]
  by_cases hg : grossB r.f0 r.f1 = true
  · have he : checkR [r] = [] := by
      rw [List.eq_nil_iff_forall_not_mem]
      intro v hv
      rcases (hm v).1 hv with h | h | h
      · obtain ⟨s, hs, _, h2⟩ := (rej_mem [r] v).1 h
        rw [List.mem_singleton] at hs
        rw [hs, hg] at h2
        cases h2
      · rw [wet_one] at h; cases h.1
      · rw [storm_one] at h; cases h.1
    rw [he, hg]; rfl
  · replace hg := Bool.eq_false_iff.mpr hg
    have hv : r.f0 ∈ checkR [r] := (hm _).2 (.inl ((rej_mem [r] _).2 ⟨r, List.mem_singleton.2 rfl, rfl, hg⟩))
    have := List.length_pos_of_mem hv
    rw [hg, decide_eq_true (by omega)]
    rfl
theorem rd_at (l : List Int) (i : Nat) (h : i < l.length) : rd l (i : Int) = l[i] := by unfold rd; simp [h]
theorem in_l0 (l : List Int) (hl : l.length ≤ 1000) (x : Int) : ∀ (d k i : Nat), i + d = l.length → d < k → synoptickeep_In.l0 k l x (i : Int) = some (decide (x ∈ l.drop i)) := by
  intro d
  induction d with
  | zero =>
    intro k i hd hk
    obtain ⟨k, rfl⟩ : ∃ m, k = m + 1 := ⟨k - 1, by omega⟩
    simp only [synoptickeep_In.l0]
    rw [if_neg (by omega), List.drop_of_length_le (by omega)]
    simp
  | succ d ih =>
    intro k i hd hk
    obtain ⟨k, rfl⟩ : ∃ m, k = m + 1 := ⟨k - 1, by omega⟩
    have hi : i < l.length := by omega
    have hih := ih k (i + 1) (by omega) (by omega)
    have q1 : (i : Int) < (l.length : Int) := by omega
    have q2 : (0 : Int) ≤ (i : Int) := by omega
    have hw : wrap64 ((i : Int) + 1) = ((i + 1 : Nat) : Int) := by rw [wrap_fit (by omega) (by omega)]; omega
    simp only [synoptickeep_In.l0]
    rw [if_pos q1, if_pos q2, rd_at l i hi, hw, List.drop_eq_getElem_cons hi]
    by_cases e : l[i] = x
    · rw [if_pos e, decide_eq_true (by rw [e]; exact List.mem_cons_self)]
    · rw [if_neg e, hih]
      congr 1
      have : (x ∈ l[i] :: l.drop (i + 1)) ↔ x ∈ l.drop (i + 1) := by
        rw [List.mem_cons]
        exact ⟨fun h => h.elim (fun h => absurd h.symm e) id, .inr⟩
      exact (decide_eq_decide.2 this).symm
theorem in_some (l : List Int) (hl : l.length ≤ 1000) (x : Int) (k : Nat) (hk : 1001 ≤ k) : synoptickeep_In.f k l x = some (decide (x ∈ l)) := by
  have h := in_l0 l hl x l.length k 0 (by omega) (by omega)
  unfold synoptickeep_In.f
  rw [List.drop_zero] at h
  exact h
theorem check_len (l : List S30) (h : l.length ≤ 100) : (checkR l).length ≤ 1000 := by
  unfold checkR
  refine Nat.le_trans (Lib.compact_length_le _) ?_
  rw [asc_length, List.length_append, List.length_append]
  have h1 : (rej l).length ≤ l.length := by
    have := rej_le l l.length
    rwa [List.take_length] at this
  have h2 : ∀ a b c d, (wetL a b c d).length ≤ 2 := fun a b c d => by unfold wetL; split <;> simp
  have h3 : ∀ a b c d, (stormL a b c d).length ≤ 2 := fun a b c d => by unfold stormL; split <;> simp
  have := h2 (cmpd l 2) (cmpd l 3) (fnd l 2).1 (fnd l 3).1
  have := h3 (cmpd l 4) (cmpd l 5) (fnd l 4).1 (fnd l 5).1
  omega
end Go.Proofs.YtbnkcajdgmbidaaDoor.B
