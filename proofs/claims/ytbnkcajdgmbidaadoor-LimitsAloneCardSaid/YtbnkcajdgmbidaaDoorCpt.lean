/- Compaction of an ascending list: the same elements, strictly ascending. -/
import Derived.Lib.SlicesCompact
namespace Go.Proofs.YtbnkcajdgmbidaaDoor.B
open Go.Lib
set_option linter.unusedVariables false
set_option linter.unusedSimpArgs false
theorem upTo_facts (d : Array Int) (hs : ∀ i j, i ≤ j → j < d.size → d[i]! ≤ d[j]!) : ∀ m, m ≤ d.size →
    (compactUpTo d m).Pairwise (· < ·) ∧ (∀ j, j < m → d[j]! ∈ compactUpTo d m) ∧ ∀ v ∈ compactUpTo d m, ∃ j, j < m ∧ v = d[j]! := by
  intro m
  induction m with
  | zero =>
    intro _
    have e : compactUpTo d 0 = [] := rfl
    rw [e]
    exact ⟨List.Pairwise.nil, fun j hj => absurd hj (Nat.not_lt_zero _), fun v hv => by cases hv⟩
  | succ m ih =>
    intro hm
    obtain ⟨h1, h2, h3⟩ := ih (by omega)
    rw [compactUpTo_succ]
    by_cases hk : keeps d m = true
    · rw [if_pos hk]
      refine ⟨?_, fun j hj => ?_, fun v hv => ?_⟩
      · rw [List.pairwise_append]
        refine ⟨h1, List.pairwise_singleton _ _, fun a ha b hb => ?_⟩
        rw [List.mem_singleton] at hb
        obtain ⟨j, hj, rfl⟩ := h3 a ha
        subst hb
        have hne : d[m]! ≠ d[m - 1]! := by
          unfold keeps at hk
          rcases of_decide_eq_true hk with h | h
          · omega
          · exact h
        have q1 := hs j (m - 1) (by omega) (by omega)
        have q2 := hs (m - 1) m (by omega) (by omega)
        generalize d[j]! = a at *
        generalize d[m]! = b at *
        generalize d[m - 1]! = c at *
        omega
      · rcases Nat.lt_or_ge j m with h | h
        · exact List.mem_append_left _ (h2 j h)
        · obtain rfl : j = m := by omega
          exact List.mem_append_right _ (List.mem_singleton.2 rfl)
      · rcases List.mem_append.1 hv with h | h
        · obtain ⟨j, hj, e⟩ := h3 v h
          exact ⟨j, by omega, e⟩
        · rw [List.mem_singleton] at h
          exact ⟨m, by omega, h⟩
    · rw [if_neg hk, List.append_nil]
      refine ⟨h1, fun j hj => ?_, fun v hv => ?_⟩
      · rcases Nat.lt_or_ge j m with h | h
        · exact h2 j h
        · obtain rfl : j = m := by omega
          have hn : ¬ (j = 0 ∨ d[j]! ≠ d[j - 1]!) := fun h => hk (by unfold keeps; exact decide_eq_true h)
          have h0 : j ≠ 0 := fun h => hn (.inl h)
          have he : d[j]! = d[j - 1]! := Decidable.byContradiction fun h => hn (.inr h)
          rw [he]
          exact h2 (j - 1) (by omega)
      · obtain ⟨j, hj, e⟩ := h3 v hv
        exact ⟨j, by omega, e⟩
theorem compact_facts (zs : List Int) (hs : zs.Pairwise (fun a b => decide (a ≤ b) = true)) : (compact zs).Pairwise (· < ·) ∧ ∀ v, v ∈ compact zs ↔ v ∈ zs := by
  have hg : ∀ i, i < zs.length → zs.toArray[i]! = zs[i]! := fun i hi => by simp
  have hs' : ∀ i j, i ≤ j → j < zs.toArray.size → zs.toArray[i]! ≤ zs.toArray[j]! := by
    intro i j hij hj
    have hj' : j < zs.length := by simpa using hj
    rw [getElem!_pos zs.toArray i (by simp; omega), getElem!_pos zs.toArray j hj]
    simp only [List.getElem_toArray]
    rcases Nat.lt_or_ge i j with h | h
    · exact of_decide_eq_true (List.pairwise_iff_getElem.1 hs i j (by omega) hj' h)
    · obtain rfl : i = j := by omega
      exact Int.le_refl _
  obtain ⟨h1, h2, h3⟩ := upTo_facts zs.toArray hs' zs.length (by simp)
  refine ⟨h1, fun v => ⟨fun hv => ?_, fun hv => ?_⟩⟩
  · obtain ⟨j, hj, rfl⟩ := h3 v hv
    rw [getElem!_pos zs.toArray j (by simpa using hj)]
    simp
  · obtain ⟨i, hi, rfl⟩ := List.mem_iff_getElem.1 hv
    have := h2 i hi
    rw [getElem!_pos zs.toArray i (by simpa using hi), List.getElem_toArray] at this
    exact this
end Go.Proofs.YtbnkcajdgmbidaaDoor.B
