/- What the summaries of package score answer: the same as the reference. -/
import Derived.Test.YtbnjbdjjedndbaaBM
import Derived.Test.YtbnjbdjjedndbaaBS
import Derived.Test.YtbnjbdjjedndbaaBT
import Derived.Test.YtbnjbdjjedndbaaBU
import Derived.Test.YtbnjbdjjedndbaaBV
import Derived.Test.YtbnjbdjjedndbaaBW
import Derived.Test.YtbnjbdjjedndbaaRed
namespace Go.Proofs.Ytbnjbdjjedndbaa.B
open Go.RowKit Go.Proofs.YtbnjbdjjedndbaaW.PrintWords Go.Proofs.YtbnjbdjjedndbaaW.PrintLast Go.Proofs.YtbnjbdjjedndbaaW.PrintMore
set_option linter.unusedVariables false
set_option linter.unusedSimpArgs false

theorem wrap_next (n : Nat) (h : n ≤ 1000000000) : wrap64 ((n : Int) + 1) = ((n + 1 : Nat) : Int) := by unfold wrap64; omega
theorem small_at (l : List Int) (M : Int) (hM : 0 ≤ M ∧ M ≤ 1152921504606846976) (hl : l.length ≤ 1000000) : ∀ (d k i : Nat), i + d = l.length → d < k → synopticref22_Small.l0 k l M (i : Int) = some ((l.drop i).all fun v => decide (-M ≤ v ∧ v ≤ M)) := by
  intro d
  induction d with
  | zero =>
    intro k i hd hk
    obtain ⟨k, rfl⟩ : ∃ m, k = m + 1 := ⟨k - 1, by omega⟩
    simp only [synopticref22_Small.l0]
    rw [if_neg (by omega), List.drop_of_length_le (by omega)]
    rfl
  | succ d ih =>
    intro k i hd hk
    obtain ⟨k, rfl⟩ : ∃ m, k = m + 1 := ⟨k - 1, by omega⟩
    have hi : i < l.length := by omega
    have er : rd l (i : Int) = l[i] := by unfold rd; simp [hi]
    have hw := wrap_next i (by omega)
    have hn : wrap64 (-M) = -M := by unfold wrap64; omega
    simp only [synopticref22_Small.l0]
    rw [if_pos (by omega), if_pos (by omega), er, hn, hw, ih k (i + 1) (by omega) (by omega), List.drop_eq_getElem_cons hi, List.all_cons]
    by_cases h1 : l[i] > M
    · rw [if_pos h1, decide_eq_false (by omega)]; rfl
    · rw [if_neg h1]
      by_cases h2 : l[i] < -M
      · rw [if_pos h2, decide_eq_false (by omega)]; rfl
      · rw [if_neg h2, decide_eq_true (by omega), Bool.true_and]
theorem small_f (l : List Int) (M : Int) (hM : 0 ≤ M ∧ M ≤ 1152921504606846976) (hl : l.length ≤ 1000000) (k : Nat) (hk : l.length < k) : synopticref22_Small.f k l M = some (l.all fun v => decide (-M ≤ v ∧ v ≤ M)) :=
  small_at l M hM hl l.length k 0 (by omega) hk

theorem check_both (l : List S40) (hl : l.length ≤ 10000) : ∀ (d i : Nat), i + d = l.length → ∃ c, ∀ k, d + 5 < k → score_check.l0 k l (l.length : Int) (i : Int) = some c ∧ synopticref38_check.l0 k l (i : Int) = some c := by
  intro d
  induction d with
  | zero =>
    intro i hd
    refine ⟨0, fun k hk => ?_⟩
    obtain ⟨k, rfl⟩ : ∃ m, k = m + 1 := ⟨k - 1, by omega⟩
    simp only [score_check.l0, synopticref38_check.l0]
    rw [if_neg (by omega), if_neg (by omega)]
    exact ⟨rfl, rfl⟩
  | succ d ih =>
    intro i hd
    obtain ⟨c, hc⟩ := ih (i + 1) (by omega)
    have hw := wrap_next i (by omega)
    refine ⟨if decide (-1000000 ≤ (rd_T40 l (i : Int)).f0 ∧ (rd_T40 l (i : Int)).f0 ≤ 1000000) = true then (if decide (-1000000 ≤ (rd_T40 l (i : Int)).f1 ∧ (rd_T40 l (i : Int)).f1 ≤ 1000000) = true then c else 1) else 1, fun k hk => ?_⟩
    obtain ⟨k, rfl⟩ : ∃ m, k = m + 1 := ⟨k - 1, by omega⟩
    obtain ⟨h1, h2⟩ := hc k (by omega)
    have hi : (i : Int) < (l.length : Int) := by omega
    have h0 : (0 : Int) ≤ (i : Int) := by omega
    have hs := small_f [(rd_T40 l (i : Int)).f0, (rd_T40 l (i : Int)).f1] 1000000 (by omega) (by simp) k (by simp; omega)
    simp only [List.all_cons, List.all_nil, Bool.and_true] at hs
    have w0 := within_eq (rd_T40 l (i : Int)).f0 (-1000000) 1000000
    have w1 := within_eq (rd_T40 l (i : Int)).f1 (-1000000) 1000000
    refine ⟨?_, ?_⟩
    · conv => lhs; rw [score_check.l0]
      rw [if_pos hi, if_pos h0, if_pos hi, w0]
      refine (Option.bind_some _ _).trans ?_
      by_cases c0 : decide (-1000000 ≤ (rd_T40 l (i : Int)).f0 ∧ (rd_T40 l (i : Int)).f0 ≤ 1000000) = true
      · rw [if_pos c0, if_pos c0, w1]
        refine (Option.bind_some _ _).trans ?_
        by_cases c1 : decide (-1000000 ≤ (rd_T40 l (i : Int)).f1 ∧ (rd_T40 l (i : Int)).f1 ≤ 1000000) = true
        · rw [if_pos c1, if_pos c1, hw]; exact h1
        · rw [if_neg c1, if_neg c1]
      · rw [if_neg c0, if_neg c0]
    · conv => lhs; rw [synopticref38_check.l0]
      rw [if_pos hi, if_pos h0, hs]
      refine (Option.bind_some _ _).trans ?_
      by_cases c0 : decide (-1000000 ≤ (rd_T40 l (i : Int)).f0 ∧ (rd_T40 l (i : Int)).f0 ≤ 1000000) = true
      · rw [if_pos c0, c0, Bool.true_and]
        by_cases c1 : decide (-1000000 ≤ (rd_T40 l (i : Int)).f1 ∧ (rd_T40 l (i : Int)).f1 ≤ 1000000) = true
        · rw [if_pos c1, if_pos c1, hw]; exact h2
        · rw [if_neg c1, if_neg c1]
      · rw [if_neg c0, Bool.eq_false_iff.mpr c0, Bool.false_and, if_neg (by simp)]
theorem check_same (l : List S40) : ∃ c, ∀ k, 20000 < k → score_check.f k l = some c ∧ synopticref38_check.f k l = some c := by
  by_cases h : (l.length : Int) > 10000
  · refine ⟨2, fun k hk => ?_⟩
    unfold score_check.f synopticref38_check.f
    rw [if_pos h, if_pos h]
    exact ⟨rfl, rfl⟩
  · obtain ⟨c, hc⟩ := check_both l (by omega) l.length 0 (by omega)
    refine ⟨c, fun k hk => ?_⟩
    unfold score_check.f synopticref38_check.f
    rw [if_neg h, if_neg h]
    exact hc k (by omega)
theorem of_eq (l : List S40) : ∀ (k : Nat) (i a b c d : Int), score_Of.l0 k l (l.length : Int) i a b c d = synopticref38_Of.l0 k l i a b c d
  | 0, i, a, b, c, d => by simp only [score_Of.l0, synopticref38_Of.l0]
  | k + 1, i, a, b, c, d => by
    simp only [score_Of.l0, synopticref38_Of.l0]
    by_cases h : i < (l.length : Int)
    · rw [if_pos h, if_pos h]
      by_cases h0 : 0 ≤ i
      · rw [if_pos h0, if_pos h0, if_pos h]; exact of_eq l k _ _ _ _ _
      · rw [if_neg h0, if_pos h, if_neg h0]
    · rw [if_neg h, if_neg h]
theorem of_some (l : List S40) (hl : l.length ≤ 10000) : ∀ (d i : Nat) (a b c e : Int), i + d = l.length → ∃ r, ∀ k, d < k → score_Of.l0 k l (l.length : Int) (i : Int) a b c e = some r := by
  intro d
  induction d with
  | zero =>
    intro i a b c e hd
    refine ⟨(a, b, c, e, 0), fun k hk => ?_⟩
    obtain ⟨k, rfl⟩ : ∃ m, k = m + 1 := ⟨k - 1, by omega⟩
    simp only [score_Of.l0]
    rw [if_neg (by omega)]
  | succ d ih =>
    intro i a b c e hd
    have hw := wrap_next i (by omega)
    obtain ⟨r, hr⟩ := ih (i + 1) a (wrap64 (b + (wrap64 (((rd_T40 l (i : Int)).f0) - ((rd_T40 l (i : Int)).f1))))) (wrap64 (c + (mx (wrap64 (((rd_T40 l (i : Int)).f0) - ((rd_T40 l (i : Int)).f1))) (wrap64 (-(wrap64 (((rd_T40 l (i : Int)).f0) - ((rd_T40 l (i : Int)).f1)))))))) (wrap64 (e + (wrap64 ((wrap64 (((rd_T40 l (i : Int)).f0) - ((rd_T40 l (i : Int)).f1))) * (wrap64 (((rd_T40 l (i : Int)).f0) - ((rd_T40 l (i : Int)).f1))))))) (by omega)
    refine ⟨r, fun k hk => ?_⟩
    obtain ⟨k, rfl⟩ : ∃ m, k = m + 1 := ⟨k - 1, by omega⟩
    simp only [score_Of.l0]
    rw [if_pos (by omega), if_pos (by omega), if_pos (by omega), hw]
    exact hr k (by omega)
theorem of_same (l : List S40) : ∃ r, ∀ k, 30000 < k → score_Of.f k l = some r ∧ synopticref38_Of.f k l = some r := by
  obtain ⟨c, hc⟩ := check_same l
  by_cases h0 : c = 0
  · subst h0
    by_cases h : l.length ≤ 10000
    · obtain ⟨r, hr⟩ := of_some l h l.length 0 (l.length : Int) 0 0 0 (by omega)
      refine ⟨r, fun k hk => ?_⟩
      obtain ⟨h1, h2⟩ := hc k (by omega)
      have e := hr k (by omega)
      unfold score_Of.f synopticref38_Of.f
      rw [h1, h2]
      refine ⟨(Option.bind_some _ _).trans ?_, (Option.bind_some _ _).trans ?_⟩
      · rw [if_pos rfl]; exact e
      · rw [if_pos rfl]; exact (of_eq l k 0 _ _ _ _).symm.trans e
    · have := (hc 20001 (by omega)).1
      unfold score_check.f at this
      rw [if_pos (by omega)] at this
      exact absurd (Option.some.inj this) (by decide)
  · refine ⟨(0, 0, 0, 0, c), fun k hk => ?_⟩
    obtain ⟨h1, h2⟩ := hc k (by omega)
    unfold score_Of.f synopticref38_Of.f
    rw [h1, h2]
    refine ⟨(Option.bind_some _ _).trans ?_, (Option.bind_some _ _).trans ?_⟩
    · rw [if_neg h0]
    · rw [if_neg h0]

theorem table_eq (l : List S40) (t : Int) : ∀ (k : Nat), (∀ i a b c d : Int, score_Table.l0 k t l (l.length : Int) i a b c d = synopticref38_Table.l0 k l t i a b c d) ∧ (∀ (u v : Bool) (i : Int) (x : Bool) (a b c d : Int), score_Table.j1 k t u v l (l.length : Int) i x a b c d = synopticref38_Table.j1 k l t i u v x a b c d)
  | 0 => ⟨fun i a b c d => by simp only [score_Table.l0, synopticref38_Table.l0], fun u v i x a b c d => by simp only [score_Table.j1, synopticref38_Table.j1]⟩
  | k + 1 => by
    obtain ⟨h0, h1⟩ := table_eq l t k
    refine ⟨fun i a b c d => ?_, fun u v i x a b c d => ?_⟩
    · simp only [score_Table.l0, synopticref38_Table.l0]
      by_cases h : i < (l.length : Int)
      · rw [if_pos h, if_pos h]
        by_cases hi : 0 ≤ i
        · rw [if_pos hi, if_pos hi, if_pos h, h1, h1]
        · rw [if_neg hi, if_pos h, if_neg hi]
      · rw [if_neg h, if_neg h]
    · simp only [score_Table.j1, synopticref38_Table.j1, h0]
theorem table_some (l : List S40) (t : Int) (hl : l.length ≤ 10000) : ∀ (d i : Nat) (a b c e : Int), i + d = l.length → ∃ r, ∀ k, 2 * d < k → score_Table.l0 k t l (l.length : Int) (i : Int) a b c e = some r := by
  intro d
  induction d with
  | zero =>
    intro i a b c e hd
    refine ⟨(a, b, c, e, 0), fun k hk => ?_⟩
    obtain ⟨k, rfl⟩ : ∃ m, k = m + 1 := ⟨k - 1, by omega⟩
    simp only [score_Table.l0]
    rw [if_neg (by omega)]
  | succ d ih =>
    intro i a b c e hd
    have hw := wrap_next i (by omega)
    have hj : ∀ (u v x : Bool), ∃ r, ∀ k, 2 * d + 1 < k → score_Table.j1 k t u v l (l.length : Int) (i : Int) x a b c e = some r := by
      intro u v x
      have hd2 : i + 1 + d = l.length := by omega
      obtain ⟨r0, e0⟩ := ih (i + 1) (wrap64 (a + 1)) b c e hd2
      obtain ⟨r1, e1⟩ := ih (i + 1) a (wrap64 (b + 1)) c e hd2
      obtain ⟨r2, e2⟩ := ih (i + 1) a b (wrap64 (c + 1)) e hd2
      obtain ⟨r3, e3⟩ := ih (i + 1) a b c (wrap64 (e + 1)) hd2
      refine ⟨if x = true then r0 else if u = true then r1 else if v = true then r2 else r3, fun k hk => ?_⟩
      obtain ⟨k, rfl⟩ : ∃ m, k = m + 1 := ⟨k - 1, by omega⟩
      simp only [score_Table.j1]
      rw [hw, e0 k (by omega), e1 k (by omega), e2 k (by omega), e3 k (by omega)]
      cases x <;> cases u <;> cases v <;> rfl
    obtain ⟨r0, e0⟩ := hj (decide (((rd_T40 l (i : Int)).f0) ≥ t)) (decide (((rd_T40 l (i : Int)).f1) ≥ t)) (decide (((rd_T40 l (i : Int)).f1) ≥ t))
    obtain ⟨r1, e1⟩ := hj (decide (((rd_T40 l (i : Int)).f0) ≥ t)) (decide (((rd_T40 l (i : Int)).f1) ≥ t)) false
    have hi : (i : Int) < (l.length : Int) := by omega
    have h0 : (0 : Int) ≤ (i : Int) := by omega
    refine ⟨if ((rd_T40 l (i : Int)).f0) ≥ t then r0 else r1, fun k hk => ?_⟩
    obtain ⟨k, rfl⟩ : ∃ m, k = m + 1 := ⟨k - 1, by omega⟩
    simp only [score_Table.l0]
    rw [if_pos hi, if_pos h0, if_pos hi, e0 k (by omega), e1 k (by omega)]
    split <;> rfl
theorem table_same (l : List S40) (t : Int) : ∃ r, ∀ k, 30000 < k → score_Table.f k l t = some r ∧ synopticref38_Table.f k l t = some r := by
  obtain ⟨c, hc⟩ := check_same l
  by_cases h0 : c = 0
  · subst h0
    by_cases h : l.length ≤ 10000
    · obtain ⟨r, hr⟩ := table_some l t h l.length 0 0 0 0 0 (by omega)
      refine ⟨r, fun k hk => ?_⟩
      obtain ⟨h1, h2⟩ := hc k (by omega)
      have e := hr k (by omega)
      unfold score_Table.f synopticref38_Table.f
      rw [h1, h2]
      refine ⟨(Option.bind_some _ _).trans ?_, (Option.bind_some _ _).trans ?_⟩
      · rw [if_pos rfl]; exact e
      · rw [if_pos rfl]; exact ((table_eq l t k).1 0 _ _ _ _).symm.trans e
    · have := (hc 20001 (by omega)).1
      unfold score_check.f at this
      rw [if_pos (by omega)] at this
      exact absurd (Option.some.inj this) (by decide)
  · refine ⟨(0, 0, 0, 0, c), fun k hk => ?_⟩
    obtain ⟨h1, h2⟩ := hc k (by omega)
    unfold score_Table.f synopticref38_Table.f
    rw [h1, h2]
    refine ⟨(Option.bind_some _ _).trans ?_, (Option.bind_some _ _).trans ?_⟩
    · rw [if_neg h0]
    · rw [if_neg h0]
theorem added_same (k : Nat) (hk : 10 ≤ k) (n s a q : Int) : ∃ b, score_added.f n s a q = some b ∧ synopticref38_fine.f k n s a q = some b := by
  have hs := small_f [s, a, q] 576460752303423488 (by omega) (by simp) k (by simp; omega)
  simp only [List.all_cons, List.all_nil, Bool.and_true] at hs
  refine ⟨decide ((0 ≤ n ∧ n ≤ 1000000) ∧ (-576460752303423488 ≤ s ∧ s ≤ 576460752303423488) ∧ (0 ≤ a ∧ a ≤ 576460752303423488) ∧ (0 ≤ q ∧ q ≤ 576460752303423488)), ?_, ?_⟩
  · unfold score_added.f
    rw [within_eq, within_eq, within_eq, within_eq]
    simp only [Option.bind_some]
    by_cases c0 : 0 ≤ n ∧ n ≤ 1000000 <;> by_cases c1 : -576460752303423488 ≤ s ∧ s ≤ 576460752303423488 <;> by_cases c2 : 0 ≤ a ∧ a ≤ 576460752303423488 <;> simp [c0, c1, c2]
  · unfold synopticref38_fine.f
    rw [hs]
    simp only [Option.bind_some]
    by_cases c0 : n ≥ 0
    · rw [if_pos c0]
      by_cases c1 : n ≤ 1000000
      · rw [if_pos c1]
        by_cases c2 : (decide (-576460752303423488 ≤ s ∧ s ≤ 576460752303423488) && (decide (-576460752303423488 ≤ a ∧ a ≤ 576460752303423488) && decide (-576460752303423488 ≤ q ∧ q ≤ 576460752303423488))) = true
        · rw [if_pos c2]
          simp only [Bool.and_eq_true, decide_eq_true_eq] at c2
          by_cases c3 : a ≥ 0
          · rw [if_pos c3]
            exact congrArg some (decide_eq_decide.2 (by omega))
          · rw [if_neg c3, decide_eq_false (by omega)]
        · rw [if_neg c2, decide_eq_false (fun h => c2 (by simp only [Bool.and_eq_true, decide_eq_true_eq]; omega))]
      · rw [if_neg c1, decide_eq_false (by omega)]
    · rw [if_neg c0, decide_eq_false (by omega)]
theorem merge_same (n s a q n' s' a' q' : Int) : ∃ r, ∀ k, 10 ≤ k → score_Merge.f n s a q n' s' a' q' = some r ∧ synopticref38_Merge.f k n s a q n' s' a' q' = some r := by
  obtain ⟨b, e1, _⟩ := added_same 10 (by omega) n s a q
  obtain ⟨b', e2, _⟩ := added_same 10 (by omega) n' s' a' q'
  refine ⟨if b = true then (if b' = true then (if (wrap64 (n + n')) > 1000000 then (0, 0, 0, 0, 1) else (wrap64 (n + n'), wrap64 (s + s'), wrap64 (a + a'), wrap64 (q + q'), 0)) else (0, 0, 0, 0, 1)) else (0, 0, 0, 0, 1), fun k hk => ?_⟩
  obtain ⟨c, f1, g1⟩ := added_same k hk n s a q
  obtain ⟨c', f2, g2⟩ := added_same k hk n' s' a' q'
  obtain rfl : b = c := Option.some.inj (e1.symm.trans f1)
  obtain rfl : b' = c' := Option.some.inj (e2.symm.trans f2)
  unfold score_Merge.f synopticref38_Merge.f
  rw [f1, f2, g1, g2]
  simp only [Option.bind_some]
  cases b <;> cases b' <;> by_cases hg : wrap64 (n + n') > 1000000 <;> simp [hg]
theorem mean_same (x n : Int) : ∃ K r, ∀ k, K ≤ k → score_mean.f k x n = some r ∧ synopticref38_over.f k x n = some r := by
  by_cases h : n < 1
  · refine ⟨0, (0, 0, 9), fun k hk => ?_⟩
    unfold score_mean.f synopticref38_over.f
    rw [if_pos h, if_pos h]
    exact ⟨rfl, rfl⟩
  · obtain ⟨K, hK⟩ := red_some x n
    refine ⟨K, red x n, fun k hk => ?_⟩
    unfold score_mean.f synopticref38_over.f
    rw [if_neg h, if_neg h, ref_red, hK k hk]
    exact ⟨rfl, rfl⟩
theorem skill_same (n s a q n' s' a' q' : Int) : ∃ K r, ∀ k, K ≤ k → score_Skill.f k n s a q n' s' a' q' = some r ∧ synopticref38_Skill.f k n s a q n' s' a' q' = some r := by
  have hj : ∀ b : Bool, ∃ K r, ∀ k, K ≤ k → score_Skill.j0 k b n s a q n' s' a' q' = some r ∧ synopticref38_Skill.j0 k b n s a q n' s' a' q' = some r := by
    intro b
    obtain ⟨K, hK⟩ := red_some (wrap64 (q' - q)) q'
    refine ⟨K + 1, if b = true then (0, 0, 9) else if (0 ≤ q ∧ q ≤ 288230376151711744) ∧ (0 ≤ q' ∧ q' ≤ 288230376151711744) then red (wrap64 (q' - q)) q' else (0, 0, 1), fun k hk => ?_⟩
    obtain ⟨k, rfl⟩ : ∃ m, k = m + 1 := ⟨k - 1, by omega⟩
    simp only [score_Skill.j0, synopticref38_Skill.j0]
    rw [within_eq, within_eq, ref_red, hK k (by omega)]
    simp only [Option.bind_some]
    cases b with
    | true => exact ⟨rfl, rfl⟩
    | false =>
      simp only [Bool.false_eq_true, if_false]
      by_cases c0 : 0 ≤ q ∧ q ≤ 288230376151711744
      · by_cases c1 : 0 ≤ q' ∧ q' ≤ 288230376151711744
        · refine ⟨?_, ?_⟩
          · rw [if_pos (decide_eq_true c0), if_pos (decide_eq_true c1), if_pos ⟨c0, c1⟩]
          · rw [if_neg (show ¬ q < 0 by omega), if_neg (show ¬ q > 288230376151711744 by omega), if_neg (show ¬ q' < 0 by omega), if_neg (show ¬ q' > 288230376151711744 by omega), if_pos ⟨c0, c1⟩]
        · refine ⟨?_, ?_⟩
          · rw [if_pos (decide_eq_true c0), if_neg (show ¬ (decide (0 ≤ q' ∧ q' ≤ 288230376151711744) = true) by rw [decide_eq_false c1]; simp), if_neg (c := (0 ≤ q ∧ q ≤ 288230376151711744) ∧ 0 ≤ q' ∧ q' ≤ 288230376151711744) (fun h => c1 h.2)]
          · rw [if_neg (show ¬ q < 0 by omega), if_neg (show ¬ q > 288230376151711744 by omega), if_neg (c := (0 ≤ q ∧ q ≤ 288230376151711744) ∧ 0 ≤ q' ∧ q' ≤ 288230376151711744) (fun h => c1 h.2)]
            by_cases c2 : q' < 0
            · rw [if_pos c2]
            · rw [if_neg c2, if_pos (by omega)]
      · refine ⟨?_, ?_⟩
        · rw [if_neg (show ¬ (decide (0 ≤ q ∧ q ≤ 288230376151711744) = true) by rw [decide_eq_false c0]; simp), if_neg (c := (0 ≤ q ∧ q ≤ 288230376151711744) ∧ 0 ≤ q' ∧ q' ≤ 288230376151711744) (fun h => c0 h.1)]
        · rw [if_neg (c := (0 ≤ q ∧ q ≤ 288230376151711744) ∧ 0 ≤ q' ∧ q' ≤ 288230376151711744) (fun h => c0 h.1)]
          by_cases c2 : q < 0
          · rw [if_pos c2]
          · rw [if_neg c2, if_pos (by omega)]
  obtain ⟨K1, r1, h1⟩ := hj true
  obtain ⟨K2, r2, h2⟩ := hj (q' == 0)
  refine ⟨K1 + K2, if n < 1 then r1 else if n' < 1 then r1 else if n = n' then r2 else r1, fun k hk => ?_⟩
  unfold score_Skill.f synopticref38_Skill.f
  obtain ⟨a1, b1⟩ := h1 k (by omega)
  obtain ⟨a2, b2⟩ := h2 k (by omega)
  rw [a1, b1, a2, b2]
  by_cases c1 : n < 1 <;> by_cases c2 : n' < 1 <;> by_cases c3 : n = n' <;> simp [c1, c2, c3]
end Go.Proofs.Ytbnjbdjjedndbaa.B
