/- The statement LimitsClean without Go: it answers true for every list of numbers. -/
import Derived.Test.YtbnkcajdgmbidaaDoorLClean
import Derived.Test.YtbnkcajdgmbidaaDoorMem
import Derived.Test.YtbnkcajdgmbidaaDoorAwk
namespace Go.Proofs.YtbnkcajdgmbidaaDoor.B
open Go.RowKit Go.Proofs.YtbnkcajdgmbidaaDoorW.PrintWords Go.Proofs.YtbnkcajdgmbidaaDoorW.PrintLast Go.Proofs.YtbnkcajdgmbidaaDoorW.PrintMore
set_option linter.unusedVariables false
set_option linter.unusedSimpArgs false
/-- The readings of other elements. -/
def other (x : List S30) (bad : List Int) : List S30 := x.filter fun r => !decide (r.f0 ∈ bad)
theorem without_l0 (x : List S30) (hx : x.length ≤ 100) (bad : List Int) (hb : bad.length ≤ 1000) : ∀ (d i : Nat) (acc : List S30), i + d = x.length → acc.length ≤ i → ∀ k, 1001 + d < k → synopticref04_Without.l0 k x bad acc (i : Int) = some (acc ++ other (x.drop i) bad) := by
  intro d
  induction d with
  | zero =>
    intro i acc hd ha k hk
    obtain ⟨k, rfl⟩ : ∃ m, k = m + 1 := ⟨k - 1, by omega⟩
    simp only [synopticref04_Without.l0]
    rw [if_neg (by omega), List.drop_of_length_le (by omega)]
    simp [other]
  | succ d ih =>
    intro i acc hd ha k hk
    obtain ⟨k, rfl⟩ : ∃ m, k = m + 1 := ⟨k - 1, by omega⟩
    have hi : i < x.length := by omega
    have q1 : (i : Int) < (x.length : Int) := by omega
    have q2 : (0 : Int) ≤ (i : Int) := by omega
    have q3 : acc.length < 8796093022208 := by omega
    have h1 := ih (i + 1) acc (by omega) (by omega) k (by omega)
    have h2 := ih (i + 1) (acc ++ [(⟨x[i].f0, x[i].f1⟩ : S30)]) (by omega) (by rw [List.length_append]; simp; omega) k (by omega)
    have hin := in_some bad hb x[i].f0 k (by omega)
    have hw : wrap64 ((i : Int) + 1) = ((i + 1 : Nat) : Int) := by rw [wrap_fit (by omega) (by omega)]; omega
    have eo : other (x.drop i) bad = (if decide (x[i].f0 ∈ bad) = true then [] else [x[i]]) ++ other (x.drop (i + 1)) bad := by
      rw [List.drop_eq_getElem_cons hi]
      unfold other
      rw [List.filter_cons]
      by_cases h : x[i].f0 ∈ bad
      · rw [decide_eq_true h]; rfl
      · rw [decide_eq_false h]; rfl
    conv => lhs; rw [synopticref04_Without.l0]
    rw [if_pos q1, if_pos q2, rd30_nat x i hi, hin]
    refine (Option.bind_some _ _).trans ?_
    rw [hw, eo]
    by_cases h : decide (x[i].f0 ∈ bad) = true
    · rw [if_pos h, if_pos h, h1]
      rfl
    · rw [if_neg h, if_neg h, if_pos q3, h2, List.append_assoc]
theorem without_some (x : List S30) (hx : x.length ≤ 100) (bad : List Int) (hb : bad.length ≤ 1000) (k : Nat) (hk : 1200 ≤ k) : synopticref04_Without.f k x bad = some (other x bad) := by
  have h := without_l0 x hx bad hb x.length 0 [] (by omega) (Nat.le_refl _) k (by omega)
  unfold synopticref04_Without.f
  rw [List.drop_zero] at h
  exact h
theorem fnd_other (bad : List Int) (c : Int) : ∀ x : List S30, fnd (other x bad) c = if c ∈ bad then (0, false) else fnd x c
  | [] => by simp [other, fnd]
  | r :: x => by
    have ih := fnd_other bad c x
    unfold other at ih ⊢
    rw [List.filter_cons]
    by_cases h : r.f0 ∈ bad
    · rw [decide_eq_true h]
      simp only [Bool.not_true, Bool.false_eq_true, if_false]
      rw [ih]
      by_cases hc : c ∈ bad
      · rw [if_pos hc, if_pos hc]
      · rw [if_neg hc, if_neg hc, fnd, if_neg (by intro e; exact hc (beq_iff_eq.1 e ▸ h))]
    · rw [decide_eq_false h]
      simp only [Bool.not_false, if_true]
      rw [fnd]
      by_cases e : (r.f0 == c) = true
      · have ec := beq_iff_eq.1 e
        rw [if_pos e, if_neg (by rw [← ec]; exact h), fnd, if_pos e]
      · rw [if_neg e, ih, fnd, if_neg e]
theorem fnd_small {x : List S30} (h : ∀ r ∈ x, -100000 ≤ r.f1 ∧ r.f1 ≤ 100000) (c : Int) : -100000 ≤ (fnd x c).1 ∧ (fnd x c).1 ≤ 100000 := by
  induction x with
  | nil => exact ⟨show (-100000 : Int) ≤ 0 by decide, show (0 : Int) ≤ 100000 by decide⟩
  | cons r x ih =>
    rw [fnd]
    split
    · exact h r List.mem_cons_self
    · exact ih fun s hs => h s (List.mem_cons_of_mem _ hs)
theorem cmpd_eq {x : List S30} (h : ∀ r ∈ x, -100000 ≤ r.f1 ∧ r.f1 ≤ 100000) (c : Int) : cmpd x c = (fnd x c).2 := by
  have hs := fnd_small h c
  unfold cmpd
  rw [decide_eq_true hs.1, decide_eq_true hs.2]
  simp
theorem other_small {x : List S30} (h : ∀ r ∈ x, -100000 ≤ r.f1 ∧ r.f1 ≤ 100000) (bad : List Int) : ∀ r ∈ other x bad, -100000 ≤ r.f1 ∧ r.f1 ≤ 100000 := fun r hr => h r (List.mem_filter.1 hr).1
theorem wet_other {x : List S30} (h : ∀ r ∈ x, -100000 ≤ r.f1 ∧ r.f1 ≤ 100000) (bad : List Int) (hw : wetB (other x bad) = true) : 2 ∉ bad ∧ wetB x = true := by
  unfold wetB at hw ⊢
  rw [cmpd_eq (other_small h bad), cmpd_eq (other_small h bad), fnd_other, fnd_other] at hw
  rw [cmpd_eq h, cmpd_eq h]
  by_cases h2 : (2 : Int) ∈ bad
  · rw [if_pos h2] at hw; simp at hw
  · rw [if_neg h2] at hw
    by_cases h3 : (3 : Int) ∈ bad
    · rw [if_pos h3] at hw; simp at hw
    · rw [if_neg h3] at hw
      exact ⟨h2, hw⟩
theorem storm_other {x : List S30} (h : ∀ r ∈ x, -100000 ≤ r.f1 ∧ r.f1 ≤ 100000) (bad : List Int) (hw : stormB (other x bad) = true) : 4 ∉ bad ∧ stormB x = true := by
  unfold stormB at hw ⊢
  rw [cmpd_eq (other_small h bad), cmpd_eq (other_small h bad), fnd_other, fnd_other] at hw
  rw [cmpd_eq h, cmpd_eq h]
  by_cases h2 : (4 : Int) ∈ bad
  · rw [if_pos h2] at hw; simp at hw
  · rw [if_neg h2] at hw
    by_cases h3 : (5 : Int) ∈ bad
    · rw [if_pos h3] at hw; simp at hw
    · rw [if_neg h3] at hw
      exact ⟨h2, hw⟩
theorem clean_none {x : List S30} (hg : Good x) : checkR (other x (checkR x)) = [] := by
  rw [List.eq_nil_iff_forall_not_mem]
  intro v hv
  rcases (check_mem _ v).1 hv with h | ⟨h, _⟩ | ⟨h, _⟩
  · obtain ⟨r, hr, e, hq⟩ := (rej_mem _ v).1 h
    have hm := List.mem_filter.1 hr
    have : r.f0 ∈ checkR x := (check_mem x _).2 (.inl ((rej_mem x _).2 ⟨r, hm.1, rfl, hq⟩))
    have h2 := hm.2
    rw [decide_eq_true this] at h2
    cases h2
  · obtain ⟨h2, hw⟩ := wet_other hg.small _ h
    exact h2 ((check_mem x 2).2 (.inr (.inl ⟨hw, .inl rfl⟩)))
  · obtain ⟨h2, hw⟩ := storm_other hg.small _ h
    exact h2 ((check_mem x 4).2 (.inr (.inr ⟨hw, .inl rfl⟩)))
theorem rfind_l0 (x : List S30) (hx : x.length ≤ 100) (c : Int) : ∀ (d k i : Nat), i + d = x.length → d < k → synopticref04_Find.l0 k x c (i : Int) = some (fnd (x.drop i) c) := by
  intro d
  induction d with
  | zero =>
    intro k i hd hk
    obtain ⟨k, rfl⟩ : ∃ m, k = m + 1 := ⟨k - 1, by omega⟩
    simp only [synopticref04_Find.l0]
    rw [if_neg (by omega), List.drop_of_length_le (by omega)]
    rfl
  | succ d ih =>
    intro k i hd hk
    obtain ⟨k, rfl⟩ : ∃ m, k = m + 1 := ⟨k - 1, by omega⟩
    have hi : i < x.length := by omega
    have q1 : (i : Int) < (x.length : Int) := by omega
    have q2 : (0 : Int) ≤ (i : Int) := by omega
    have h1 := ih k (i + 1) (by omega) (by omega)
    have hw : wrap64 ((i : Int) + 1) = ((i + 1 : Nat) : Int) := by rw [wrap_fit (by omega) (by omega)]; omega
    simp only [synopticref04_Find.l0]
    rw [if_pos q1, if_pos q2, rd30_nat x i hi, List.drop_eq_getElem_cons hi, fnd, hw]
    by_cases e : x[i].f0 = c
    · rw [if_pos e, if_pos (beq_iff_eq.2 e)]
    · rw [if_neg e, if_neg (fun h => e (beq_iff_eq.1 h)), h1]
theorem rfind_some (x : List S30) (hx : x.length ≤ 100) (c : Int) (k : Nat) (hk : 101 ≤ k) : synopticref04_Find.f k x c = some (fnd x c) := by
  have h := rfind_l0 x hx c x.length k 0 (by omega) (by omega)
  unfold synopticref04_Find.f
  rw [List.drop_zero] at h
  exact h
theorem table_row (e : Int) (h : 1 ≤ e ∧ e ≤ 11) (v : Int) : synopticref14_Gross.f e v = if v ≥ limLo e then some (decide (v ≤ limHi e)) else some false := by
  have hc : e = 1 ∨ e = 2 ∨ e = 3 ∨ e = 4 ∨ e = 5 ∨ e = 6 ∨ e = 7 ∨ e = 8 ∨ e = 9 ∨ e = 10 ∨ e = 11 := by omega
  rcases hc with rfl | rfl | rfl | rfl | rfl | rfl | rfl | rfl | rfl | rfl | rfl
  all_goals
    unfold synopticref14_Gross.f limLo limHi
    simp [wrap64, rd_T50]
theorem rgross_some (e v : Int) (h : 1 ≤ e ∧ e ≤ 11) : synopticref14_Gross.f e v = some (grossB e v) := by
  rw [table_row e h]
  unfold grossB
  rw [decide_eq_true h, Bool.true_and]
  by_cases hv : v ≥ limLo e
  · rw [if_pos hv, decide_eq_true (p := limLo e ≤ v) hv, Bool.true_and]
  · rw [if_neg hv, decide_eq_false (p := limLo e ≤ v) (fun q => hv q), Bool.false_and]
theorem in_step (t : Bool) (s : Bool) (h : t = s) (r : Option Bool) : (if (t != s) = true then none else r) = r := by
  subst h
  cases t <;> rfl
theorem clean_j2 {x : List S30} (hg : Good x) {r : S30} (hr : r ∈ x) (flag : Bool) (hf : flag = true ↔ (grossB r.f0 r.f1 = false ∨ (wetB x = true ∧ (r.f0 = 2 ∨ r.f0 = 3)))) (n i : Int) (k : Nat) (hk : 1100 ≤ k)
    (hnext : synopticlaw14_LimitsClean.l1 k x (checkR x) x n (wrap64 (i + 1)) = some true) : synopticlaw14_LimitsClean.j2 (k + 1) x (checkR x) flag x n i r.f0 r.f1 = some true := by
  have hl := hg.len
  have hin := in_some (checkR x) (check_len x (by omega)) r.f0 k (by omega)
  have hm := check_mem x r.f0
  rw [rej_one hg hr, ← or_assoc, ← hf] at hm
  have f4 := rfind_some x (by omega) 4 k (by omega)
  have f5 := rfind_some x (by omega) 5 k (by omega)
  have hs : stormB x = ((fnd x 4).2 && ((fnd x 5).2 && decide (810000 < wrap64 (wrap64 ((fnd x 4).1 * (fnd x 4).1) + wrap64 ((fnd x 5).1 * (fnd x 5).1))))) := by
    unfold stormB
    rw [cmpd_eq hg.small, cmpd_eq hg.small, i64_w, i64_w, i64_w]
  have hno : stormB x = false → decide (r.f0 ∈ checkR x) = flag := by
    intro h0
    cases flag
    · rw [decide_eq_false]
      intro h
      rcases hm.1 h with h | h
      · cases h
      · rw [h0] at h; cases h.1
    · rw [decide_eq_true (hm.2 (.inl rfl))]
  rw [synopticlaw14_LimitsClean.j2, f4]
  refine (Option.bind_some _ _).trans ?_
  rw [f5]
  refine (Option.bind_some _ _).trans ?_
  rw [hin]
  cases flag
  · rw [if_neg (by decide)]
    have hst : stormB x = true → decide (r.f0 ∈ checkR x) = (r.f0 == 4 || r.f0 == 5) := by
      intro h1
      have hiff : r.f0 ∈ checkR x ↔ (r.f0 == 4 || r.f0 == 5) = true := by
        rw [hm, Bool.or_eq_true, beq_iff_eq, beq_iff_eq]
        exact ⟨fun h => h.elim (fun q => by cases q) (·.2), fun h => .inr ⟨h1, h⟩⟩
      by_cases h : r.f0 ∈ checkR x
      · rw [decide_eq_true h, hiff.1 h]
      · rw [decide_eq_false h]
        exact (Bool.eq_false_iff.mpr fun q => h (hiff.2 q)).symm
    by_cases h4 : (fnd x 4).2 = true
    · rw [if_pos h4]
      by_cases h5 : (fnd x 5).2 = true
      · rw [if_pos h5]
        by_cases h6 : wrap64 (wrap64 ((fnd x 4).1 * (fnd x 4).1) + wrap64 ((fnd x 5).1 * (fnd x 5).1)) > 810000
        · have hsb : stormB x = true := by rw [hs, h4, h5, decide_eq_true h6]; rfl
          have hd := hst hsb
          rw [if_pos h6]
          by_cases h7 : r.f0 = 4
          · rw [if_pos h7]
            refine (Option.bind_some _ _).trans ?_
            rw [in_step _ _ (by rw [hd, beq_iff_eq.2 h7]; rfl)]
            exact hnext
          · rw [if_neg h7]
            refine (Option.bind_some _ _).trans ?_
            rw [in_step _ _ (by rw [hd, beq_eq_false_iff_ne.2 h7]; rfl)]
            exact hnext
        · have hsb : stormB x = false := by rw [hs, h4, h5, decide_eq_false h6]; rfl
          rw [if_neg h6]
          refine (Option.bind_some _ _).trans ?_
          rw [in_step _ _ (hno hsb)]
          exact hnext
      · have hsb : stormB x = false := by rw [hs, h4, Bool.eq_false_iff.mpr h5]; rfl
        rw [if_neg h5]
        refine (Option.bind_some _ _).trans ?_
        rw [in_step _ _ (hno hsb)]
        exact hnext
    · have hsb : stormB x = false := by rw [hs, Bool.eq_false_iff.mpr h4]; rfl
      rw [if_neg h4]
      refine (Option.bind_some _ _).trans ?_
      rw [in_step _ _ (hno hsb)]
      exact hnext
  · rw [if_pos rfl]
    refine (Option.bind_some _ _).trans ?_
    rw [in_step _ _ (decide_eq_true (hm.2 (.inl rfl)))]
    exact hnext
theorem clean_l1 {x : List S30} (hg : Good x) : ∀ (d i : Nat), i + d = x.length → ∀ k, 1110 + 2 * d ≤ k → synopticlaw14_LimitsClean.l1 k x (checkR x) x (x.length : Int) (i : Int) = some true := by
  have hl := hg.len
  intro d
  induction d with
  | zero =>
    intro i hd k hk
    obtain ⟨k, rfl⟩ : ∃ m, k = m + 3 + 1 := ⟨k - 4, by omega⟩
    simp only [synopticlaw14_LimitsClean.l1]
    rw [if_neg (by omega), awake_some]
    rfl
  | succ d ih =>
    intro i hd k hk
    obtain ⟨k, rfl⟩ : ∃ m, k = m + 1 + 1 := ⟨k - 2, by omega⟩
    have hi : i < x.length := by omega
    have hih := ih (i + 1) (by omega) k (by omega)
    have hw : wrap64 ((i : Int) + 1) = ((i + 1 : Nat) : Int) := by rw [wrap_fit (by omega) (by omega)]; omega
    have q1 : (i : Int) < (x.length : Int) := by omega
    have q2 : (0 : Int) ≤ (i : Int) := by omega
    have hr : x[i] ∈ x := List.getElem_mem hi
    have hc := hg.code _ hr
    have hgr := rgross_some x[i].f0 x[i].f1 hc
    have f2 := rfind_some x (by omega) 2 (k + 1) (by omega)
    have f3 := rfind_some x (by omega) 3 (k + 1) (by omega)
    have hwet : wetB x = ((fnd x 2).2 && ((fnd x 3).2 && decide ((fnd x 2).1 < (fnd x 3).1))) := by
      unfold wetB
      rw [cmpd_eq hg.small, cmpd_eq hg.small]
    have hj : ∀ flag : Bool, (flag = true ↔ (grossB x[i].f0 x[i].f1 = false ∨ (wetB x = true ∧ (x[i].f0 = 2 ∨ x[i].f0 = 3)))) → synopticlaw14_LimitsClean.j2 (k + 1) x (checkR x) flag x (x.length : Int) (i : Int) x[i].f0 x[i].f1 = some true :=
      fun flag hf => clean_j2 hg hr flag hf _ _ k (by omega) (by rw [hw]; exact hih)
    conv => lhs; rw [synopticlaw14_LimitsClean.l1]
    rw [if_pos q1, if_pos q2, if_pos q1, rd30_nat x i hi, hgr]
    refine (Option.bind_some _ _).trans ?_
    rw [f2]
    refine (Option.bind_some _ _).trans ?_
    rw [f3]
    refine (Option.bind_some _ _).trans ?_
    generalize grossB x[i].f0 x[i].f1 = b at hj
    cases b
    · rw [if_neg (by decide)]
      exact hj true ⟨fun _ => .inl rfl, fun _ => rfl⟩
    · rw [if_pos rfl]
      have hfalse : wetB x = false → synopticlaw14_LimitsClean.j2 (k + 1) x (checkR x) false x (x.length : Int) (i : Int) x[i].f0 x[i].f1 = some true := fun h0 =>
        hj false ⟨fun h => (by cases h), fun h => by
          rcases h with h | h
          · cases h
          · rw [h0] at h; cases h.1⟩
      by_cases h2 : (fnd x 2).2 = true
      · rw [if_pos h2]
        by_cases h3 : (fnd x 3).2 = true
        · rw [if_pos h3]
          by_cases h4 : (fnd x 3).1 > (fnd x 2).1
          · have hwb : wetB x = true := by rw [hwet, h2, h3, decide_eq_true h4]; rfl
            rw [if_pos h4]
            by_cases h5 : x[i].f0 = 2
            · rw [if_pos h5]
              exact hj true ⟨fun _ => .inr ⟨hwb, .inl h5⟩, fun _ => rfl⟩
            · rw [if_neg h5]
              refine hj _ ⟨fun h => .inr ⟨hwb, .inr (beq_iff_eq.1 h)⟩, fun h => ?_⟩
              rcases h with h | ⟨_, h | h⟩
              · cases h
              · exact absurd h h5
              · exact beq_iff_eq.2 h
          · rw [if_neg h4]
            exact hfalse (by rw [hwet, h2, h3, decide_eq_false h4]; rfl)
        · rw [if_neg h3]
          exact hfalse (by rw [hwet, h2, Bool.eq_false_iff.mpr h3]; rfl)
      · rw [if_neg h2]
        exact hfalse (by rw [hwet, Bool.eq_false_iff.mpr h2]; rfl)
theorem clean_l0 {x : List S30} (hg : Good x) (bad : List Int) (hb : bad.Pairwise (· < ·)) (hbl : bad.length ≤ 1000) (r : Option Bool) (K : Nat) (hK : ∀ k, K ≤ k → synopticlaw14_LimitsClean.l1 k x bad x (x.length : Int) 0 = r) :
    ∀ (d i : Nat), i + d = bad.length + 1 → 1 ≤ i → ∀ k, K + d < k → synopticlaw14_LimitsClean.l0 k x bad (i : Int) = r := by
  intro d
  induction d with
  | zero =>
    intro i hd h1 k hk
    obtain ⟨k, rfl⟩ : ∃ m, k = m + 1 := ⟨k - 1, by omega⟩
    simp only [synopticlaw14_LimitsClean.l0]
    rw [if_neg (by omega)]
    exact hK k (by omega)
  | succ d ih =>
    intro i hd h1 k hk
    obtain ⟨k, rfl⟩ : ∃ m, k = m + 1 := ⟨k - 1, by omega⟩
    by_cases hi : i < bad.length
    · have hih := ih (i + 1) (by omega) (by omega) k (by omega)
      have q1 : (i : Int) < (bad.length : Int) := by omega
      have q2 : (0 : Int) ≤ (i : Int) := by omega
      have q3 : (0 : Int) ≤ ((i - 1 : Nat) : Int) := by omega
      have q4 : ((i - 1 : Nat) : Int) < (bad.length : Int) := by omega
      have hlt : bad[i - 1] < bad[i] := List.pairwise_iff_getElem.1 hb (i - 1) i (by omega) hi (by omega)
      have hw : wrap64 ((i : Int) - 1) = ((i - 1 : Nat) : Int) := by rw [wrap_fit (by omega) (by omega)]; omega
      have hw2 : wrap64 ((i : Int) + 1) = ((i + 1 : Nat) : Int) := by rw [wrap_fit (by omega) (by omega)]; omega
      simp only [synopticlaw14_LimitsClean.l0]
      rw [if_pos q1, hw, if_pos q3, if_pos q4, if_pos q2, rd_at bad (i - 1) (by omega), rd_at bad i hi, if_neg (Int.not_le.2 hlt), hw2]
      exact hih
    · simp only [synopticlaw14_LimitsClean.l0]
      rw [if_neg (by omega)]
      exact hK k (by omega)
theorem clean_pure : synopticlaw14_LimitsClean.Pure := by
  intro l _ _ _
  obtain ⟨s, x, q, e1, hg, hk⟩ := list_some l
  have hl := hg.len
  have hcl := check_len x (by omega)
  have hc : limits_Check.f x = some (checkR x) := by unfold limits_Check.f; rw [if_pos (show x.length ≤ 1000 by omega)]
  have hol : (other x (checkR x)).length ≤ x.length := List.length_filter_le _ _
  have hc2 : limits_Check.f (other x (checkR x)) = some [] := by unfold limits_Check.f; rw [if_pos (show (other x (checkR x)).length ≤ 1000 by omega), clean_none hg]
  refine ⟨5000, ?_⟩
  have hk5 := hk 5000 (by omega)
  have hwo := without_some x (by omega) (checkR x) hcl 5000 (by omega)
  have hfin := clean_l0 hg (checkR x) (check_asc x) hcl (some true) 1200 (fun k hk => clean_l1 hg x.length 0 (by omega) k (by omega)) (checkR x).length 1 (by omega) (by omega) 5000 (by omega)
  generalize (5000 : Nat) = K at hk5 hwo hfin ⊢
  unfold synopticlaw14_LimitsClean.f
  rw [e1]
  refine (Option.bind_some _ _).trans ?_
  rw [hk5]
  refine (Option.bind_some _ _).trans ?_
  dsimp only
  rw [hc]
  refine (Option.bind_some _ _).trans ?_
  rw [hwo]
  refine (Option.bind_some _ _).trans ?_
  rw [hc2]
  refine (Option.bind_some _ _).trans ?_
  rw [if_neg (by decide)]
  exact hfin
end Go.Proofs.YtbnkcajdgmbidaaDoor.B
