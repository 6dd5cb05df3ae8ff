/- The statement LimitsAlone without Go: it answers true for every list of numbers. -/
import Derived.Test.YtbnkcajdgmbidaaDoorLAlone
import Derived.Test.YtbnkcajdgmbidaaDoorMem
import Derived.Test.YtbnkcajdgmbidaaDoorAwk
namespace Go.Proofs.YtbnkcajdgmbidaaDoor.B
open Go.RowKit Go.Proofs.YtbnkcajdgmbidaaDoorW.PrintWords Go.Proofs.YtbnkcajdgmbidaaDoorW.PrintLast Go.Proofs.YtbnkcajdgmbidaaDoorW.PrintMore
set_option linter.unusedVariables false
set_option linter.unusedSimpArgs false
theorem not_eq_self : ∀ b : Bool, ¬ ((!b) == b) = true := by decide
theorem ne_self : ∀ b : Bool, ¬ (b != b) = true := by decide
theorem alone_l0 {x : List S30} (hg : Good x) : ∀ (d i : Nat), i + d = x.length → ∀ k, 1010 + 2 * d ≤ k → synopticlaw14_LimitsAlone.l0 k (checkR x) x (x.length : Int) (i : Int) = some true := by
  have hlen := check_len x (by have := hg.len; omega)
  intro d
  induction d with
  | zero =>
    intro i hd k hk
    obtain ⟨k, rfl⟩ : ∃ m, k = m + 3 + 1 := ⟨k - 4, by omega⟩
    simp only [synopticlaw14_LimitsAlone.l0]
    rw [if_neg (by omega), awake_some]
    rfl
  | succ d ih =>
    intro i hd k hk
    obtain ⟨k, rfl⟩ : ∃ m, k = m + 1 + 1 := ⟨k - 2, by omega⟩
    have hi : i < x.length := by omega
    have hih := ih (i + 1) (by omega) k (by omega)
    have hw : wrap64 ((i : Int) + 1) = ((i + 1 : Nat) : Int) := by have := hg.len; rw [wrap_fit (by omega) (by omega)]; omega
    have q1 : (i : Int) < (x.length : Int) := by omega
    have q2 : (0 : Int) ≤ (i : Int) := by omega
    have hr : x[i] ∈ x := List.getElem_mem hi
    have h1 : checkR [(⟨x[i].f0, x[i].f1⟩ : S30)] = checkR [x[i]] := rfl
    have hc : limits_Check.f [(⟨x[i].f0, x[i].f1⟩ : S30)] = some (checkR [x[i]]) := by unfold limits_Check.f; rw [if_pos (by simp), h1]
    have hp := one_pos x[i]
    have hin := in_some (checkR x) hlen x[i].f0 k (by omega)
    have hm := check_mem x x[i].f0
    have ho := rej_one hg hr
    conv => lhs; rw [synopticlaw14_LimitsAlone.l0]
    rw [if_pos q1, if_pos q2, if_pos q1, rd30_nat x i hi, hc]
    refine (Option.bind_some _ _).trans ?_
    generalize hb : grossB x[i].f0 x[i].f1 = b at hp ho
    have hgr : limits_Gross.f x[i].f0 x[i].f1 = some b := by unfold limits_Gross.f; rw [hb]
    have hfin : ∀ t : Bool, t = (!b) → (if (t == b) = true then none else synopticlaw14_LimitsAlone.l0 k (checkR x) x (x.length : Int) (wrap64 ((i : Int) + 1))) = some true := by
      intro t ht
      rw [ht, if_neg (not_eq_self b), hw]
      exact hih
    by_cases hcmp : x[i].f0 ≥ 2 ∧ x[i].f0 ≤ 5
    · rw [if_pos hcmp.1, decide_eq_true hcmp.2, synopticlaw14_LimitsAlone.j1, if_pos rfl]
      by_cases hpos : ((checkR [x[i]]).length : Int) > 0
      · have hbf : b = false := by
          rw [decide_eq_true hpos] at hp
          cases b
          · rfl
          · cases hp
        have hmem : x[i].f0 ∈ checkR x := hm.2 (.inl (ho.2 hbf))
        rw [if_pos hpos, hin, decide_eq_true hmem]
        refine (Option.bind_some _ _).trans ?_
        rw [if_pos rfl, hgr]
        refine (Option.bind_some _ _).trans ?_
        exact hfin _ hp
      · rw [if_neg hpos, hgr]
        refine (Option.bind_some _ _).trans ?_
        exact hfin _ hp
    · have hmem : decide (x[i].f0 ∈ checkR x) = !b := by
        have hiff : x[i].f0 ∈ checkR x ↔ b = false := by
          rw [hm, ho]
          constructor
          · rintro (h | h | h)
            · exact h
            · omega
            · omega
          · exact .inl
        rw [decide_eq_decide.2 hiff]
        cases b <;> rfl
      have hj : synopticlaw14_LimitsAlone.j1 (k + 1) (checkR x) (checkR [x[i]]) false x (x.length : Int) (i : Int) x[i].f0 x[i].f1 = some true := by
        rw [synopticlaw14_LimitsAlone.j1, if_neg (by decide), hin]
        refine (Option.bind_some _ _).trans ?_
        rw [hmem, hp, if_neg (ne_self _), hgr]
        refine (Option.bind_some _ _).trans ?_
        rw [← hp]
        exact hfin _ hp
      by_cases h2 : x[i].f0 ≥ 2
      · rw [if_pos h2, decide_eq_false (fun h => hcmp ⟨h2, h⟩)]
        exact hj
      · rw [if_neg h2]
        exact hj
theorem alone_pure : synopticlaw14_LimitsAlone.Pure := by
  intro l _ _ _
  obtain ⟨s, x, q, e1, hg, hk⟩ := list_some l
  have hl := hg.len
  refine ⟨1010 + 2 * x.length, ?_⟩
  unfold synopticlaw14_LimitsAlone.f
  rw [e1]
  refine (Option.bind_some _ _).trans ?_
  rw [hk _ (by omega)]
  refine (Option.bind_some _ _).trans ?_
  have hc : limits_Check.f x = some (checkR x) := by unfold limits_Check.f; rw [if_pos (show x.length ≤ 1000 by omega)]
  dsimp only
  rw [hc]
  refine (Option.bind_some _ _).trans ?_
  exact alone_l0 hg x.length 0 (by omega) _ (Nat.le_refl _)
end Go.Proofs.YtbnkcajdgmbidaaDoor.B
