/- The statement LimitsNarrow without Go: it answers true for every code and every value. -/
import Derived.Test.YtbnkcajdgmbidaaDoorLNarrow
import Derived.KernelRfl
namespace Go.Proofs.YtbnkcajdgmbidaaDoor.B
open Go.RowKit Go.Proofs.YtbnkcajdgmbidaaDoorW.PrintWords Go.Proofs.YtbnkcajdgmbidaaDoorW.PrintLast Go.Proofs.YtbnkcajdgmbidaaDoorW.PrintMore
set_option linter.unusedVariables false
set_option linter.unusedSimpArgs false
theorem asc_self {l : List Int} (h : l.Pairwise (fun a b => decide (a ≤ b) = true)) : asc l = l := by
  unfold asc
  exact List.mergeSort_of_pairwise h
theorem check_awake1 : checkR [(⟨2, 2800⟩ : S30), (⟨3, 2810⟩ : S30)] = [2, 3] := by
  have e : rej [(⟨2, 2800⟩ : S30), (⟨3, 2810⟩ : S30)] ++ wetL (cmpd [(⟨2, 2800⟩ : S30), (⟨3, 2810⟩ : S30)] 2) (cmpd [(⟨2, 2800⟩ : S30), (⟨3, 2810⟩ : S30)] 3) (fnd [(⟨2, 2800⟩ : S30), (⟨3, 2810⟩ : S30)] 2).1 (fnd [(⟨2, 2800⟩ : S30), (⟨3, 2810⟩ : S30)] 3).1 ++ stormL (cmpd [(⟨2, 2800⟩ : S30), (⟨3, 2810⟩ : S30)] 4) (cmpd [(⟨2, 2800⟩ : S30), (⟨3, 2810⟩ : S30)] 5) (fnd [(⟨2, 2800⟩ : S30), (⟨3, 2810⟩ : S30)] 4).1 (fnd [(⟨2, 2800⟩ : S30), (⟨3, 2810⟩ : S30)] 5).1 = [2, 3] := by kernel_rfl
  unfold checkR
  rw [e, asc_self (l := [2, 3]) (by decide)]
  rfl
theorem check_awake2 : checkR [(⟨2, 2800⟩ : S30), (⟨3, 2800⟩ : S30)] = [] := by
  have e : rej [(⟨2, 2800⟩ : S30), (⟨3, 2800⟩ : S30)] ++ wetL (cmpd [(⟨2, 2800⟩ : S30), (⟨3, 2800⟩ : S30)] 2) (cmpd [(⟨2, 2800⟩ : S30), (⟨3, 2800⟩ : S30)] 3) (fnd [(⟨2, 2800⟩ : S30), (⟨3, 2800⟩ : S30)] 2).1 (fnd [(⟨2, 2800⟩ : S30), (⟨3, 2800⟩ : S30)] 3).1 ++ stormL (cmpd [(⟨2, 2800⟩ : S30), (⟨3, 2800⟩ : S30)] 4) (cmpd [(⟨2, 2800⟩ : S30), (⟨3, 2800⟩ : S30)] 5) (fnd [(⟨2, 2800⟩ : S30), (⟨3, 2800⟩ : S30)] 4).1 (fnd [(⟨2, 2800⟩ : S30), (⟨3, 2800⟩ : S30)] 5).1 = [] := by kernel_rfl
  unfold checkR
  rw [e, asc_self (l := []) (by decide)]
  rfl
theorem check_awake3 : checkR [(⟨4, 700⟩ : S30), (⟨5, 700⟩ : S30)] = [4, 5] := by
  have e : rej [(⟨4, 700⟩ : S30), (⟨5, 700⟩ : S30)] ++ wetL (cmpd [(⟨4, 700⟩ : S30), (⟨5, 700⟩ : S30)] 2) (cmpd [(⟨4, 700⟩ : S30), (⟨5, 700⟩ : S30)] 3) (fnd [(⟨4, 700⟩ : S30), (⟨5, 700⟩ : S30)] 2).1 (fnd [(⟨4, 700⟩ : S30), (⟨5, 700⟩ : S30)] 3).1 ++ stormL (cmpd [(⟨4, 700⟩ : S30), (⟨5, 700⟩ : S30)] 4) (cmpd [(⟨4, 700⟩ : S30), (⟨5, 700⟩ : S30)] 5) (fnd [(⟨4, 700⟩ : S30), (⟨5, 700⟩ : S30)] 4).1 (fnd [(⟨4, 700⟩ : S30), (⟨5, 700⟩ : S30)] 5).1 = [4, 5] := by kernel_rfl
  unfold checkR
  rw [e, asc_self (l := [4, 5]) (by decide)]
  rfl
theorem ints_two (k : Nat) (a b : Int) : synoptickeep_Ints.f (k + 3) [a, b] [a, b] = some true := by
  unfold synoptickeep_Ints.f
  rw [if_pos rfl]
  have h0 : wrap64 (0 + 1) = 1 := by unfold wrap64; omega
  have h1 : wrap64 (1 + 1) = 2 := by unfold wrap64; omega
  rw [synoptickeep_Ints.l0, if_pos (by simp), if_pos (by decide), if_pos (by simp), if_pos rfl, h0]
  rw [synoptickeep_Ints.l0, if_pos (by simp), if_pos (by decide), if_pos (by simp), if_pos rfl, h1]
  rw [synoptickeep_Ints.l0, if_neg (by simp)]
theorem awake_some (k : Nat) : synopticlaw14_awake.f (k + 3) = some true := by
  unfold synopticlaw14_awake.f limits_Check.f
  rw [if_pos (by decide), if_pos (by decide), if_pos (by decide), check_awake1, check_awake2, check_awake3]
  refine Eq.trans (Option.bind_some _ _) (Eq.trans (Option.bind_some _ _) (Eq.trans (Option.bind_some _ _) ?_))
  rw [ints_two]
  refine Eq.trans (Option.bind_some _ _) ?_
  rw [if_pos rfl, if_pos (by decide), ints_two]
  rfl
/-- The ranges of the elements hold the limits. -/
theorem desc_some (c : Int) (h : 1 ≤ c ∧ c ≤ 11) : ∃ (s : ByteArray) (lo hi d : Int), synopticref04_Describe.f c = some (s, lo, hi, d, 0) ∧ -100000 ≤ lo ∧ lo ≤ limLo c ∧ limLo c ≤ limHi c ∧ limHi c ≤ hi ∧ hi ≤ 100000 := by
  have hc : c = 1 ∨ c = 2 ∨ c = 3 ∨ c = 4 ∨ c = 5 ∨ c = 6 ∨ c = 7 ∨ c = 8 ∨ c = 9 ∨ c = 10 ∨ c = 11 := by omega
  rcases hc with rfl | rfl | rfl | rfl | rfl | rfl | rfl | rfl | rfl | rfl | rfl
  · exact ⟨⟨#[80]⟩, 8000, 11000, 5, by kernel_rfl, by decide⟩
  · exact ⟨⟨#[84]⟩, 1800, 3300, 4, by kernel_rfl, by decide⟩
  · exact ⟨⟨#[68]⟩, 1800, 3300, 4, by kernel_rfl, by decide⟩
  · exact ⟨⟨#[69]⟩, (-1000), 1000, 4, by kernel_rfl, by decide⟩
  · exact ⟨⟨#[78]⟩, (-1000), 1000, 4, by kernel_rfl, by decide⟩
  · exact ⟨⟨#[65]⟩, 900, 1700, 4, by kernel_rfl, by decide⟩
  · exact ⟨⟨#[66]⟩, 2000, 3200, 4, by kernel_rfl, by decide⟩
  · exact ⟨⟨#[70]⟩, 2400, 3400, 4, by kernel_rfl, by decide⟩
  · exact ⟨⟨#[71]⟩, 2000, 3000, 4, by kernel_rfl, by decide⟩
  · exact ⟨⟨#[74]⟩, 4400, 6200, 4, by kernel_rfl, by decide⟩
  · exact ⟨⟨#[75]⟩, 2000, 2900, 4, by kernel_rfl, by decide⟩
theorem gross_in (c v : Int) (h : 1 ≤ c ∧ c ≤ 11) : grossB c v = (decide (limLo c ≤ v) && decide (v ≤ limHi c)) := by
  unfold grossB
  rw [decide_eq_true h, Bool.true_and]
/-- The least and the greatest permitted value so far. -/
def soLo (L H most v : Int) : Int := if v ≤ L then most + 1 else L
def soHi (L H least v : Int) : Int := if v ≤ L then least - 1 else if v ≤ H then v - 1 else H
theorem narrow_l0 (x1 c : Int) (hc : 1 ≤ c ∧ c ≤ 11) (s : ByteArray) (lo hi d : Int) (h1 : -100000 ≤ lo) (h2 : lo ≤ limLo c) (h3 : limLo c ≤ limHi c) (h4 : limHi c ≤ hi) (h5 : hi ≤ 100000) (r : Option Bool) (K : Nat) (hK : ∀ k, K ≤ k → synopticlaw14_LimitsNarrow.j1 k x1 c (limLo c) (limHi c) false = r) :
    ∀ (n : Nat) (v : Int), v = hi + 2 - n → lo - 1 ≤ v → ∀ k, K + n < k → synopticlaw14_LimitsNarrow.l0 k x1 c (soLo (limLo c) (limHi c) hi v) (soHi (limLo c) (limHi c) lo v) v s lo hi d = r := by
  have hg := gross_in c
  generalize limLo c = L at *
  generalize limHi c = H at *
  have hw : wrap64 (hi + 1) = hi + 1 := by unfold wrap64; omega
  intro n
  induction n with
  | zero =>
    intro v hv hlo k hk
    obtain ⟨k, rfl⟩ : ∃ m, k = m + 1 := ⟨k - 1, by omega⟩
    have e1 : soLo L H hi v = L := by unfold soLo; rw [if_neg (by omega)]
    have e2 : soHi L H lo v = H := by unfold soHi; rw [if_neg (by omega), if_neg (by omega)]
    have hKk := hK k (by omega)
    have q : ¬ v ≤ hi + 1 := by omega
    rw [e1, e2, synopticlaw14_LimitsNarrow.l0, hw, if_neg q, if_neg (Int.not_lt.2 h3), if_neg (Int.not_lt.2 h2), if_neg (Int.not_lt.2 h4)]
    exact hKk
  | succ n ih =>
    intro v hv hlo k hk
    obtain ⟨k, rfl⟩ : ∃ m, k = m + 1 := ⟨k - 1, by omega⟩
    have ih' := ih (v + 1) (by omega) (by omega) k (by omega)
    have q : v ≤ hi + 1 := by omega
    have hw2 : wrap64 (v + 1) = v + 1 := by clear hw; unfold wrap64; omega
    rw [synopticlaw14_LimitsNarrow.l0, hw, if_pos q, limits_Gross.f, hg v hc]
    refine Eq.trans (Option.bind_some _ _) ?_
    rw [hw2]
    clear hw hw2
    by_cases hin : L ≤ v ∧ v ≤ H
    · have e1 : mn (soLo L H hi v) v = soLo L H hi (v + 1) := by unfold mn soLo; repeat' split
                                                                 all_goals omega
      have e2 : mx (soHi L H lo v) v = soHi L H lo (v + 1) := by unfold mx soHi; repeat' split
                                                                 all_goals omega
      rw [decide_eq_true hin.1, decide_eq_true hin.2, if_pos (show (true && true) = true from rfl), e1, e2]
      exact ih'
    · have e0 : (decide (L ≤ v) && decide (v ≤ H)) = false := by
        rcases Int.lt_or_le v L with h | h
        · rw [decide_eq_false (by omega), Bool.false_and]
        · rw [decide_eq_false (p := v ≤ H) (by omega), Bool.and_false]
      have e1 : soLo L H hi v = soLo L H hi (v + 1) := by unfold soLo; repeat' split
                                                          all_goals omega
      have e2 : soHi L H lo v = soHi L H lo (v + 1) := by unfold soHi; repeat' split
                                                          all_goals omega
      rw [e0, if_neg (by decide), e1, e2]
      exact ih'
theorem narrow_j1 (x1 c : Int) (hc : 1 ≤ c ∧ c ≤ 11) (k : Nat) (hk : 5 ≤ k) : synopticlaw14_LimitsNarrow.j1 k x1 c (limLo c) (limHi c) false = some true := by
  obtain ⟨k, rfl⟩ : ∃ m, k = m + 3 + 1 := ⟨k - 4, by omega⟩
  have hg := gross_in c x1 hc
  generalize limLo c = L at *
  generalize limHi c = H at *
  rw [synopticlaw14_LimitsNarrow.j1, if_neg (by decide), limits_Gross.f, hg]
  refine Eq.trans (Option.bind_some _ _) ?_
  rw [awake_some]
  by_cases h : x1 ≥ L
  · rw [if_pos h, decide_eq_true (p := L ≤ x1) h, Bool.true_and, if_pos (by simp)]
    rfl
  · rw [if_neg h, decide_eq_false (p := L ≤ x1) (by omega), Bool.false_and, if_pos (by decide)]
    rfl
theorem narrow_pure : synopticlaw14_LimitsNarrow.Pure := by
  intro a b _ _
  obtain ⟨t, ht, h0, h1⟩ : ∃ t, synoptickeep_Mod.f a 11 = some t ∧ 0 ≤ t ∧ t ≤ 10 := by
    have hb := Int.tmod_lt_of_pos a (show (0 : Int) < 11 by decide)
    have hb2 : -11 < Int.tmod a 11 := by
      rw [Int.tmod_eq_emod]
      split <;> omega
    unfold synoptickeep_Mod.f
    rw [if_neg (by decide), if_neg (by decide)]
    generalize Int.tmod a 11 = m at hb hb2 ⊢
    split
    · exact ⟨_, rfl, by unfold wrap64; omega, by unfold wrap64; omega⟩
    · exact ⟨_, rfl, by omega, by omega⟩
  have hw : wrap64 (1 + t) = 1 + t := by unfold wrap64; omega
  obtain ⟨s, lo, hi, d, hd, q1, q2, q3, q4, q5⟩ := desc_some (1 + t) (by omega)
  have hl := narrow_l0 b (1 + t) (by omega) s lo hi d q1 q2 q3 q4 q5 (some true) 5 (fun k hk => narrow_j1 b (1 + t) (by omega) k hk) (hi + 3 - lo).toNat (lo - 1) (by omega) (by omega) (5 + (hi + 3 - lo).toNat + 1) (by omega)
  have w1 : wrap64 (hi + 1) = hi + 1 := by clear hw; unfold wrap64; omega
  have w2 : wrap64 (lo - 1) = lo - 1 := by clear hw w1; unfold wrap64; omega
  have e1 : soLo (limLo (1 + t)) (limHi (1 + t)) hi (lo - 1) = hi + 1 := by unfold soLo; rw [if_pos (Int.le_trans (Int.sub_le_self _ (by decide)) q2)]
  have e2 : soHi (limLo (1 + t)) (limHi (1 + t)) lo (lo - 1) = lo - 1 := by unfold soHi; rw [if_pos (Int.le_trans (Int.sub_le_self _ (by decide)) q2)]
  rw [e1, e2] at hl
  refine ⟨5 + (hi + 3 - lo).toNat + 1, ?_⟩
  unfold synopticlaw14_LimitsNarrow.f
  rw [ht]
  refine Eq.trans (Option.bind_some _ _) ?_
  rw [hw, hd]
  refine Eq.trans (Option.bind_some _ _) ?_
  dsimp only
  rw [w1, w2]
  exact hl
end Go.Proofs.YtbnkcajdgmbidaaDoor.B
