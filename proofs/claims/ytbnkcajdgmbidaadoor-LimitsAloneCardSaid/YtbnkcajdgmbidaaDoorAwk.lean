/- The sanity check of the statements of chapter 14 answers true. -/
import Derived.Test.YtbnkcajdgmbidaaDoorBA
import Derived.KernelRfl
namespace Go.Proofs.YtbnkcajdgmbidaaDoor.B
open Go.RowKit Go.Proofs.YtbnkcajdgmbidaaDoorW.PrintWords Go.Proofs.YtbnkcajdgmbidaaDoorW.PrintLast Go.Proofs.YtbnkcajdgmbidaaDoorW.PrintMore
set_option linter.unusedVariables false
set_option linter.unusedSimpArgs false
theorem asc_self {l : List Int} (h : l.Pairwise (fun a b => decide (a ≤ b) = true)) : asc l = l := by
  unfold asc
  exact List.mergeSort_of_pairwise h
theorem check_awake1 : checkR [(⟨2, 2800⟩ : S30), (⟨3, 2810⟩ : S30)] = [2, 3] := by
  have e : rej [(⟨2, 2800⟩ : S30), (⟨3, 2810⟩ : S30)] ++ wetL (cmpd [(⟨2, 2800⟩ : S30), (⟨3, 2810⟩ : S30)] 2) (cmpd [(⟨2, 2800⟩ : S30), (⟨3, 2810⟩ : S30)] 3) (fnd [(⟨2, 2800⟩ : S30), (⟨3, 2810⟩ : S30)] 2).1 (fnd [(⟨2, 2800⟩ : S30), (⟨3, 2810⟩ : S30)] 3).1 ++ stormL (cmpd [(⟨2, 2800⟩ : S30), (⟨3, 2810⟩ : S30)] 4) (cmpd [(⟨2, 2800⟩ : S30), (⟨3, 2810⟩ : S30)] 5) (fnd [(⟨2, 2800⟩ : S30), (⟨3, 2810⟩ : S30)] 4).1 (fnd [(⟨2, 2800⟩ : S30), (⟨3, 2810⟩ : S30)] 5).1 = [2, 3] := by kernel_rfl
  unfold checkR
  rw [e, asc_self (l := [2, 3]) (by decide)]
  rfl
theorem check_awake2 : checkR [(⟨2, 2800⟩ : S30), (⟨3, 2800⟩ : S30)] = [] := by
  have e : rej [(⟨2, 2800⟩ : S30), (⟨3, 2800⟩ : S30)] ++ wetL (cmpd [(⟨2, 2800⟩ : S30), (⟨3, 2800⟩ : S30)] 2) (cmpd [(⟨2, 2800⟩ : S30), (⟨3, 2800⟩ : S30)] 3) (fnd [(⟨2, 2800⟩ : S30), (⟨3, 2800⟩ : S30)] 2).1 (fnd [(⟨2, 2800⟩ : S30), (⟨3, 2800⟩ : S30)] 3).1 ++ stormL (cmpd [(⟨2, 2800⟩ : S30), (⟨3, 2800⟩ : S30)] 4) (cmpd [(⟨2, 2800⟩ : S30), (⟨3, 2800⟩ : S30)] 5) (fnd [(⟨2, 2800⟩ : S30), (⟨3, 2800⟩ : S30)] 4).1 (fnd [(⟨2, 2800⟩ : S30), (⟨3, 2800⟩ : S30)] 5).1 = [] := by kernel_rfl
  unfold checkR
  rw [e, asc_self (l := []) (by decide)]
  rfl
theorem check_awake3 : checkR [(⟨4, 700⟩ : S30), (⟨5, 700⟩ : S30)] = [4, 5] := by
  have e : rej [(⟨4, 700⟩ : S30), (⟨5, 700⟩ : S30)] ++ wetL (cmpd [(⟨4, 700⟩ : S30), (⟨5, 700⟩ : S30)] 2) (cmpd [(⟨4, 700⟩ : S30), (⟨5, 700⟩ : S30)] 3) (fnd [(⟨4, 700⟩ : S30), (⟨5, 700⟩ : S30)] 2).1 (fnd [(⟨4, 700⟩ : S30), (⟨5, 700⟩ : S30)] 3).1 ++ stormL (cmpd [(⟨4, 700⟩ : S30), (⟨5, 700⟩ : S30)] 4) (cmpd [(⟨4, 700⟩ : S30), (⟨5, 700⟩ : S30)] 5) (fnd [(⟨4, 700⟩ : S30), (⟨5, 700⟩ : S30)] 4).1 (fnd [(⟨4, 700⟩ : S30), (⟨5, 700⟩ : S30)] 5).1 = [4, 5] := by kernel_rfl
  unfold checkR
  rw [e, asc_self (l := [4, 5]) (by decide)]
  rfl
theorem ints_two (k : Nat) (a b : Int) : synoptickeep_Ints.f (k + 3) [a, b] [a, b] = some true := by
  unfold synoptickeep_Ints.f
  rw [if_pos rfl]
  have h0 : wrap64 (0 + 1) = 1 := by unfold wrap64; omega
  have h1 : wrap64 (1 + 1) = 2 := by unfold wrap64; omega
  rw [synoptickeep_Ints.l0, if_pos (by simp), if_pos (by decide), if_pos (by simp), if_pos rfl, h0]
  rw [synoptickeep_Ints.l0, if_pos (by simp), if_pos (by decide), if_pos (by simp), if_pos rfl, h1]
  rw [synoptickeep_Ints.l0, if_neg (by simp)]
theorem awake_some (k : Nat) : synopticlaw14_awake.f (k + 3) = some true := by
  unfold synopticlaw14_awake.f limits_Check.f
  rw [if_pos (by decide), if_pos (by decide), if_pos (by decide), check_awake1, check_awake2, check_awake3]
  refine Eq.trans (Option.bind_some _ _) (Eq.trans (Option.bind_some _ _) (Eq.trans (Option.bind_some _ _) ?_))
  rw [ints_two]
  refine Eq.trans (Option.bind_some _ _) ?_
  rw [if_pos rfl, if_pos (by decide), ints_two]
  rfl
end Go.Proofs.YtbnkcajdgmbidaaDoor.B
