/- slices.Concat of two slices. -/
import Derived.Test.YtcgjgpdandjicaaBG
namespace Go.Proofs.Ytcgjgpdandjicaa.B
open Go.RowKit Go.Proofs.YtcgjgpdandjicaaW.PrintWords Go.Proofs.YtcgjgpdandjicaaW.PrintLast Go.Proofs.YtcgjgpdandjicaaW.PrintMore
set_option linter.unusedVariables false
set_option linter.unusedSimpArgs false

theorem concat_two (a b : List Int) (h : a.length + b.length ≤ 1000000000) : slices_Concat_int_int.f 6 [a, b] = some (a ++ b) := by
  unfold slices_Concat_int_int.f
  have e0 : rd_L2 [a, b] 0 = a := rfl
  have e1 : rd_L2 [a, b] 1 = b := rfl
  have w0 : wrap64 (0 + (a.length : Int)) = (a.length : Int) := by unfold wrap64; omega
  have w1 : wrap64 ((a.length : Int) + (b.length : Int)) = (a.length : Int) + (b.length : Int) := by unfold wrap64; omega
  have w2 : wrap64 (0 + 1) = 1 := by unfold wrap64; omega
  have w3 : wrap64 (1 + 1) = 2 := by unfold wrap64; omega
  have hl : (([a, b] : List (List Int)).length : Int) = 2 := rfl
  simp only [slices_Concat_int_int.l0, hl, w2, w3, e0, e1, w0, w1]
  rw [if_pos (by omega), if_pos (by omega), if_pos (by omega), if_neg (by omega), if_pos (by omega), if_pos (by omega), if_pos (by omega), if_neg (by omega), if_neg (by omega)]
  unfold slices_Grow_int_int.f
  rw [if_pos ⟨rfl, by omega, by omega⟩]
  refine Eq.trans (Option.bind_some _ _) ?_
  simp only [slices_Concat_int_int.l1, hl, w2, w3, e0, e1]
  rw [if_pos (by omega), if_pos (by omega), if_pos (by omega), if_pos (by simp only [List.length_nil]; omega), if_pos (by omega), if_pos (by omega), if_pos (by omega), if_pos (by simp only [List.nil_append]; omega), if_neg (by omega), List.nil_append]
/-- Concat of two slices: a new slice of both. -/
theorem concat_any (X : Option Addr) (cx : Nat) (a b : List Int) (h : a.length + b.length ≤ 1000000000) (w : World) (hr : Kd.C (Kd.slice 3 (Kd.int .i64)) w X 2 [a, b]) (hc : 2 ≤ cx) :
    Calls Try.prog 42 #[.slice X 2 cx] w fun e w' => ∃ v0_ : Value, e = .returned (v0_) ∧ Kd.R (Kd.int .i64) 3 w' w.heap.size (fun _ => True) v0_ (a ++ b) ∧ Below w.heap.size w w' :=
  slices_Concat_int_int.calls 6 X cx [a, b] _ w hr hc (concat_two a b h)
end Go.Proofs.Ytcgjgpdandjicaa.B
