/- slices.Grow of a nil slice: an empty slice with some capacity. -/
import Derived.Test.YtcgjgpdandjicaaB1
namespace Go.Proofs.Ytcgjgpdandjicaa.B
open Go.RowKit Go.Proofs.YtcgjgpdandjicaaW.PrintWords Go.Proofs.YtcgjgpdandjicaaW.PrintLast Go.Proofs.YtcgjgpdandjicaaW.PrintMore
set_option linter.unusedVariables false
set_option linter.unusedSimpArgs false

def slices_Grow_int_int.f (l : List Int) (n : Int) : Option (List Int) := if l = [] ∧ 0 ≤ n ∧ n ≤ 1000000000 then some [] else none
set_option maxRecDepth 100000 in
theorem slices_Grow_int_int.calls (A0 : Option Addr) (c0 : Nat) (l0 : List Int) (a1 : Int) (r1 : List Int) (w : World) (hA : A0 = none) (hc : c0 = 0) (h : slices_Grow_int_int.f l0 a1 = some r1) :
    Calls Try.prog 59 #[.slice A0 l0.length c0, .int .i64 a1] w fun e w' => ∃ v0_ : Value, e = .returned v0_ ∧ Kd.R (Kd.int .i64) 3 w' w.heap.size (fun _ => True) v0_ r1 ∧ Below w.heap.size w w' := by
  unfold slices_Grow_int_int.f at h
  split at h
  case isFalse => cases h
  case isTrue c =>
    obtain ⟨rfl, h0, h1⟩ := c
    obtain rfl := Option.some.inj h
    subst hA hc
    clear h
    by_cases hz : a1 = 0
    · subst hz
      go_enter Try.func59, Try.ntmps59
      go_wp2_with fail
      go_ret
      exact ⟨_, rfl, Kd.R_nil _ _ _ _ _, Below.refl _ _⟩
    · have hp : 0 < a1 := by omega
      clear hz
      go_enter Try.func59, Try.ntmps59
      go_wp2_with (first | (at_builtin; refine Kd.R_append_zeros (Kd.int .i64) (w0 := w) w.heap.size rfl (.tmp 20) (.tmp 21) 24 3 3 (.int .i64 0) 8 rfl Try.underlying24 Try.underlying3 info3 rfl (by decide) (by omega) (.slice none 0 0) ([] : List Int) 0 (a1 : Int) (fun _ => True) rfl rfl rfl (fun _ _ => trivial) (Kd.R_nil _ _ _ _ _) (by omega) (Below.refl _ _) (Nat.le_refl _) (by simp; omega) ?_; intro v1 w1 ho hb hg hat; clear hg hat; rw [List.nil_append] at ho; obtain ⟨A9, c9, e9⟩ := Kd.R_slice ho; rw [List.length_replicate] at e9; subst e9; obtain ⟨i0, hi0, _, _, _⟩ := info_parts info3; have hc9 := (Kd.R_reads' ho).2.1; have HO := Aside0.mk ho; have HB := Aside0.mk hb; have hcut := cut_to (P := Try.prog) 24 3 .i64 Try.underlying24 hi0 A9 a1.toNat c9 0 (by omega) (by omega) hc9; clear ho hb hi0))
      go_ret
      exact ⟨_, rfl, Kd.R_take (m := 0) HO.out (Nat.zero_le _), HB.out⟩
end Go.Proofs.Ytcgjgpdandjicaa.B
