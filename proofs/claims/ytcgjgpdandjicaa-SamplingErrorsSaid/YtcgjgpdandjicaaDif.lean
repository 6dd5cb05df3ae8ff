/- The function value of Exchange: how far a choice lies from its share. -/
import Derived.BigQuiet
import Derived.Deep.QuietTactic
import Derived.Test.YtcgjgpdandjicaaSigns
namespace Go.Proofs.Ytcgjgpdandjicaa.B
open Go.RowKit Go.Proofs.YtcgjgpdandjicaaW.PrintWords Go.Proofs.YtcgjgpdandjicaaW.PrintLast Go.Proofs.YtcgjgpdandjicaaW.PrintMore
open Go.Proofs.Ytcgjgpdandjicaa.Smp
set_option linter.unusedVariables false
set_option linter.unusedSimpArgs false

theorem mul_bound {x : Int} {n : Nat} (h0 : -12000000 ≤ x) (h1 : x ≤ 12000000) (hn : n ≤ 12) : -144000000 ≤ x * (n : Int) ∧ x * (n : Int) ≤ 144000000 := by
  constructor
  · have := Int.mul_le_mul_of_nonneg_right h0 (show (0 : Int) ≤ n by omega); omega
  · have := Int.mul_le_mul_of_nonneg_right h1 (show (0 : Int) ≤ n by omega); omega
set_option maxHeartbeats 2000000 in
theorem dif_any (g h0 : Nat) (A L : Option Addr) (na ca N cL c : Nat) (l : List Int) (T : Int) (hN : l.length = N) (hN2 : N ≤ 12) (hna : na ≤ 12) (hf : Fine l) (hT : total l = T) (hc : c < 18446744073709551616) (x : Int) (hx : x = (c : Int)) (hcL : N ≤ cL) (W : World)
    (h6 : W.cell? ⟨g, 0, none⟩ = some (.slice L N cL)) (h7 : W.cell? ⟨g + 1, 0, none⟩ = some (.int .i64 T)) (h2 : W.cell? ⟨h0, 0, none⟩ = some (.slice A na ca)) (hr : Kd.C (Kd.int .i64) W L N l) :
    Calls Try.prog 43 #[.int .u64 x, .pointer (some ⟨g, 0, none⟩), .pointer (some ⟨g + 1, 0, none⟩), .pointer (some ⟨h0, 0, none⟩)] W fun e w' => e = .returned (.int .i64 (ab (chosen l c * N - T * na))) ∧ Drawn0 W w' := by
  have b1 := chosen_bound l hf c
  have b2 := total_bound l hf
  rw [hN] at b1 b2
  rw [hT] at b2
  have m1 := mul_bound (x := chosen l c) (n := N) (by omega) (by omega) hN2
  have m2 := mul_bound (x := T) (n := na) (by omega) (by omega) hna
  have HV := Aside0.mk (show IntKind.i64.wrap (IntKind.i64.wrap (chosen l c * N) - IntKind.i64.wrap (T * na)) = chosen l c * N - T * na by rw [IntWalk.i64_in (chosen l c * N) (by omega), IntWalk.i64_in (T * na) (by omega), IntWalk.i64_in _ (by omega)])
  have HN := Aside0.mk hN
  have HF := Aside0.mk hf
  have HX := Aside0.mk hx
  have HR := Aside0.mk hr
  clear hN hf hT hx hr b1 b2
  go_enter Try.func43, Try.ntmps43
  go_wp2
  go_quiet ((first | (go_at_call 31; exact Calls.quiet_of ((chosen_any L N c cL l HN.out (by omega) HF.out hc x HX.out _ (Kd.C_drewN HR.out _) hcL).mono fun _ _ ⟨h, k⟩ => ⟨h, k.out⟩)) | (go_at_call 33; exact Calls.quiet_of ((absolute_ab _ (by rw [HV.out]; omega) (by rw [HV.out]; omega) _).mono fun _ _ ⟨h, k⟩ => ⟨h, k.out⟩))))
  go_wp2
  go_ret
  exact ⟨by first | rfl | (rw [HV.out]; rfl), ⟨⟨_, rfl⟩⟩⟩
end Go.Proofs.Ytcgjgpdandjicaa.B
