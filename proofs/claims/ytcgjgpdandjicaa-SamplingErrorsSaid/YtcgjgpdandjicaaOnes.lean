/- bits.OnesCount of a choice counts the chosen elements. -/
import Derived.Test.YtcgjgpdandjicaaBO
import Derived.Test.YtcgjgpdandjicaaDevs
namespace Go.Proofs.Ytcgjgpdandjicaa.B
open Go.RowKit Go.Proofs.YtcgjgpdandjicaaW.PrintWords Go.Proofs.YtcgjgpdandjicaaW.PrintLast Go.Proofs.YtcgjgpdandjicaaW.PrintMore
open Go.Proofs.Ytcgjgpdandjicaa.Smp
set_option linter.unusedVariables false
set_option linter.unusedSimpArgs false

def onesOk (c : Nat) : Bool := bits_OnesCount.f (c : Int) == some ((ones 12 c : Nat) : Int)
set_option maxRecDepth 100000 in
theorem onesOk_all : (List.range 4096).all onesOk = true := by decide +kernel
theorem ones_f (c : Nat) (h : c < 4096) : bits_OnesCount.f (c : Int) = some ((ones 12 c : Nat) : Int) := by
  have := List.all_eq_true.1 onesOk_all c (List.mem_range.2 h)
  simpa [onesOk] using this
theorem ones_zero : ∀ n, ones n 0 = 0
  | 0 => rfl
  | n + 1 => by simp [ones, ones_zero n]
theorem ones_step : ∀ (n c : Nat), c < 2 ^ n → ones (n + 1) c = ones n c
  | 0, c, h => by
    have : c = 0 := by simpa using h
    subst this; rfl
  | n + 1, c, h => by
    rw [ones, ones_step n (c / 2) (by rw [Nat.pow_succ] at h; omega)]; rfl
theorem ones_more (n c : Nat) (h : c < 2 ^ n) : ∀ d, ones (n + d) c = ones n c
  | 0 => rfl
  | d + 1 => by rw [← Nat.add_assoc, ones_step (n + d) c (Nat.lt_of_lt_of_le h (Nat.pow_le_pow_right (by decide) (by omega))), ones_more n c h d]
theorem ones_any (n c : Nat) (hn : n ≤ 12) (h : c < 2 ^ n) (x : Int) (hx : x = (c : Int)) (w : World) :
    Calls Try.prog 44 #[.int .u64 x] w fun e w' => e = .returned (.int .i64 ((ones n c : Nat) : Int)) ∧ Drawn0 w w' := by
  subst hx
  have h2 : c < 4096 := Nat.lt_of_lt_of_le h (Nat.pow_le_pow_right (n := 2) (by decide) hn)
  have e := ones_more n c h (12 - n)
  rw [show n + (12 - n) = 12 by omega] at e
  rw [← e]
  exact bits_OnesCount.calls c _ w (ones_f c h2)
end Go.Proofs.Ytcgjgpdandjicaa.B
