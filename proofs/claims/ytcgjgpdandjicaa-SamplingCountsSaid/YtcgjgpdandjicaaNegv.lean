/- Two contracts that other texts lean on: Negate (never met), and a row that came in. -/
import Derived.Test.YtcgjgpdandjicaaB1
namespace Go.Proofs.Ytcgjgpdandjicaa.B
open Go.RowKit Go.Proofs.YtcgjgpdandjicaaW.PrintWords Go.Proofs.YtcgjgpdandjicaaW.PrintLast Go.Proofs.YtcgjgpdandjicaaW.PrintMore
set_option linter.unusedVariables false
def synopticref22_Negate.f (a0 a1 : Int) : Option (Int × Int) := none
theorem synopticref22_Negate.calls (a0_0 a0_1 r1 r2 : Int) (w : World) (h : synopticref22_Negate.f a0_0 a0_1 = some (r1, r2)) :
    Calls Try.prog 72 #[.agg #[.int .i64 a0_0, .int .u64 a0_1]] w fun e w' => e = .returned (.agg #[.int .i64 r1, .int .u64 r2]) ∧ Below w.heap.size w w' := by
  cases h
end Go.Proofs.Ytcgjgpdandjicaa.B
namespace Go.Proofs.Ytcgjgpdandjicaa.B
open Go.RowKit Go.Proofs.YtcgjgpdandjicaaW.PrintWords Go.Proofs.YtcgjgpdandjicaaW.PrintLast Go.Proofs.YtcgjgpdandjicaaW.PrintMore
theorem V_of_C {k : IntKind} {w : World} {A : Option Addr} {c : Nat} {l : List Int} {e base : Nat} (hr : Kd.C (Kd.int k) w A l.length l) (hc : l.length ≤ c) : Kd.V (Kd.int k) e w base (fun _ => True) (.slice A l.length c) l :=
  Kd.V_mk hc fun _ hW => (Kd.heap_int k).C (fun k hk => hW k trivial hk) hr
end Go.Proofs.Ytcgjgpdandjicaa.B
