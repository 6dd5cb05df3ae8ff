/- A row of whole numbers that came in, told by what it leads to. -/
import Derived.Test.YtcgjgpdandjicaaB1
namespace Go.Proofs.Ytcgjgpdandjicaa.B
open Go.RowKit Go.Proofs.YtcgjgpdandjicaaW.PrintWords Go.Proofs.YtcgjgpdandjicaaW.PrintLast Go.Proofs.YtcgjgpdandjicaaW.PrintMore
theorem V_of_C {k : IntKind} {w : World} {A : Option Addr} {c : Nat} {l : List Int} {e base : Nat} (hr : Kd.C (Kd.int k) w A l.length l) (hc : l.length ≤ c) : Kd.V (Kd.int k) e w base (fun _ => True) (.slice A l.length c) l :=
  Kd.V_mk hc fun _ hW => (Kd.heap_int k).C (fun k hk => hW k trivial hk) hr
end Go.Proofs.Ytcgjgpdandjicaa.B
