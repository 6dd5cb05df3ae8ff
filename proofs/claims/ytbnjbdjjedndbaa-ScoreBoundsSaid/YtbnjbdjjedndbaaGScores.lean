/- The eight scores in the form that the printed laws use. -/
import Derived.Test.YtbnjbdjjedndbaaScores
namespace Go.Proofs.Ytbnjbdjjedndbaa.B
open Go.RowKit Go.Proofs.YtbnjbdjjedndbaaW.PrintWords Go.Proofs.YtbnjbdjjedndbaaW.PrintLast Go.Proofs.YtbnjbdjjedndbaaW.PrintMore
def score_Detection.f (a0_0 a0_1 a0_2 a0_3 : Int) : Option (Int × Int × Int) := some (detR a0_0 a0_1 a0_2 a0_3)
theorem score_Detection.calls (a0_0 a0_1 a0_2 a0_3 r1 r2 r3 : Int) (w : World) (h : score_Detection.f a0_0 a0_1 a0_2 a0_3 = some (r1, r2, r3)) :
    Calls Try.prog 11 #[.agg #[.int .i64 a0_0, .int .i64 a0_1, .int .i64 a0_2, .int .i64 a0_3]] w fun e w' => e = .returned (.tuple #[.agg #[.int .i64 r1, .int .i64 r2], .int .i64 r3]) ∧ Below w.heap.size w w' :=
  s11_is _ _ _ _ _ _ _ (Option.some.inj h) w
def synopticref38_Detection.f (a0_0 a0_1 a0_2 a0_3 : Int) : Option (Int × Int × Int) := some (detR a0_0 a0_1 a0_2 a0_3)
theorem synopticref38_Detection.calls (a0_0 a0_1 a0_2 a0_3 r1 r2 r3 : Int) (w : World) (h : synopticref38_Detection.f a0_0 a0_1 a0_2 a0_3 = some (r1, r2, r3)) :
    Calls Try.prog 12 #[.agg #[.int .i64 a0_0, .int .i64 a0_1, .int .i64 a0_2, .int .i64 a0_3]] w fun e w' => e = .returned (.tuple #[.agg #[.int .i64 r1, .int .i64 r2], .int .i64 r3]) ∧ Below w.heap.size w w' :=
  s12_is _ _ _ _ _ _ _ (Option.some.inj h) w
def score_FalseAlarm.f (a0_0 a0_1 a0_2 a0_3 : Int) : Option (Int × Int × Int) := some (falR a0_0 a0_1 a0_2 a0_3)
theorem score_FalseAlarm.calls (a0_0 a0_1 a0_2 a0_3 r1 r2 r3 : Int) (w : World) (h : score_FalseAlarm.f a0_0 a0_1 a0_2 a0_3 = some (r1, r2, r3)) :
    Calls Try.prog 13 #[.agg #[.int .i64 a0_0, .int .i64 a0_1, .int .i64 a0_2, .int .i64 a0_3]] w fun e w' => e = .returned (.tuple #[.agg #[.int .i64 r1, .int .i64 r2], .int .i64 r3]) ∧ Below w.heap.size w w' :=
  s13_is _ _ _ _ _ _ _ (Option.some.inj h) w
def synopticref38_FalseAlarm.f (a0_0 a0_1 a0_2 a0_3 : Int) : Option (Int × Int × Int) := some (falR a0_0 a0_1 a0_2 a0_3)
theorem synopticref38_FalseAlarm.calls (a0_0 a0_1 a0_2 a0_3 r1 r2 r3 : Int) (w : World) (h : synopticref38_FalseAlarm.f a0_0 a0_1 a0_2 a0_3 = some (r1, r2, r3)) :
    Calls Try.prog 14 #[.agg #[.int .i64 a0_0, .int .i64 a0_1, .int .i64 a0_2, .int .i64 a0_3]] w fun e w' => e = .returned (.tuple #[.agg #[.int .i64 r1, .int .i64 r2], .int .i64 r3]) ∧ Below w.heap.size w w' :=
  s14_is _ _ _ _ _ _ _ (Option.some.inj h) w
def score_Threat.f (a0_0 a0_1 a0_2 a0_3 : Int) : Option (Int × Int × Int) := some (thrR a0_0 a0_1 a0_2 a0_3)
theorem score_Threat.calls (a0_0 a0_1 a0_2 a0_3 r1 r2 r3 : Int) (w : World) (h : score_Threat.f a0_0 a0_1 a0_2 a0_3 = some (r1, r2, r3)) :
    Calls Try.prog 15 #[.agg #[.int .i64 a0_0, .int .i64 a0_1, .int .i64 a0_2, .int .i64 a0_3]] w fun e w' => e = .returned (.tuple #[.agg #[.int .i64 r1, .int .i64 r2], .int .i64 r3]) ∧ Below w.heap.size w w' :=
  s15_is _ _ _ _ _ _ _ (Option.some.inj h) w
def synopticref38_Threat.f (a0_0 a0_1 a0_2 a0_3 : Int) : Option (Int × Int × Int) := some (thrR a0_0 a0_1 a0_2 a0_3)
theorem synopticref38_Threat.calls (a0_0 a0_1 a0_2 a0_3 r1 r2 r3 : Int) (w : World) (h : synopticref38_Threat.f a0_0 a0_1 a0_2 a0_3 = some (r1, r2, r3)) :
    Calls Try.prog 16 #[.agg #[.int .i64 a0_0, .int .i64 a0_1, .int .i64 a0_2, .int .i64 a0_3]] w fun e w' => e = .returned (.tuple #[.agg #[.int .i64 r1, .int .i64 r2], .int .i64 r3]) ∧ Below w.heap.size w w' :=
  s16_is _ _ _ _ _ _ _ (Option.some.inj h) w
def score_Heidke.f (a0_0 a0_1 a0_2 a0_3 : Int) : Option (Int × Int × Int) := some (heiR a0_0 a0_1 a0_2 a0_3)
theorem score_Heidke.calls (a0_0 a0_1 a0_2 a0_3 r1 r2 r3 : Int) (w : World) (h : score_Heidke.f a0_0 a0_1 a0_2 a0_3 = some (r1, r2, r3)) :
    Calls Try.prog 17 #[.agg #[.int .i64 a0_0, .int .i64 a0_1, .int .i64 a0_2, .int .i64 a0_3]] w fun e w' => e = .returned (.tuple #[.agg #[.int .i64 r1, .int .i64 r2], .int .i64 r3]) ∧ Below w.heap.size w w' :=
  s17_is _ _ _ _ _ _ _ (Option.some.inj h) w
def synopticref38_Heidke.f (a0_0 a0_1 a0_2 a0_3 : Int) : Option (Int × Int × Int) := some (heiR a0_0 a0_1 a0_2 a0_3)
theorem synopticref38_Heidke.calls (a0_0 a0_1 a0_2 a0_3 r1 r2 r3 : Int) (w : World) (h : synopticref38_Heidke.f a0_0 a0_1 a0_2 a0_3 = some (r1, r2, r3)) :
    Calls Try.prog 18 #[.agg #[.int .i64 a0_0, .int .i64 a0_1, .int .i64 a0_2, .int .i64 a0_3]] w fun e w' => e = .returned (.tuple #[.agg #[.int .i64 r1, .int .i64 r2], .int .i64 r3]) ∧ Below w.heap.size w w' :=
  s18_is _ _ _ _ _ _ _ (Option.some.inj h) w
end Go.Proofs.Ytbnjbdjjedndbaa.B
