/- Made by our program mkbase.py out of the printed functions of this seat: LCounts. -/
import Derived.Test.YtcgjgpdandjicaaB1
import Derived.Test.YtcgjgpdandjicaaBC
import Derived.Test.YtcgjgpdandjicaaBW
import Derived.Test.YtcgjgpdandjicaaBL
import Derived.Test.YtcgjgpdandjicaaBS
import Derived.Test.YtcgjgpdandjicaaNegv
import Derived.Test.YtcgjgpdandjicaaMedA
import Derived.Test.YtcgjgpdandjicaaKeep
namespace Go.Proofs.Ytcgjgpdandjicaa.B
open Go.RowKit Go.Proofs.YtcgjgpdandjicaaW.PrintWords Go.Proofs.YtcgjgpdandjicaaW.PrintLast Go.Proofs.YtcgjgpdandjicaaW.PrintMore
attribute [local go_sem] max2_int min2_int max_two min_two max_three min_three max_four min_four   -- for this text's walks alone
set_option linter.unusedVariables false
set_option linter.unusedSimpArgs false

attribute [local go_sem high] eqA31 eqA90
/-! ### synopticlaw39_SamplingCounts: function 8 -/
mutual
def synopticlaw39_SamplingCounts.l0 : Nat → Int → List Int → List (S51) → Int → Int → Int → Int → List Int → Int → Option (Bool)
  | 0, _, _, _, _, _, _, _, _, _ => none
  | k + 1, x1, x3, x52, x53, x54, x245000, x245001, x249000, x249001 => if x54 < x53 then (if 0 ≤ x54 then (if x54 < (x52.length : Int) then ((sampling_Choose.f k ((rd_T51 x52 x54).f0) ((rd_T51 x52 x54).f1)).bind fun bt256 => ((synopticref39_Choose.f k ((rd_T51 x52 x54).f0) ((rd_T51 x52 x54).f1)).bind fun bt258 => ((sampling_Tail.f k ((rd_T51 x52 x54).f0) ((rd_T51 x52 x54).f1)).bind fun bt260 => ((synopticref39_Tail.f k ((rd_T51 x52 x54).f0) ((rd_T51 x52 x54).f1)).bind fun bt264 => (if bt256.1 = bt258.1 then (if bt256.2 = bt258.2 then (if (!(bt260.1 == bt264.1) || (!(bt260.2.1 == bt264.2.1))) = true then (none) else (if (bt260.2.2 != bt264.2.2) = true then (none) else (synopticlaw39_SamplingCounts.j1 k x1 x3 x52 x53 x54 false x245000 x245001 x249000 x249001 ((rd_T51 x52 x54).f0) ((rd_T51 x52 x54).f1)))) else (none)) else (none)))))) else (none)) else (none)) else (some true)
def synopticlaw39_SamplingCounts.j1 : Nat → Int → List Int → List (S51) → Int → Int → Bool → Int → Int → List Int → Int → Int → Int → Option (Bool)
  | 0, _, _, _, _, _, _, _, _, _, _, _, _ => none
  | k + 1, x1, x3, x52, x53, x54, x107, x245000, x245001, x249000, x249001, x256000, x256001 => if x107 = true then (none) else ((synopticlaw39_level.f k x1).bind fun bt268 => ((some (([(⟨x245000, x245001⟩ : S31), (⟨bt268.1, bt268.2⟩ : S31), (⟨2, 4⟩ : S31), (⟨1, 1⟩ : S31), (⟨0, 1⟩ : S31)] : List (S31)) : List (S31))).bind fun y270 => (synopticlaw39_SamplingCounts.l1 k x1 x3 x52 x53 x54 y270 (y270.length : Int) 0 x245000 x245001 x249000 x249001 x256000 x256001)))
def synopticlaw39_SamplingCounts.l1 : Nat → Int → List Int → List (S51) → Int → Int → List (S31) → Int → Int → Int → Int → List Int → Int → Int → Int → Option (Bool)
  | 0, _, _, _, _, _, _, _, _, _, _, _, _, _, _ => none
  | k + 1, x1, x3, x52, x53, x54, x114, x115, x116, x245000, x245001, x249000, x249001, x256000, x256001 => if x116 < x115 then (if 0 ≤ x116 then (if x116 < (x114.length : Int) then ((sampling_Ranks.f k x256000 ((rd_T31 x114 x116).f0) ((rd_T31 x114 x116).f1)).bind fun bt275 => ((synopticref39_Ranks.f k x256000 ((rd_T31 x114 x116).f0) ((rd_T31 x114 x116).f1)).bind fun bt277 => (if bt275.1 = bt277.1 then (if (bt275.2 != bt277.2) = true then (none) else (synopticlaw39_SamplingCounts.j3 k x1 x3 x52 x53 x54 x114 x115 x116 false x245000 x245001 x249000 x249001 x256000 x256001 ((rd_T31 x114 x116).f0) ((rd_T31 x114 x116).f1))) else (none)))) else (none)) else (none)) else (synopticlaw39_SamplingCounts.l0 k x1 x3 x52 x53 (wrap64 (x54 + 1)) x245000 x245001 x249000 x249001)
def synopticlaw39_SamplingCounts.j3 : Nat → Int → List Int → List (S51) → Int → Int → List (S31) → Int → Int → Bool → Int → Int → List Int → Int → Int → Int → Int → Int → Option (Bool)
  | 0, _, _, _, _, _, _, _, _, _, _, _, _, _, _, _, _, _ => none
  | k + 1, x1, x3, x52, x53, x54, x114, x115, x116, x141, x245000, x245001, x249000, x249001, x256000, x256001, x275000, x275001 => if x141 = true then (none) else ((synopticlaw39_sample.f k x249000 x249001 20).bind fun bt279 => ((some (([x3, bt279.1] : List (List Int)) : List (List Int))).bind fun y283 => (synopticlaw39_SamplingCounts.l2 k x1 x3 x52 x53 x54 x114 x115 x116 y283 (y283.length : Int) 0 x245000 x245001 x249000 bt279.2 x256000 x256001 x275000 x275001)))
def synopticlaw39_SamplingCounts.l2 : Nat → Int → List Int → List (S51) → Int → Int → List (S31) → Int → Int → List (List Int) → Int → Int → Int → Int → List Int → Int → Int → Int → Int → Int → Option (Bool)
  | 0, _, _, _, _, _, _, _, _, _, _, _, _, _, _, _, _, _, _, _ => none
  | k + 1, x1, x3, x52, x53, x54, x114, x115, x116, x145, x146, x147, x245000, x245001, x249000, x249001, x256000, x256001, x275000, x275001 => if x147 < x146 then (if 0 ≤ x147 then (if x147 < (x145.length : Int) then ((sampling_Median.f (rd_L4 x145 x147) x275000 x275001).bind fun bt287 => ((synopticref39_Median.f k (rd_L4 x145 x147) x275000 x275001).bind fun bt290 => (if bt287.1 = bt290.1 then (if bt287.2.1 = bt290.2.1 then (if bt287.2.2 = bt290.2.2 then (synopticlaw39_SamplingCounts.l2 k x1 x3 x52 x53 x54 x114 x115 x116 x145 x146 (wrap64 (x147 + 1)) x245000 x245001 x249000 x249001 x256000 x256001 x275000 x275001) else (none)) else (none)) else (none)))) else (none)) else (none)) else (synopticlaw39_SamplingCounts.l1 k x1 x3 x52 x53 x54 x114 x115 (wrap64 (x116 + 1)) x245000 x245001 x249000 x249001 x256000 x256001)
end
def synopticlaw39_SamplingCounts.f (k : Nat) (a0 : Int) (a1 : Int) (a2_0 : Int) (a2_1 : Int) (l3 : List Int) (l4 : List Int) : Option (Bool) := (synopticlaw39_awake.f).bind fun t245 => (if t245 = true then (if (l3.length : Int) > 70 then (some true) else ((synopticfield_New.f l4 120).bind fun bt246 => ((synopticfield_Mod.f a0 63).bind fun t249 => ((synopticfield_Mod.f a1 40).bind fun t250 => ((some (([(⟨a0, a1⟩ : S51), (⟨t249, wrap64 (t250 - 2)⟩ : S51)] : List (S51)) : List (S51))).bind fun y251 => (synopticlaw39_SamplingCounts.l0 k a1 l3 y251 (y251.length : Int) 0 a2_0 a2_1 bt246.1 bt246.2)))))) else (none))
theorem synopticlaw39_SamplingCounts.mono_l : ∀ k, (∀ y0 y1 y2 y3 y4 y5 y6 y7 y8, LeO (synopticlaw39_SamplingCounts.l0 k y0 y1 y2 y3 y4 y5 y6 y7 y8) (synopticlaw39_SamplingCounts.l0 (k + 1) y0 y1 y2 y3 y4 y5 y6 y7 y8)) ∧ (∀ y0 y1 y2 y3 y4 y5 y6 y7 y8 y9 y10 y11, LeO (synopticlaw39_SamplingCounts.j1 k y0 y1 y2 y3 y4 y5 y6 y7 y8 y9 y10 y11) (synopticlaw39_SamplingCounts.j1 (k + 1) y0 y1 y2 y3 y4 y5 y6 y7 y8 y9 y10 y11)) ∧ (∀ y0 y1 y2 y3 y4 y5 y6 y7 y8 y9 y10 y11 y12 y13, LeO (synopticlaw39_SamplingCounts.l1 k y0 y1 y2 y3 y4 y5 y6 y7 y8 y9 y10 y11 y12 y13) (synopticlaw39_SamplingCounts.l1 (k + 1) y0 y1 y2 y3 y4 y5 y6 y7 y8 y9 y10 y11 y12 y13)) ∧ (∀ y0 y1 y2 y3 y4 y5 y6 y7 y8 y9 y10 y11 y12 y13 y14 y15 y16, LeO (synopticlaw39_SamplingCounts.j3 k y0 y1 y2 y3 y4 y5 y6 y7 y8 y9 y10 y11 y12 y13 y14 y15 y16) (synopticlaw39_SamplingCounts.j3 (k + 1) y0 y1 y2 y3 y4 y5 y6 y7 y8 y9 y10 y11 y12 y13 y14 y15 y16)) ∧ (∀ y0 y1 y2 y3 y4 y5 y6 y7 y8 y9 y10 y11 y12 y13 y14 y15 y16 y17 y18, LeO (synopticlaw39_SamplingCounts.l2 k y0 y1 y2 y3 y4 y5 y6 y7 y8 y9 y10 y11 y12 y13 y14 y15 y16 y17 y18) (synopticlaw39_SamplingCounts.l2 (k + 1) y0 y1 y2 y3 y4 y5 y6 y7 y8 y9 y10 y11 y12 y13 y14 y15 y16 y17 y18))
  | 0 => ⟨fun _ _ _ _ _ _ _ _ _ r h => by simp [synopticlaw39_SamplingCounts.l0] at h, fun _ _ _ _ _ _ _ _ _ _ _ _ r h => by simp [synopticlaw39_SamplingCounts.j1] at h, fun _ _ _ _ _ _ _ _ _ _ _ _ _ _ r h => by simp [synopticlaw39_SamplingCounts.l1] at h, fun _ _ _ _ _ _ _ _ _ _ _ _ _ _ _ _ _ r h => by simp [synopticlaw39_SamplingCounts.j3] at h, fun _ _ _ _ _ _ _ _ _ _ _ _ _ _ _ _ _ _ _ r h => by simp [synopticlaw39_SamplingCounts.l2] at h⟩
  | k + 1 => by
    obtain ⟨ih0, ih1, ih2, ih3, ih4⟩ := synopticlaw39_SamplingCounts.mono_l k
    refine ⟨?_, ?_, ?_, ?_, ?_⟩
    · intro y0 y1 y2 y3 y4 y5 y6 y7 y8
      unfold synopticlaw39_SamplingCounts.l0
      repeat' first
      | (with_reducible exact ih0 _ _ _ _ _ _ _ _ _)
      | (with_reducible exact ih1 _ _ _ _ _ _ _ _ _ _ _ _)
      | (with_reducible exact ih2 _ _ _ _ _ _ _ _ _ _ _ _ _ _)
      | (with_reducible exact ih3 _ _ _ _ _ _ _ _ _ _ _ _ _ _ _ _ _)
      | (with_reducible exact ih4 _ _ _ _ _ _ _ _ _ _ _ _ _ _ _ _ _ _ _)
      | (with_reducible exact sampling_Choose.mono _ _ _)
      | (with_reducible exact sampling_Ranks.mono _ _ _ _)
      | (with_reducible exact sampling_Tail.mono _ _ _)
      | (with_reducible exact synopticlaw39_level.mono _ _)
      | (with_reducible exact synopticlaw39_sample.mono _ _ _ _)
      | (with_reducible exact synopticref39_Choose.mono _ _ _)
      | (with_reducible exact synopticref39_Median.mono _ _ _ _)
      | (with_reducible exact synopticref39_Ranks.mono _ _ _ _)
      | (with_reducible exact synopticref39_Tail.mono _ _ _)
      | (with_reducible exact LeO.refl _)
      | (with_reducible exact LeO.none _)
      | (with_reducible refine LeO.ite ?_ ?_)
      | (with_reducible refine LeO.bind ?_ (fun _ => ?_))
      | exact ih0 _ _ _ _ _ _ _ _ _
      | exact ih1 _ _ _ _ _ _ _ _ _ _ _ _
      | exact ih2 _ _ _ _ _ _ _ _ _ _ _ _ _ _
      | exact ih3 _ _ _ _ _ _ _ _ _ _ _ _ _ _ _ _ _
      | exact ih4 _ _ _ _ _ _ _ _ _ _ _ _ _ _ _ _ _ _ _
      | exact sampling_Choose.mono _ _ _
      | exact sampling_Ranks.mono _ _ _ _
      | exact sampling_Tail.mono _ _ _
      | exact synopticlaw39_level.mono _ _
      | exact synopticlaw39_sample.mono _ _ _ _
      | exact synopticref39_Choose.mono _ _ _
      | exact synopticref39_Median.mono _ _ _ _
      | exact synopticref39_Ranks.mono _ _ _ _
      | exact synopticref39_Tail.mono _ _ _
      | exact LeO.none _
      | refine LeO.ite ?_ ?_
      | refine LeO.bind ?_ (fun _ => ?_)
    · intro y0 y1 y2 y3 y4 y5 y6 y7 y8 y9 y10 y11
      unfold synopticlaw39_SamplingCounts.j1
      repeat' first
      | (with_reducible exact ih0 _ _ _ _ _ _ _ _ _)
      | (with_reducible exact ih1 _ _ _ _ _ _ _ _ _ _ _ _)
      | (with_reducible exact ih2 _ _ _ _ _ _ _ _ _ _ _ _ _ _)
      | (with_reducible exact ih3 _ _ _ _ _ _ _ _ _ _ _ _ _ _ _ _ _)
      | (with_reducible exact ih4 _ _ _ _ _ _ _ _ _ _ _ _ _ _ _ _ _ _ _)
      | (with_reducible exact sampling_Choose.mono _ _ _)
      | (with_reducible exact sampling_Ranks.mono _ _ _ _)
      | (with_reducible exact sampling_Tail.mono _ _ _)
      | (with_reducible exact synopticlaw39_level.mono _ _)
      | (with_reducible exact synopticlaw39_sample.mono _ _ _ _)
      | (with_reducible exact synopticref39_Choose.mono _ _ _)
      | (with_reducible exact synopticref39_Median.mono _ _ _ _)
      | (with_reducible exact synopticref39_Ranks.mono _ _ _ _)
      | (with_reducible exact synopticref39_Tail.mono _ _ _)
      | (with_reducible exact LeO.refl _)
      | (with_reducible exact LeO.none _)
      | (with_reducible refine LeO.ite ?_ ?_)
      | (with_reducible refine LeO.bind ?_ (fun _ => ?_))
      | exact ih0 _ _ _ _ _ _ _ _ _
      | exact ih1 _ _ _ _ _ _ _ _ _ _ _ _
      | exact ih2 _ _ _ _ _ _ _ _ _ _ _ _ _ _
      | exact ih3 _ _ _ _ _ _ _ _ _ _ _ _ _ _ _ _ _
      | exact ih4 _ _ _ _ _ _ _ _ _ _ _ _ _ _ _ _ _ _ _
      | exact sampling_Choose.mono _ _ _
      | exact sampling_Ranks.mono _ _ _ _
      | exact sampling_Tail.mono _ _ _
      | exact synopticlaw39_level.mono _ _
      | exact synopticlaw39_sample.mono _ _ _ _
      | exact synopticref39_Choose.mono _ _ _
      | exact synopticref39_Median.mono _ _ _ _
      | exact synopticref39_Ranks.mono _ _ _ _
      | exact synopticref39_Tail.mono _ _ _
      | exact LeO.none _
      | refine LeO.ite ?_ ?_
      | refine LeO.bind ?_ (fun _ => ?_)
    · intro y0 y1 y2 y3 y4 y5 y6 y7 y8 y9 y10 y11 y12 y13
      unfold synopticlaw39_SamplingCounts.l1
      repeat' first
      | (with_reducible exact ih0 _ _ _ _ _ _ _ _ _)
      | (with_reducible exact ih1 _ _ _ _ _ _ _ _ _ _ _ _)
      | (with_reducible exact ih2 _ _ _ _ _ _ _ _ _ _ _ _ _ _)
      | (with_reducible exact ih3 _ _ _ _ _ _ _ _ _ _ _ _ _ _ _ _ _)
      | (with_reducible exact ih4 _ _ _ _ _ _ _ _ _ _ _ _ _ _ _ _ _ _ _)
      | (with_reducible exact sampling_Choose.mono _ _ _)
      | (with_reducible exact sampling_Ranks.mono _ _ _ _)
      | (with_reducible exact sampling_Tail.mono _ _ _)
      | (with_reducible exact synopticlaw39_level.mono _ _)
      | (with_reducible exact synopticlaw39_sample.mono _ _ _ _)
      | (with_reducible exact synopticref39_Choose.mono _ _ _)
      | (with_reducible exact synopticref39_Median.mono _ _ _ _)
      | (with_reducible exact synopticref39_Ranks.mono _ _ _ _)
      | (with_reducible exact synopticref39_Tail.mono _ _ _)
      | (with_reducible exact LeO.refl _)
      | (with_reducible exact LeO.none _)
      | (with_reducible refine LeO.ite ?_ ?_)
      | (with_reducible refine LeO.bind ?_ (fun _ => ?_))
      | exact ih0 _ _ _ _ _ _ _ _ _
      | exact ih1 _ _ _ _ _ _ _ _ _ _ _ _
      | exact ih2 _ _ _ _ _ _ _ _ _ _ _ _ _ _
      | exact ih3 _ _ _ _ _ _ _ _ _ _ _ _ _ _ _ _ _
      | exact ih4 _ _ _ _ _ _ _ _ _ _ _ _ _ _ _ _ _ _ _
      | exact sampling_Choose.mono _ _ _
      | exact sampling_Ranks.mono _ _ _ _
      | exact sampling_Tail.mono _ _ _
      | exact synopticlaw39_level.mono _ _
      | exact synopticlaw39_sample.mono _ _ _ _
      | exact synopticref39_Choose.mono _ _ _
      | exact synopticref39_Median.mono _ _ _ _
      | exact synopticref39_Ranks.mono _ _ _ _
      | exact synopticref39_Tail.mono _ _ _
      | exact LeO.none _
      | refine LeO.ite ?_ ?_
      | refine LeO.bind ?_ (fun _ => ?_)
    · intro y0 y1 y2 y3 y4 y5 y6 y7 y8 y9 y10 y11 y12 y13 y14 y15 y16
      unfold synopticlaw39_SamplingCounts.j3
      repeat' first
      | (with_reducible exact ih0 _ _ _ _ _ _ _ _ _)
      | (with_reducible exact ih1 _ _ _ _ _ _ _ _ _ _ _ _)
      | (with_reducible exact ih2 _ _ _ _ _ _ _ _ _ _ _ _ _ _)
      | (with_reducible exact ih3 _ _ _ _ _ _ _ _ _ _ _ _ _ _ _ _ _)
      | (with_reducible exact ih4 _ _ _ _ _ _ _ _ _ _ _ _ _ _ _ _ _ _ _)
      | (with_reducible exact sampling_Choose.mono _ _ _)
      | (with_reducible exact sampling_Ranks.mono _ _ _ _)
      | (with_reducible exact sampling_Tail.mono _ _ _)
      | (with_reducible exact synopticlaw39_level.mono _ _)
      | (with_reducible exact synopticlaw39_sample.mono _ _ _ _)
      | (with_reducible exact synopticref39_Choose.mono _ _ _)
      | (with_reducible exact synopticref39_Median.mono _ _ _ _)
      | (with_reducible exact synopticref39_Ranks.mono _ _ _ _)
      | (with_reducible exact synopticref39_Tail.mono _ _ _)
      | (with_reducible exact LeO.refl _)
      | (with_reducible exact LeO.none _)
      | (with_reducible refine LeO.ite ?_ ?_)
      | (with_reducible refine LeO.bind ?_ (fun _ => ?_))
      | exact ih0 _ _ _ _ _ _ _ _ _
      | exact ih1 _ _ _ _ _ _ _ _ _ _ _ _
      | exact ih2 _ _ _ _ _ _ _ _ _ _ _ _ _ _
      | exact ih3 _ _ _ _ _ _ _ _ _ _ _ _ _ _ _ _ _
      | exact ih4 _ _ _ _ _ _ _ _ _ _ _ _ _ _ _ _ _ _ _
      | exact sampling_Choose.mono _ _ _
      | exact sampling_Ranks.mono _ _ _ _
      | exact sampling_Tail.mono _ _ _
      | exact synopticlaw39_level.mono _ _
      | exact synopticlaw39_sample.mono _ _ _ _
      | exact synopticref39_Choose.mono _ _ _
      | exact synopticref39_Median.mono _ _ _ _
      | exact synopticref39_Ranks.mono _ _ _ _
      | exact synopticref39_Tail.mono _ _ _
      | exact LeO.none _
      | refine LeO.ite ?_ ?_
      | refine LeO.bind ?_ (fun _ => ?_)
    · intro y0 y1 y2 y3 y4 y5 y6 y7 y8 y9 y10 y11 y12 y13 y14 y15 y16 y17 y18
      unfold synopticlaw39_SamplingCounts.l2
      repeat' first
      | (with_reducible exact ih0 _ _ _ _ _ _ _ _ _)
      | (with_reducible exact ih1 _ _ _ _ _ _ _ _ _ _ _ _)
      | (with_reducible exact ih2 _ _ _ _ _ _ _ _ _ _ _ _ _ _)
      | (with_reducible exact ih3 _ _ _ _ _ _ _ _ _ _ _ _ _ _ _ _ _)
      | (with_reducible exact ih4 _ _ _ _ _ _ _ _ _ _ _ _ _ _ _ _ _ _ _)
      | (with_reducible exact sampling_Choose.mono _ _ _)
      | (with_reducible exact sampling_Ranks.mono _ _ _ _)
      | (with_reducible exact sampling_Tail.mono _ _ _)
      | (with_reducible exact synopticlaw39_level.mono _ _)
      | (with_reducible exact synopticlaw39_sample.mono _ _ _ _)
      | (with_reducible exact synopticref39_Choose.mono _ _ _)
      | (with_reducible exact synopticref39_Median.mono _ _ _ _)
      | (with_reducible exact synopticref39_Ranks.mono _ _ _ _)
      | (with_reducible exact synopticref39_Tail.mono _ _ _)
      | (with_reducible exact LeO.refl _)
      | (with_reducible exact LeO.none _)
      | (with_reducible refine LeO.ite ?_ ?_)
      | (with_reducible refine LeO.bind ?_ (fun _ => ?_))
      | exact ih0 _ _ _ _ _ _ _ _ _
      | exact ih1 _ _ _ _ _ _ _ _ _ _ _ _
      | exact ih2 _ _ _ _ _ _ _ _ _ _ _ _ _ _
      | exact ih3 _ _ _ _ _ _ _ _ _ _ _ _ _ _ _ _ _
      | exact ih4 _ _ _ _ _ _ _ _ _ _ _ _ _ _ _ _ _ _ _
      | exact sampling_Choose.mono _ _ _
      | exact sampling_Ranks.mono _ _ _ _
      | exact sampling_Tail.mono _ _ _
      | exact synopticlaw39_level.mono _ _
      | exact synopticlaw39_sample.mono _ _ _ _
      | exact synopticref39_Choose.mono _ _ _
      | exact synopticref39_Median.mono _ _ _ _
      | exact synopticref39_Ranks.mono _ _ _ _
      | exact synopticref39_Tail.mono _ _ _
      | exact LeO.none _
      | refine LeO.ite ?_ ?_
      | refine LeO.bind ?_ (fun _ => ?_)
theorem synopticlaw39_SamplingCounts.mono : ∀ a0 a1 a2 a3 a4 a5 k, LeO (synopticlaw39_SamplingCounts.f k a0 a1 a2 a3 a4 a5) (synopticlaw39_SamplingCounts.f (k + 1) a0 a1 a2 a3 a4 a5) := by
  intro a0 a1 a2 a3 a4 a5 k
  obtain ⟨ih0, ih1, ih2, ih3, ih4⟩ := synopticlaw39_SamplingCounts.mono_l k
  unfold synopticlaw39_SamplingCounts.f
  repeat' first
      | (with_reducible exact ih0 _ _ _ _ _ _ _ _ _)
      | (with_reducible exact ih1 _ _ _ _ _ _ _ _ _ _ _ _)
      | (with_reducible exact ih2 _ _ _ _ _ _ _ _ _ _ _ _ _ _)
      | (with_reducible exact ih3 _ _ _ _ _ _ _ _ _ _ _ _ _ _ _ _ _)
      | (with_reducible exact ih4 _ _ _ _ _ _ _ _ _ _ _ _ _ _ _ _ _ _ _)
      | (with_reducible exact sampling_Choose.mono _ _ _)
      | (with_reducible exact sampling_Ranks.mono _ _ _ _)
      | (with_reducible exact sampling_Tail.mono _ _ _)
      | (with_reducible exact synopticlaw39_level.mono _ _)
      | (with_reducible exact synopticlaw39_sample.mono _ _ _ _)
      | (with_reducible exact synopticref39_Choose.mono _ _ _)
      | (with_reducible exact synopticref39_Median.mono _ _ _ _)
      | (with_reducible exact synopticref39_Ranks.mono _ _ _ _)
      | (with_reducible exact synopticref39_Tail.mono _ _ _)
      | (with_reducible exact LeO.refl _)
      | (with_reducible exact LeO.none _)
      | (with_reducible refine LeO.ite ?_ ?_)
      | (with_reducible refine LeO.bind ?_ (fun _ => ?_))
      | exact ih0 _ _ _ _ _ _ _ _ _
      | exact ih1 _ _ _ _ _ _ _ _ _ _ _ _
      | exact ih2 _ _ _ _ _ _ _ _ _ _ _ _ _ _
      | exact ih3 _ _ _ _ _ _ _ _ _ _ _ _ _ _ _ _ _
      | exact ih4 _ _ _ _ _ _ _ _ _ _ _ _ _ _ _ _ _ _ _
      | exact sampling_Choose.mono _ _ _
      | exact sampling_Ranks.mono _ _ _ _
      | exact sampling_Tail.mono _ _ _
      | exact synopticlaw39_level.mono _ _
      | exact synopticlaw39_sample.mono _ _ _ _
      | exact synopticref39_Choose.mono _ _ _
      | exact synopticref39_Median.mono _ _ _ _
      | exact synopticref39_Ranks.mono _ _ _ _
      | exact synopticref39_Tail.mono _ _ _
      | exact LeO.none _
      | refine LeO.ite ?_ ?_
      | refine LeO.bind ?_ (fun _ => ?_)
def synopticlaw39_SamplingCounts.T15 : Bool × List (List Nat × List Nat) := (true, [([], []), ([], []), ([1], [1]), ([], []), ([], []), ([], []), ([0, 2, 3, 4, 5], [0, 2, 3, 4, 5]), ([6], [6]), ([], [])])
def synopticlaw39_SamplingCounts.B15 : List Nat := [0, 0, 2, 0, 0, 0, 63, 127, 0]
theorem synopticlaw39_SamplingCounts.tab15 : rtab .any (opsOf Try.f8 15) = synopticlaw39_SamplingCounts.T15 := by kernel_rfl
theorem synopticlaw39_SamplingCounts.bits15 : waitsOk synopticlaw39_SamplingCounts.T15.2 synopticlaw39_SamplingCounts.B15 = true := by kernel_rfl
abbrev mB0 : Array Bool := #[false, false, false, false, false, false, false, false, false]
abbrev mB1 : Array Bool := #[false, true, false, false, false, false, false, false, false]
abbrev mB2 : Array Bool := #[false, true, false, true, false, false, false, false, false]
abbrev mB3 : Array Bool := #[false, true, false, true, true, false, false, false, false]
abbrev mB4 : Array Bool := #[false, true, false, true, true, true, false, false, false]
abbrev mB5 : Array Bool := #[false, true, false, true, true, true, false, false, true]
abbrev mB6 : Array Bool := #[true, true, false, true, true, true, false, false, true]
abbrev mB7 : Array Bool := #[true, true, true, true, true, true, false, false, true]
abbrev mB8 : Array Bool := #[true, true, true, true, true, true, true, false, true]
abbrev mB9 : Array Bool := #[true, true, true, true, true, true, true, true, true]
set_option maxHeartbeats 8000000 in
set_option maxRecDepth 100000 in
theorem synopticlaw39_SamplingCounts.calls (k : Nat) (a0 : Int) (a1 : Int) (a2_0 : Int) (a2_1 : Int) (P3_ : Nat → Prop) (A3 : Option Addr) (c3 : Nat) (l3 : List Int) (A4 : Option Addr) (c4 : Nat) (l4 : List Int) (r : Bool) (w : World) (hs3 : Kd.V (Kd.int .i64) 3 w w.heap.size (fun k_ => P3_ k_) (.slice A3 l3.length c3) l3) (hr4 : Kd.C (Kd.int .u8) w A4 l4.length l4) (hc4 : l4.length ≤ c4) (h : synopticlaw39_SamplingCounts.f k a0 a1 a2_0 a2_1 l3 l4 = some r) :
  Calls Try.prog 8 #[.int .i64 a0, .int .i64 a1, .agg #[.int .i64 a2_0, .int .i64 a2_1], .slice A3 l3.length c3, .slice A4 l4.length c4] w fun e w' => e = .returned (.bool r) ∧ Below w.heap.size w w' := by
 have hu31 := Try.underlying31
 have hu51 := Try.underlying51
 have HO3 := Aside0.mk (show Kd.V (Kd.int .i64) 3 w w.heap.size (fun k_ => (P3_ k_ ∨ w.heap.size ≤ k_) ∧ k_ < w.heap.size) (.slice A3 l3.length c3) l3 from Kd.V_mono (Kd.V_bound hs3) (fun k_ hk => ⟨.inl hk.1, hk.2⟩))
 have HR4 := Aside0.mk hr4
 have HC4 := Aside0.mk hc4
 clear hr4 hc4
 have HB := Aside0.mk (Below.refl w.heap.size w)
 have H : ((synopticlaw39_awake.f).bind fun t245 => (if t245 = true then (if (l3.length : Int) > 70 then (some true) else ((synopticfield_New.f l4 120).bind fun bt246 => ((synopticfield_Mod.f a0 63).bind fun t249 => ((synopticfield_Mod.f a1 40).bind fun t250 => ((some (([(⟨a0, a1⟩ : S51), (⟨t249, wrap64 (t250 - 2)⟩ : S51)] : List (S51)) : List (S51))).bind fun y251 => (synopticlaw39_SamplingCounts.l0 k a1 l3 y251 (y251.length : Int) 0 a2_0 a2_1 bt246.1 bt246.2)))))) else (none))) = some r := h
 clear h
 replace H := Option.bind_eq_some_iff.mp H
 obtain ⟨t245, A60, H⟩ := H
 replace H : (if t245 = true then (if (l3.length : Int) > 70 then (some true) else ((synopticfield_New.f l4 120).bind fun bt246 => ((synopticfield_Mod.f a0 63).bind fun t249 => ((synopticfield_Mod.f a1 40).bind fun t250 => ((some (([(⟨a0, a1⟩ : S51), (⟨t249, wrap64 (t250 - 2)⟩ : S51)] : List (S51)) : List (S51))).bind fun y251 => (synopticlaw39_SamplingCounts.l0 k a1 l3 y251 (y251.length : Int) 0 a2_0 a2_1 bt246.1 bt246.2)))))) else (none)) = some r := H
 have A6 := Aside0.mk A60
 clear A60
 by_cases c7 : t245 = true
 ·subst c7
  have H1 : (if (l3.length : Int) > 70 then (some true) else ((synopticfield_New.f l4 120).bind fun bt246 => ((synopticfield_Mod.f a0 63).bind fun t249 => ((synopticfield_Mod.f a1 40).bind fun t250 => ((some (([(⟨a0, a1⟩ : S51), (⟨t249, wrap64 (t250 - 2)⟩ : S51)] : List (S51)) : List (S51))).bind fun y251 => (synopticlaw39_SamplingCounts.l0 k a1 l3 y251 (y251.length : Int) 0 a2_0 a2_1 bt246.1 bt246.2)))))) = some r := by rw [if_pos rfl] at H; exact H
  clear H
  have H := H1
  clear H1
  by_cases c8 : (l3.length : Int) > 70
  ·rw [if_pos c8] at H
   have c8b0 : decide (70 < (l3.length : Int)) = true := decide_eq_true c8
   have c8b1 : decide (70 < l3.length) = true := decide_eq_true (by omega)
   clear c8
   obtain rfl := Option.some.inj H
   go_enter Try.func8, Try.ntmps8
   go_wp2_with (first | ((with_reducible refine gate_dst (N := 7) rfl ?_); refine box_event ?hg (N := 7) ?hd (cs := #[.int .i64 a2_0, .int .i64 a2_1]) (t := 31) ?hr ?_; (case hd => rfl); (case hg => rfl); (case hr => first | (go_simp; done) | (go_simp; rfl)); intro gb244 hg w9 hbox hb; have BK244 := Aside0.mk (hbox); have GW244 := kG HB hg; have GE244 := kG HB hg; replace HO3 := Aside0.mk (Kd.V_below (Kd.V_elderB (by (with_reducible repeat (first | apply Kd.V_alloc | apply Kd.V_drewN | apply Kd.V_drew)); exact HO3.out) gb244 (Nat.le_of_eq hg.symm)) hb); replace HB := kH HB hb; clear hb hbox hg) | ((with_reducible refine gate_callee (f := 9) rfl ?_); refine goesL_ (some 36) rfl rfl Try.func9 (by kernel_rfl) rfl #[] rfl (by (try simp only [List.map_toArray, List.map_cons, List.map_nil]); first | done | rfl | (simp only [List.length_drop, List.length_take]; rfl)) ?_; (with_reducible refine (synopticlaw39_awake.calls  true _ A6.out).mono ?_); rintro e w10 ⟨rfl, hb⟩; refine ⟨_, rfl, ?_⟩; replace HO3 := Aside0.mk (Kd.V_below (by (with_reducible repeat (first | apply Kd.V_alloc | apply Kd.V_drewN | apply Kd.V_drew)); exact HO3.out) hb); replace BK244 := kB BK244 hb; replace HB := kH HB hb; (try clear hb); (try clear hb2); (try clear hk); (try clear hi)))
   go_ret
   exact ⟨by first | rfl | (simp [errW_none, errW_some] <;> rfl) | (simp [*, errW_none, errW_some] <;> rfl), by repeat (first | (with_reducible first | exact HB.out | apply below_alloc | apply pw_below_drewN | apply below_drew1 | refine below_set ?_ GE244.out) | exact HB.out)⟩
  ·rw [if_neg c8] at H
   have c8b0 : decide (70 < (l3.length : Int)) = false := decide_eq_false c8
   have c8b1 : decide (70 < l3.length) = false := decide_eq_false (by omega)
   clear c8
   replace H := Option.bind_eq_some_iff.mp H
   obtain ⟨⟨t246, t247⟩, A110, H⟩ := H
   replace H : ((synopticfield_Mod.f a0 63).bind fun t249 => ((synopticfield_Mod.f a1 40).bind fun t250 => ((some (([(⟨a0, a1⟩ : S51), (⟨t249, wrap64 (t250 - 2)⟩ : S51)] : List (S51)) : List (S51))).bind fun y251 => (synopticlaw39_SamplingCounts.l0 k a1 l3 y251 (y251.length : Int) 0 a2_0 a2_1 t246 t247)))) = some r := H
   have A11 := Aside0.mk A110
   clear A110
   replace H := Option.bind_eq_some_iff.mp H
   obtain ⟨t249, A120, H⟩ := H
   replace H : ((synopticfield_Mod.f a1 40).bind fun t250 => ((some (([(⟨a0, a1⟩ : S51), (⟨t249, wrap64 (t250 - 2)⟩ : S51)] : List (S51)) : List (S51))).bind fun y251 => (synopticlaw39_SamplingCounts.l0 k a1 l3 y251 (y251.length : Int) 0 a2_0 a2_1 t246 t247))) = some r := H
   have A12 := Aside0.mk A120
   clear A120
   replace H := Option.bind_eq_some_iff.mp H
   obtain ⟨t250, A130, H⟩ := H
   replace H : ((some (([(⟨a0, a1⟩ : S51), (⟨t249, wrap64 (t250 - 2)⟩ : S51)] : List (S51)) : List (S51))).bind fun y251 => (synopticlaw39_SamplingCounts.l0 k a1 l3 y251 (y251.length : Int) 0 a2_0 a2_1 t246 t247)) = some r := H
   have A13 := Aside0.mk A130
   clear A130
   obtain ⟨y251, hy251⟩ : ∃ y_ : List (S51), y_ = (([(⟨a0, a1⟩ : S51), (⟨t249, wrap64 (t250 - 2)⟩ : S51)] : List (S51))) := ⟨_, rfl⟩
   replace H : (synopticlaw39_SamplingCounts.l0 k a1 l3 y251 (y251.length : Int) 0 a2_0 a2_1 t246 t247) = some r := by first | (rw [hy251]; with_reducible exact H) | (have H2_ := (Option.bind_some _ _).symm.trans H; rw [hy251]; with_reducible exact H2_) | (have H2_ := (Option.bind_some _ _).symm.trans H; with_reducible exact H2_) | with_reducible exact H | (rw [hy251]; exact H) | exact H
   have Ny251 := Aside0.mk hy251
   clear hy251
   have H' := Aside0.mk H
   clear H
   go_enter Try.func8, Try.ntmps8
   go_wp2_with (first | ((with_reducible refine gate_dst (N := 7) rfl ?_); refine box_event ?hg (N := 7) ?hd (cs := #[.int .i64 a2_0, .int .i64 a2_1]) (t := 31) ?hr ?_; (case hd => rfl); (case hg => rfl); (case hr => first | (go_simp; done) | (go_simp; rfl)); intro gb244 hg w14 hbox hb; have BK244 := Aside0.mk (hbox); have GW244 := kG HB hg; have GE244 := kG HB hg; replace HO3 := Aside0.mk (Kd.V_below (Kd.V_elderB (by (with_reducible repeat (first | apply Kd.V_alloc | apply Kd.V_drewN | apply Kd.V_drew)); exact HO3.out) gb244 (Nat.le_of_eq hg.symm)) hb); replace HB := kH HB hb; clear hb hbox hg) | ((with_reducible refine gate_callee (f := 9) rfl ?_); refine goesL_ (some 36) rfl rfl Try.func9 (by kernel_rfl) rfl #[] rfl (by (try simp only [List.map_toArray, List.map_cons, List.map_nil]); first | done | rfl | (simp only [List.length_drop, List.length_take]; rfl)) ?_; (with_reducible refine (synopticlaw39_awake.calls  true _ A6.out).mono ?_); rintro e w15 ⟨rfl, hb⟩; refine ⟨_, rfl, ?_⟩; replace HO3 := Aside0.mk (Kd.V_below (by (with_reducible repeat (first | apply Kd.V_alloc | apply Kd.V_drewN | apply Kd.V_drew)); exact HO3.out) hb); replace BK244 := kB BK244 hb; replace HB := kH HB hb; (try clear hb); (try clear hb2); (try clear hk); (try clear hi)) | ((with_reducible refine gate_callee (f := 11) rfl ?_); refine goesL_ (some 42) rfl rfl Try.func11 (by kernel_rfl) rfl #[.slice A4 l4.length c4, .int .i64 120] rfl (by (try simp only [List.map_toArray, List.map_cons, List.map_nil]); first | done | rfl | (simp only [List.length_drop, List.length_take]; rfl)) ?_; (with_reducible refine (synopticfield_New.calls _ _ l4 120 t246 t247 w _ ?side1 ?side2 ?side3 A11.out).mono ?_); (case side1 => repeat (first | (with_reducible first | exact HB.out | apply below_alloc | apply pw_below_drewN | apply below_drew1 | refine below_set ?_ GE244.out) | exact HB.out)); (case side2 => exact HR4.out); (case side3 => exact HC4.out); rintro e w16 ⟨g248, rfl, hi, hb, hb2⟩; refine ⟨_, rfl, ?_⟩; have HI248 := Aside0.mk (hi); have NB248_244 := Aside0.mk (IsS59.ne_blk hi (blk_below (g := gb244) (o := .cells #[.int .i64 a2_0, .int .i64 a2_1] 31 (0, 0)) (by (with_reducible repeat (first | refine blk_drewN ?_ _ | refine blk_drew ?_ | refine blk_alloc ?_ _)); exact BK244.out) hb2) (by decide)); have NB244_248 := Aside0.mk (Ne.symm (IsS59.ne_blk hi (blk_below (g := gb244) (o := .cells #[.int .i64 a2_0, .int .i64 a2_1] 31 (0, 0)) (by (with_reducible repeat (first | refine blk_drewN ?_ _ | refine blk_drew ?_ | refine blk_alloc ?_ _)); exact BK244.out) hb2) (by decide))); replace HO3 := Aside0.mk (Kd.V_mono (ok := fun k_ => ((((P3_ k_ ∨ w.heap.size ≤ k_)) ∧ k_ < w.heap.size) ∧ k_ ≠ gb244)) (Kd.V_below (by (with_reducible repeat (first | apply Kd.V_alloc | apply Kd.V_drewN | apply Kd.V_drew)); exact HO3.out) hb2) (fun k_ hk_ => (⟨hk_, Nat.ne_of_lt (Nat.lt_of_lt_of_le hk_.1.2 (IsS59.ge hi))⟩ : _ ∧ k_ ≠ g248))); replace BK244 := Aside0.mk (blk_below (g := gb244) (o := .cells #[.int .i64 a2_0, .int .i64 a2_1] 31 (0, 0)) (by (with_reducible repeat (first | refine blk_drewN ?_ _ | refine blk_drew ?_ | refine blk_alloc ?_ _)); exact BK244.out) hb2); replace HB := Aside0.mk (hb); (try clear hb); (try clear hb2); (try clear hk); (try clear hi)) | ((with_reducible refine gate_callee (f := 23) rfl ?_); refine goesL_ (some 47) rfl rfl Try.func23 (by kernel_rfl) rfl #[.int .i64 a0, .int .i64 63] rfl (by (try simp only [List.map_toArray, List.map_cons, List.map_nil]); first | done | rfl | (simp only [List.length_drop, List.length_take]; rfl)) ?_; (with_reducible refine (synopticfield_Mod.calls a0 63 t249 _ A12.out).mono ?_); rintro e w' ⟨rfl, ⟨nd, rfl⟩⟩; refine ⟨_, rfl, ?_⟩) | ((with_reducible refine gate_callee (f := 23) rfl ?_); refine goesL_ (some 49) rfl rfl Try.func23 (by kernel_rfl) rfl #[.int .i64 a1, .int .i64 40] rfl (by (try simp only [List.map_toArray, List.map_cons, List.map_nil]); first | done | rfl | (simp only [List.length_drop, List.length_take]; rfl)) ?_; (with_reducible refine (synopticfield_Mod.calls a1 40 t250 _ A13.out).mono ?_); rintro e w' ⟨rfl, ⟨nd, rfl⟩⟩; refine ⟨_, rfl, ?_⟩) | ((with_reducible refine gate_dst (N := 52) rfl ?_); refine Kd.R_lit k51 _ 51 ?hg (N := 52) ?hd (xs := ([(⟨a0, a1⟩ : S51), (⟨t249, wrap64 (t250 - 2)⟩ : S51)] : List (S51))) (inner := [.int .i64 a0, .int .i64 a1, .int .i64 t249, .int .i64 (wrap64 (t250 - 2))]) (ok := fun _ => True) (okp := fun _ => True) ?hr ?hp (fun _ hk => hk) trivial (Below.refl _ _) (Nat.le_refl _) (by simp) ?_; (case hd => rfl); (case hg => rfl); (case hr => first | (go_simp; done) | (go_simp; rfl)); (case hp => exact (Reps.c2 (show Kd.M k51 _ _ _ (⟨a0, a1⟩ : S51) [.int .i64 a0, .int .i64 a1] from (k51_mkM _ _ _ (⟨a0, a1⟩ : S51) )) (Reps.c2 (show Kd.M k51 _ _ _ (⟨t249, wrap64 (t250 - 2)⟩ : S51) [.int .i64 t249, .int .i64 (wrap64 (t250 - 2))] from (k51_mkM _ _ _ (⟨t249, wrap64 (t250 - 2)⟩ : S51) )) (Reps.none _ _)))); intro v252 w17 ho18 hb hg_ hnew_; clear hg_ hnew_; (first | rw [← Ny251.out] at ho18 | (simp only [Int.reduceToNat] at ho18; rw [← Ny251.out] at ho18)); have HO253 := Aside0.mk (Kd.R_lower (Kd.R_newM (M := fun k_ => (w.heap.size ≤ k_)) ho18 (below_size (by repeat (first | (with_reducible first | exact HB.out | apply below_alloc | apply pw_below_drewN | apply below_drew1 | refine below_set ?_ (IsS59.ge HI248.out) | refine below_set ?_ GE244.out) | exact HB.out))) (fun k_ h_ => h_)) (below_size (by repeat (first | (with_reducible first | exact HB.out | apply below_alloc | apply pw_below_drewN | apply below_drew1 | refine below_set ?_ (IsS59.ge HI248.out) | refine below_set ?_ GE244.out) | exact HB.out)))); replace HO3 := Aside0.mk (Kd.V_elder' (by (with_reducible repeat (first | apply Kd.V_alloc | apply Kd.V_drewN | apply Kd.V_drew)); exact HO3.out) (Kd.R_base ho18) hb); replace BK244 := kB BK244 hb; replace HI248 := Aside0.mk (IsS59.below (by repeat (first | (with_reducible first | exact HI248.out | apply IsS59.alloc | apply IsS59.drewN | apply IsS59.drew | apply IsS59.set_1 | refine IsS59.far ?_ NB248_244.out _) | exact HI248.out)) hb); replace HB := kH HB hb; clear hb ho18; obtain ⟨Ao19, co19, eo19⟩ := Kd.R_slice HO253.out; subst eo19))
   go_loopg [54] k (fun kq v54 w' => ∃ (x54_1 : Int) (x249001_1 : Int), v54 = .int .i64 x54_1 ∧ Aside0 (synopticlaw39_SamplingCounts.l0 kq a1 l3 y251 (y251.length : Int) x54_1 a2_0 a2_1 t246 x249001_1 = some r) ∧ Aside0 (kq ≤ k) ∧ Aside0 (Kd.V (Kd.int .i64) 3 w' w.heap.size (fun k_ => (P3_ k_ ∨ w.heap.size ≤ k_) ∧ some k_ ≠ ((.slice Ao19 y251.length co19) : Value).ownBlock ∧ k_ ≠ gb244 ∧ k_ ≠ g248) (.slice A3 l3.length c3) l3) ∧ Aside0 (Kd.R k51 51 w' w.heap.size (fun k_ => (w.heap.size ≤ k_)) (.slice Ao19 y251.length co19) y251) ∧ Aside0 (w'.heap[gb244]? = some (.cells #[.int .i64 a2_0, .int .i64 a2_1] 31 (0, 0))) ∧ Aside0 (IsS59 w w' g248 t246 x249001_1) ∧ Aside0 (Below w.heap.size w w'))
   case atStart => exact ⟨(0), (t247), (by first | rfl | (simp; done) | (simp [*]; done)), H', ⟨Nat.le_refl _⟩, ⟨by (with_reducible repeat (first | apply Kd.V_alloc | apply Kd.V_drewN | apply Kd.V_drew)); exact Kd.V_mono HO3.out (fun _ hk => ⟨hk.1.1.1.1, ⟨hk.2, ⟨hk.1.1.2, hk.1.2⟩⟩⟩)⟩, ⟨by (with_reducible repeat (first | apply Kd.R_alloc | apply Kd.R_drewN | apply Kd.R_drew)); exact Kd.R_mono HO253.out (fun _ hk => hk.1)⟩, ⟨by (with_reducible repeat (first | refine blk_drewN ?_ _ | refine blk_drew ?_ | refine blk_alloc ?_ _)); exact BK244.out⟩, ⟨by repeat (first | (with_reducible first | exact HI248.out | apply IsS59.alloc | apply IsS59.drewN | apply IsS59.drew | apply IsS59.set_1 | refine IsS59.far ?_ NB248_244.out _) | exact HI248.out)⟩, ⟨by repeat (first | (with_reducible first | exact HB.out | apply below_alloc | apply pw_below_drewN | apply below_drew1 | refine below_set ?_ (IsS59.ge HI248.out) | refine below_set ?_ GE244.out) | exact HB.out)⟩⟩
   case round =>
    clear H'
    (try clear c1); (try clear c2); (try clear p2); (try clear c3); (try clear c4); (try clear p6); (try clear c7); (try clear c8); (try clear c8b0); (try clear c8b1); (try clear c9); (try clear c11)
    obtain ⟨x54_1, x249001_1, rfl, HA, HK1, HO_3, HO_52, BK244, HI248, HB⟩ := hrel
    cases gk with
    | zero => exact absurd HA.out (by simp [synopticlaw39_SamplingCounts.l0])
    | succ k1 =>
     have H := HA.out
     clear HA
     simp only [synopticlaw39_SamplingCounts.l0] at H
     by_cases c20 : x54_1 < (y251.length : Int)
     ·rw [if_pos c20] at H
      have c20b0 : decide (x54_1 < (y251.length : Int)) = true := decide_eq_true c20
      clear c20
      by_cases c21 : 0 ≤ x54_1
      ·rw [if_pos c21] at H
       have c21b0 : decide (0 ≤ x54_1) = true := decide_eq_true c21
       clear c21
       by_cases c22 : x54_1 < (y251.length : Int)
       ·rw [if_pos c22] at H
        have c22b0 : decide (x54_1 < (y251.length : Int)) = true := decide_eq_true c22
        clear c22
        replace H := Option.bind_eq_some_iff.mp H
        obtain ⟨⟨t256, t257⟩, A230, H⟩ := H
        replace H : ((synopticref39_Choose.f k1 ((rd_T51 y251 x54_1).f0) ((rd_T51 y251 x54_1).f1)).bind fun bt258 => ((sampling_Tail.f k1 ((rd_T51 y251 x54_1).f0) ((rd_T51 y251 x54_1).f1)).bind fun bt260 => ((synopticref39_Tail.f k1 ((rd_T51 y251 x54_1).f0) ((rd_T51 y251 x54_1).f1)).bind fun bt264 => (if t256 = bt258.1 then (if t257 = bt258.2 then (if (!(bt260.1 == bt264.1) || (!(bt260.2.1 == bt264.2.1))) = true then (none) else (if (bt260.2.2 != bt264.2.2) = true then (none) else (synopticlaw39_SamplingCounts.j1 k1 a1 l3 y251 (y251.length : Int) x54_1 false a2_0 a2_1 t246 x249001_1 ((rd_T51 y251 x54_1).f0) ((rd_T51 y251 x54_1).f1)))) else (none)) else (none))))) = some r := H
        have A23 := Aside0.mk A230
        clear A230
        replace H := Option.bind_eq_some_iff.mp H
        obtain ⟨⟨t258, t259⟩, A240, H⟩ := H
        replace H : ((sampling_Tail.f k1 ((rd_T51 y251 x54_1).f0) ((rd_T51 y251 x54_1).f1)).bind fun bt260 => ((synopticref39_Tail.f k1 ((rd_T51 y251 x54_1).f0) ((rd_T51 y251 x54_1).f1)).bind fun bt264 => (if t256 = t258 then (if t257 = t259 then (if (!(bt260.1 == bt264.1) || (!(bt260.2.1 == bt264.2.1))) = true then (none) else (if (bt260.2.2 != bt264.2.2) = true then (none) else (synopticlaw39_SamplingCounts.j1 k1 a1 l3 y251 (y251.length : Int) x54_1 false a2_0 a2_1 t246 x249001_1 ((rd_T51 y251 x54_1).f0) ((rd_T51 y251 x54_1).f1)))) else (none)) else (none)))) = some r := H
        have A24 := Aside0.mk A240
        clear A240
        replace H := Option.bind_eq_some_iff.mp H
        obtain ⟨⟨t260, t261, t262⟩, A250, H⟩ := H
        replace H : ((synopticref39_Tail.f k1 ((rd_T51 y251 x54_1).f0) ((rd_T51 y251 x54_1).f1)).bind fun bt264 => (if t256 = t258 then (if t257 = t259 then (if (!(t260 == bt264.1) || (!(t261 == bt264.2.1))) = true then (none) else (if (t262 != bt264.2.2) = true then (none) else (synopticlaw39_SamplingCounts.j1 k1 a1 l3 y251 (y251.length : Int) x54_1 false a2_0 a2_1 t246 x249001_1 ((rd_T51 y251 x54_1).f0) ((rd_T51 y251 x54_1).f1)))) else (none)) else (none))) = some r := H
        have A25 := Aside0.mk A250
        clear A250
        replace H := Option.bind_eq_some_iff.mp H
        obtain ⟨⟨t264, t265, t266⟩, A260, H⟩ := H
        replace H : (if t256 = t258 then (if t257 = t259 then (if (!(t260 == t264) || (!(t261 == t265))) = true then (none) else (if (t262 != t266) = true then (none) else (synopticlaw39_SamplingCounts.j1 k1 a1 l3 y251 (y251.length : Int) x54_1 false a2_0 a2_1 t246 x249001_1 ((rd_T51 y251 x54_1).f0) ((rd_T51 y251 x54_1).f1)))) else (none)) else (none)) = some r := H
        have A26 := Aside0.mk A260
        clear A260
        have HC27 := Aside0.mk H
        clear H
        have p254 : 0 ≤ (x54_1 : Int) := of_decide_eq_true (by first | (with_reducible assumption) | assumption)
        have q254 : x54_1 < (y251.length : Int) := of_decide_eq_true (by first | (with_reducible assumption) | assumption)
        obtain ⟨ad254, e254, hx254_0, hx254_1⟩ := at_T51 (Kd.R_reads' HO_52.out).2.2 x54_1 p254 q254
        cases e254
        replace p254 := eq_true p254
        replace q254 := eq_true q254
        go_upto_region 13 with (first | ((with_reducible refine gate_dst (N := 13) rfl ?_); refine box_event ?hg (N := 13) ?hd (cs := #[.int .i64 0, .int .i64 0]) (t := 51) ?hr ?_; (case hd => rfl); (case hg => rfl); (case hr => first | (go_simp; done) | (go_simp; rfl)); intro gb255 hg w28 hbox hb; have BK255 := Aside0.mk (hbox); have GW255 := kG HB hg; have GE255 := kG HB hg; have NB244_255 := kN BK244 hg; have NB255_244 := kM BK244 hg; have NB248_255 := Aside0.mk ((by rw [hg]; exact Nat.ne_of_lt (IsS59.lt (show IsS59 w _ g248 t246 x249001_1 from by repeat (first | (with_reducible first | exact HI248.out | apply IsS59.alloc | apply IsS59.drewN | apply IsS59.drew | apply IsS59.set_1 | refine IsS59.far ?_ NB248_244.out _) | exact HI248.out))) : g248 ≠ gb255)); have NB255_248 := Aside0.mk ((by rw [hg]; exact Nat.ne_of_gt (IsS59.lt (show IsS59 w _ g248 t246 x249001_1 from by repeat (first | (with_reducible first | exact HI248.out | apply IsS59.alloc | apply IsS59.drewN | apply IsS59.drew | apply IsS59.set_1 | refine IsS59.far ?_ NB248_244.out _) | exact HI248.out))) : gb255 ≠ g248)); replace HO_3 := Aside0.mk (Kd.V_below (Kd.V_elderB (by (with_reducible repeat (first | apply Kd.V_alloc | apply Kd.V_drewN | apply Kd.V_drew)); exact HO_3.out) gb255 (Nat.le_of_eq hg.symm)) hb); replace HO_52 := Aside0.mk (Kd.R_below (Kd.R_elderB (by (with_reducible repeat (first | apply Kd.R_alloc | apply Kd.R_drewN | apply Kd.R_drew)); exact HO_52.out) gb255 (Nat.le_of_eq hg.symm)) hb); replace BK244 := kB BK244 hb; replace HI248 := Aside0.mk (IsS59.below (by repeat (first | (with_reducible first | exact HI248.out | apply IsS59.alloc | apply IsS59.drewN | apply IsS59.drew | apply IsS59.set_1 | refine IsS59.far ?_ NB248_244.out _) | exact HI248.out)) hb); replace HB := kH HB hb; clear hb hbox hg; have hnb29 := NB255_244.out; have hnc29 := NB244_255.out; have hnb30 := NB255_248.out; have hnc30 := NB248_255.out; have hcz31_0 : w28.cell? ⟨gb255, 0, none⟩ = some (.int .i64 0) := (blk_cell BK255.out 0).trans rfl; have hcz31_1 : w28.cell? ⟨gb255, 1, none⟩ = some (.int .i64 0) := (blk_cell BK255.out 1).trans rfl; have hfz31_0 := blk_frozen BK255.out 0; have hfz31_1 := blk_frozen BK255.out 1) | ((with_reducible refine gate_store (t := 51) (p := 13) rfl ?_); refine store_event (t := 51) (p := 13) (v := ?vo_w32) (w1 := ((w28.setCell ⟨gb255, 0, none⟩ (.int .i64 ((rd_T51 y251 x54_1).f0))).setCell ⟨gb255, 1, none⟩ (.int .i64 ((rd_T51 y251 x54_1).f1)))) ?hg ?ho ?hn ?hr ?_; (case ho => rfl); (case hg => rfl); (case hn => rfl); (case hr => first | (go_simp; done) | (go_simp; rfl)); intro w32 hw; replace HO_3 : Aside0 (Kd.V (Kd.int .i64) 3 w32 w.heap.size (fun k_ => (P3_ k_ ∨ w.heap.size ≤ k_) ∧ some k_ ≠ (.slice (some ad254) y251.length co19 : Value).ownBlock ∧ k_ ≠ gb244 ∧ k_ ≠ g248 ∧ k_ ≠ gb255) (.slice A3 l3.length c3) l3) := ⟨(by rw [hw]; exact (by (with_reducible repeat (first | apply Kd.V_alloc | apply Kd.V_drewN | apply Kd.V_drew)); exact Kd.V_mono (Kd.V_far (p := ⟨gb255, 1, none⟩) (Kd.V_far (p := ⟨gb255, 0, none⟩) (Kd.V_mono HO_3.out (fun k_ hk => (⟨hk, hk.2⟩ : _ ∧ k_ ≠ gb255))) (fun _ hk => hk.2) (.int .i64 ((rd_T51 y251 x54_1).f0))) (fun _ hk => hk.2) (.int .i64 ((rd_T51 y251 x54_1).f1))) (fun _ hk => ⟨hk.1.1.1, ⟨hk.1.1.2.1, ⟨hk.1.1.2.2.1, ⟨hk.1.1.2.2.2, hk.1.2⟩⟩⟩⟩)))⟩; replace HO_52 : Aside0 (Kd.R k51 51 w32 w.heap.size (fun k_ => (w.heap.size ≤ k_) ∧ k_ ≠ gb255) (.slice (some ad254) y251.length co19) y251) := ⟨(by rw [hw]; exact (by (with_reducible repeat (first | apply Kd.R_alloc | apply Kd.R_drewN | apply Kd.R_drew)); exact Kd.R_mono (Kd.R_far (p := ⟨gb255, 1, none⟩) (Kd.R_far (p := ⟨gb255, 0, none⟩) (Kd.R_mono HO_52.out (fun k_ hk => (⟨hk, hk.2⟩ : _ ∧ k_ ≠ gb255))) (fun _ hk => hk.2) (.int .i64 ((rd_T51 y251 x54_1).f0))) (fun _ hk => hk.2) (.int .i64 ((rd_T51 y251 x54_1).f1))) (fun _ hk => ⟨hk.1.1, hk.1.2⟩)))⟩; replace BK244 := kF BK244 NB244_255 hw; replace BK255 : Aside0 (w32.heap[gb255]? = some (.cells #[.int .i64 ((rd_T51 y251 x54_1).f0), .int .i64 ((rd_T51 y251 x54_1).f1)] 51 (0, 0))) := ⟨(by rw [hw]; exact (by (with_reducible repeat (first | refine blk_drewN ?_ _ | refine blk_drew ?_ | refine blk_alloc ?_ _)); refine blk_put (cs := #[.int .i64 ((rd_T51 y251 x54_1).f0), .int .i64 0]) ?_ 1 _ rfl; (with_reducible repeat (first | refine blk_drewN ?_ _ | refine blk_drew ?_ | refine blk_alloc ?_ _)); refine blk_put (cs := #[.int .i64 0, .int .i64 0]) ?_ 0 _ rfl; (with_reducible repeat (first | refine blk_drewN ?_ _ | refine blk_drew ?_ | refine blk_alloc ?_ _)); exact BK255.out))⟩; replace HI248 : Aside0 (IsS59 w w32 g248 t246 x249001_1) := ⟨(by rw [hw]; exact (by repeat (first | (with_reducible first | exact HI248.out | apply IsS59.alloc | apply IsS59.drewN | apply IsS59.drew | apply IsS59.set_1 | refine IsS59.far ?_ NB248_244.out _ | refine IsS59.far ?_ NB248_255.out _) | exact HI248.out)))⟩; replace HB := kFH HB GE255 hw; clear hw; have hcz33_0 : w32.cell? ⟨gb255, 0, none⟩ = some (.int .i64 ((rd_T51 y251 x54_1).f0)) := (blk_cell BK255.out 0).trans rfl; have hcz33_1 : w32.cell? ⟨gb255, 1, none⟩ = some (.int .i64 ((rd_T51 y251 x54_1).f1)) := (blk_cell BK255.out 1).trans rfl; have hfz33_0 := blk_frozen BK255.out 0; have hfz33_1 := blk_frozen BK255.out 1) | ((with_reducible refine gate_callee (f := 24) rfl ?_); refine goesL_ (some 63) rfl rfl Try.func24 (by kernel_rfl) rfl #[.int .i64 ((rd_T51 y251 x54_1).f0), .int .i64 ((rd_T51 y251 x54_1).f1)] rfl (by (try simp only [List.map_toArray, List.map_cons, List.map_nil]); first | done | rfl | (simp only [List.length_drop, List.length_take]; rfl)) ?_; (with_reducible refine (sampling_Choose.calls k1 ((rd_T51 y251 x54_1).f0) ((rd_T51 y251 x54_1).f1) t256 t257 _ A23.out).mono ?_); rintro e w34 ⟨rfl, hb⟩; refine ⟨_, rfl, ?_⟩; replace HO_3 := Aside0.mk (Kd.V_below (by (with_reducible repeat (first | apply Kd.V_alloc | apply Kd.V_drewN | apply Kd.V_drew)); exact HO_3.out) hb); replace HO_52 := kR HO_52 hb; replace BK244 := kB BK244 hb; replace HI248 := Aside0.mk (IsS59.below (by repeat (first | (with_reducible first | exact HI248.out | apply IsS59.alloc | apply IsS59.drewN | apply IsS59.drew | apply IsS59.set_1 | refine IsS59.far ?_ NB248_244.out _ | refine IsS59.far ?_ NB248_255.out _) | exact HI248.out)) hb); replace BK255 := Aside0.mk (blk_below (g := gb255) (o := .cells #[.int .i64 ((rd_T51 y251 x54_1).f0), .int .i64 ((rd_T51 y251 x54_1).f1)] 51 (0, 0)) (by (with_reducible repeat (first | refine blk_drewN ?_ _ | refine blk_drew ?_ | refine blk_alloc ?_ _)); exact BK255.out) hb); replace HB := kH HB hb; (try clear hb); (try clear hb2); (try clear hk); (try clear hi); have hcz35_0 : w34.cell? ⟨gb255, 0, none⟩ = some (.int .i64 ((rd_T51 y251 x54_1).f0)) := (blk_cell BK255.out 0).trans rfl; have hcz35_1 : w34.cell? ⟨gb255, 1, none⟩ = some (.int .i64 ((rd_T51 y251 x54_1).f1)) := (blk_cell BK255.out 1).trans rfl; have hfz35_0 := blk_frozen BK255.out 0; have hfz35_1 := blk_frozen BK255.out 1) | ((with_reducible refine gate_callee (f := 25) rfl ?_); refine goesL_ (some 71) rfl rfl Try.func25 (by kernel_rfl) rfl #[.int .i64 ((rd_T51 y251 x54_1).f0), .int .i64 ((rd_T51 y251 x54_1).f1)] rfl (by (try simp only [List.map_toArray, List.map_cons, List.map_nil]); first | done | rfl | (simp only [List.length_drop, List.length_take]; rfl)) ?_; (with_reducible refine (synopticref39_Choose.calls k1 ((rd_T51 y251 x54_1).f0) ((rd_T51 y251 x54_1).f1) t258 t259 _ A24.out).mono ?_); rintro e w36 ⟨rfl, hb⟩; refine ⟨_, rfl, ?_⟩; replace HO_3 := Aside0.mk (Kd.V_below (by (with_reducible repeat (first | apply Kd.V_alloc | apply Kd.V_drewN | apply Kd.V_drew)); exact HO_3.out) hb); replace HO_52 := kR HO_52 hb; replace BK244 := kB BK244 hb; replace HI248 := Aside0.mk (IsS59.below (by repeat (first | (with_reducible first | exact HI248.out | apply IsS59.alloc | apply IsS59.drewN | apply IsS59.drew | apply IsS59.set_1 | refine IsS59.far ?_ NB248_244.out _ | refine IsS59.far ?_ NB248_255.out _) | exact HI248.out)) hb); replace BK255 := Aside0.mk (blk_below (g := gb255) (o := .cells #[.int .i64 ((rd_T51 y251 x54_1).f0), .int .i64 ((rd_T51 y251 x54_1).f1)] 51 (0, 0)) (by (with_reducible repeat (first | refine blk_drewN ?_ _ | refine blk_drew ?_ | refine blk_alloc ?_ _)); exact BK255.out) hb); replace HB := kH HB hb; (try clear hb); (try clear hb2); (try clear hk); (try clear hi); have hcz37_0 : w36.cell? ⟨gb255, 0, none⟩ = some (.int .i64 ((rd_T51 y251 x54_1).f0)) := (blk_cell BK255.out 0).trans rfl; have hcz37_1 : w36.cell? ⟨gb255, 1, none⟩ = some (.int .i64 ((rd_T51 y251 x54_1).f1)) := (blk_cell BK255.out 1).trans rfl; have hfz37_0 := blk_frozen BK255.out 0; have hfz37_1 := blk_frozen BK255.out 1) | ((with_reducible refine gate_callee (f := 21) rfl ?_); refine goesL_ (some 79) rfl rfl Try.func21 (by kernel_rfl) rfl #[.int .i64 ((rd_T51 y251 x54_1).f0), .int .i64 ((rd_T51 y251 x54_1).f1)] rfl (by (try simp only [List.map_toArray, List.map_cons, List.map_nil]); first | done | rfl | (simp only [List.length_drop, List.length_take]; rfl)) ?_; (with_reducible refine (sampling_Tail.calls k1 ((rd_T51 y251 x54_1).f0) ((rd_T51 y251 x54_1).f1) t260 t261 t262 _ A25.out).mono ?_); rintro e w38 ⟨rfl, hb⟩; refine ⟨_, rfl, ?_⟩; replace HO_3 := Aside0.mk (Kd.V_below (by (with_reducible repeat (first | apply Kd.V_alloc | apply Kd.V_drewN | apply Kd.V_drew)); exact HO_3.out) hb); replace HO_52 := kR HO_52 hb; replace BK244 := kB BK244 hb; replace HI248 := Aside0.mk (IsS59.below (by repeat (first | (with_reducible first | exact HI248.out | apply IsS59.alloc | apply IsS59.drewN | apply IsS59.drew | apply IsS59.set_1 | refine IsS59.far ?_ NB248_244.out _ | refine IsS59.far ?_ NB248_255.out _) | exact HI248.out)) hb); replace BK255 := Aside0.mk (blk_below (g := gb255) (o := .cells #[.int .i64 ((rd_T51 y251 x54_1).f0), .int .i64 ((rd_T51 y251 x54_1).f1)] 51 (0, 0)) (by (with_reducible repeat (first | refine blk_drewN ?_ _ | refine blk_drew ?_ | refine blk_alloc ?_ _)); exact BK255.out) hb); replace HB := kH HB hb; (try clear hb); (try clear hb2); (try clear hk); (try clear hi)) | ((with_reducible refine gate_dst (N := 18) rfl ?_); refine box_event ?hg (N := 18) ?hd (cs := #[.int .i64 0, .int .i64 0]) (t := 31) ?hr ?_; (case hd => rfl); (case hg => rfl); (case hr => first | (go_simp; done) | (go_simp; rfl)); intro gb263 hg w39 hbox hb; have BK263 := Aside0.mk (hbox); have GW263 := kG HB hg; have GE263 := kG HB hg; have NB244_263 := kN BK244 hg; have NB263_244 := kM BK244 hg; have NB255_263 := Aside0.mk ((by rw [hg]; exact Nat.ne_of_lt (blk_lt (g := gb255) (o := .cells #[.int .i64 ((rd_T51 y251 x54_1).f0), .int .i64 ((rd_T51 y251 x54_1).f1)] 51 (0, 0)) (by (with_reducible repeat (first | refine blk_drewN ?_ _ | refine blk_drew ?_ | refine blk_alloc ?_ _)); exact BK255.out)) : gb255 ≠ gb263)); have NB263_255 := Aside0.mk ((by rw [hg]; exact Nat.ne_of_gt (blk_lt (g := gb255) (o := .cells #[.int .i64 ((rd_T51 y251 x54_1).f0), .int .i64 ((rd_T51 y251 x54_1).f1)] 51 (0, 0)) (by (with_reducible repeat (first | refine blk_drewN ?_ _ | refine blk_drew ?_ | refine blk_alloc ?_ _)); exact BK255.out)) : gb263 ≠ gb255)); have NB248_263 := Aside0.mk ((by rw [hg]; exact Nat.ne_of_lt (IsS59.lt (show IsS59 w _ g248 t246 x249001_1 from by repeat (first | (with_reducible first | exact HI248.out | apply IsS59.alloc | apply IsS59.drewN | apply IsS59.drew | apply IsS59.set_1 | refine IsS59.far ?_ NB248_244.out _ | refine IsS59.far ?_ NB248_255.out _) | exact HI248.out))) : g248 ≠ gb263)); have NB263_248 := Aside0.mk ((by rw [hg]; exact Nat.ne_of_gt (IsS59.lt (show IsS59 w _ g248 t246 x249001_1 from by repeat (first | (with_reducible first | exact HI248.out | apply IsS59.alloc | apply IsS59.drewN | apply IsS59.drew | apply IsS59.set_1 | refine IsS59.far ?_ NB248_244.out _ | refine IsS59.far ?_ NB248_255.out _) | exact HI248.out))) : gb263 ≠ g248)); replace HO_3 := Aside0.mk (Kd.V_below (Kd.V_elderB (by (with_reducible repeat (first | apply Kd.V_alloc | apply Kd.V_drewN | apply Kd.V_drew)); exact HO_3.out) gb263 (Nat.le_of_eq hg.symm)) hb); replace HO_52 := kR HO_52 hb; replace BK244 := kB BK244 hb; replace HI248 := Aside0.mk (IsS59.below (by repeat (first | (with_reducible first | exact HI248.out | apply IsS59.alloc | apply IsS59.drewN | apply IsS59.drew | apply IsS59.set_1 | refine IsS59.far ?_ NB248_244.out _ | refine IsS59.far ?_ NB248_255.out _) | exact HI248.out)) hb); replace BK255 := Aside0.mk (blk_below (g := gb255) (o := .cells #[.int .i64 ((rd_T51 y251 x54_1).f0), .int .i64 ((rd_T51 y251 x54_1).f1)] 51 (0, 0)) (by (with_reducible repeat (first | refine blk_drewN ?_ _ | refine blk_drew ?_ | refine blk_alloc ?_ _)); exact BK255.out) hb); replace HB := kH HB hb; clear hb hbox hg; have hnb40 := NB263_244.out; have hnc40 := NB244_263.out; have hnb41 := NB263_255.out; have hnc41 := NB255_263.out; have hnb42 := NB263_248.out; have hnc42 := NB248_263.out; have hcz43_0 : w39.cell? ⟨gb263, 0, none⟩ = some (.int .i64 0) := (blk_cell BK263.out 0).trans rfl; have hcz43_1 : w39.cell? ⟨gb263, 1, none⟩ = some (.int .i64 0) := (blk_cell BK263.out 1).trans rfl; have hfz43_0 := blk_frozen BK263.out 0; have hfz43_1 := blk_frozen BK263.out 1) | ((with_reducible refine gate_store (t := 31) (p := 18) rfl ?_); refine store_event (t := 31) (p := 18) (v := ?vo_w44) (w1 := ((w39.setCell ⟨gb263, 0, none⟩ (.int .i64 t260)).setCell ⟨gb263, 1, none⟩ (.int .i64 t261))) ?hg ?ho ?hn ?hr ?_; (case ho => rfl); (case hg => rfl); (case hn => rfl); (case hr => first | (go_simp; done) | (go_simp; rfl)); intro w44 hw; replace HO_3 : Aside0 (Kd.V (Kd.int .i64) 3 w44 w.heap.size (fun k_ => (P3_ k_ ∨ w.heap.size ≤ k_) ∧ some k_ ≠ (.slice (some ad254) y251.length co19 : Value).ownBlock ∧ k_ ≠ gb244 ∧ k_ ≠ g248 ∧ k_ ≠ gb255 ∧ k_ ≠ gb263) (.slice A3 l3.length c3) l3) := ⟨(by rw [hw]; exact (by (with_reducible repeat (first | apply Kd.V_alloc | apply Kd.V_drewN | apply Kd.V_drew)); exact Kd.V_mono (Kd.V_far (p := ⟨gb263, 1, none⟩) (Kd.V_far (p := ⟨gb263, 0, none⟩) (Kd.V_mono HO_3.out (fun k_ hk => (⟨hk, hk.2⟩ : _ ∧ k_ ≠ gb263))) (fun _ hk => hk.2) (.int .i64 t260)) (fun _ hk => hk.2) (.int .i64 t261)) (fun _ hk => ⟨hk.1.1.1, ⟨hk.1.1.2.1, ⟨hk.1.1.2.2.1, ⟨hk.1.1.2.2.2.1, ⟨hk.1.1.2.2.2.2, hk.1.2⟩⟩⟩⟩⟩)))⟩; replace HO_52 := kFR HO_52 BK263 hw (by decide); replace BK244 := kF BK244 NB244_263 hw; replace BK255 := kF BK255 NB255_263 hw; replace BK263 : Aside0 (w44.heap[gb263]? = some (.cells #[.int .i64 t260, .int .i64 t261] 31 (0, 0))) := ⟨(by rw [hw]; exact (by (with_reducible repeat (first | refine blk_drewN ?_ _ | refine blk_drew ?_ | refine blk_alloc ?_ _)); refine blk_put (cs := #[.int .i64 t260, .int .i64 0]) ?_ 1 _ rfl; (with_reducible repeat (first | refine blk_drewN ?_ _ | refine blk_drew ?_ | refine blk_alloc ?_ _)); refine blk_put (cs := #[.int .i64 0, .int .i64 0]) ?_ 0 _ rfl; (with_reducible repeat (first | refine blk_drewN ?_ _ | refine blk_drew ?_ | refine blk_alloc ?_ _)); exact BK263.out))⟩; replace HI248 : Aside0 (IsS59 w w44 g248 t246 x249001_1) := ⟨(by rw [hw]; exact (by repeat (first | (with_reducible first | exact HI248.out | apply IsS59.alloc | apply IsS59.drewN | apply IsS59.drew | apply IsS59.set_1 | refine IsS59.far ?_ NB248_244.out _ | refine IsS59.far ?_ NB248_255.out _ | refine IsS59.far ?_ NB248_263.out _) | exact HI248.out)))⟩; replace HB := kFH HB GE263 hw; clear hw; have hcz45_0 : w44.cell? ⟨gb255, 0, none⟩ = some (.int .i64 ((rd_T51 y251 x54_1).f0)) := (blk_cell BK255.out 0).trans rfl; have hcz45_1 : w44.cell? ⟨gb255, 1, none⟩ = some (.int .i64 ((rd_T51 y251 x54_1).f1)) := (blk_cell BK255.out 1).trans rfl; have hfz45_0 := blk_frozen BK255.out 0; have hfz45_1 := blk_frozen BK255.out 1) | ((with_reducible refine gate_callee (f := 26) rfl ?_); refine goesL_ (some 87) rfl rfl Try.func26 (by kernel_rfl) rfl #[.int .i64 ((rd_T51 y251 x54_1).f0), .int .i64 ((rd_T51 y251 x54_1).f1)] rfl (by (try simp only [List.map_toArray, List.map_cons, List.map_nil]); first | done | rfl | (simp only [List.length_drop, List.length_take]; rfl)) ?_; (with_reducible refine (synopticref39_Tail.calls k1 ((rd_T51 y251 x54_1).f0) ((rd_T51 y251 x54_1).f1) t264 t265 t266 _ A26.out).mono ?_); rintro e w46 ⟨rfl, hb⟩; refine ⟨_, rfl, ?_⟩; replace HO_3 := Aside0.mk (Kd.V_below (by (with_reducible repeat (first | apply Kd.V_alloc | apply Kd.V_drewN | apply Kd.V_drew)); exact HO_3.out) hb); replace HO_52 := kR HO_52 hb; replace BK244 := kB BK244 hb; replace HI248 := Aside0.mk (IsS59.below (by repeat (first | (with_reducible first | exact HI248.out | apply IsS59.alloc | apply IsS59.drewN | apply IsS59.drew | apply IsS59.set_1 | refine IsS59.far ?_ NB248_244.out _ | refine IsS59.far ?_ NB248_255.out _ | refine IsS59.far ?_ NB248_263.out _) | exact HI248.out)) hb); replace BK255 := Aside0.mk (blk_below (g := gb255) (o := .cells #[.int .i64 ((rd_T51 y251 x54_1).f0), .int .i64 ((rd_T51 y251 x54_1).f1)] 51 (0, 0)) (by (with_reducible repeat (first | refine blk_drewN ?_ _ | refine blk_drew ?_ | refine blk_alloc ?_ _)); exact BK255.out) hb); replace BK263 := kB BK263 hb; replace HB := kH HB hb; (try clear hb); (try clear hb2); (try clear hk); (try clear hi)) | ((with_reducible refine gate_dst (N := 20) rfl ?_); refine box_event ?hg (N := 20) ?hd (cs := #[.int .i64 0, .int .i64 0]) (t := 31) ?hr ?_; (case hd => rfl); (case hg => rfl); (case hr => first | (go_simp; done) | (go_simp; rfl)); intro gb267 hg w47 hbox hb; have BK267 := Aside0.mk (hbox); have GW267 := kG HB hg; have GE267 := kG HB hg; have NB244_267 := kN BK244 hg; have NB267_244 := kM BK244 hg; have NB255_267 := Aside0.mk ((by rw [hg]; exact Nat.ne_of_lt (blk_lt (g := gb255) (o := .cells #[.int .i64 ((rd_T51 y251 x54_1).f0), .int .i64 ((rd_T51 y251 x54_1).f1)] 51 (0, 0)) (by (with_reducible repeat (first | refine blk_drewN ?_ _ | refine blk_drew ?_ | refine blk_alloc ?_ _)); exact BK255.out)) : gb255 ≠ gb267)); have NB267_255 := Aside0.mk ((by rw [hg]; exact Nat.ne_of_gt (blk_lt (g := gb255) (o := .cells #[.int .i64 ((rd_T51 y251 x54_1).f0), .int .i64 ((rd_T51 y251 x54_1).f1)] 51 (0, 0)) (by (with_reducible repeat (first | refine blk_drewN ?_ _ | refine blk_drew ?_ | refine blk_alloc ?_ _)); exact BK255.out)) : gb267 ≠ gb255)); have NB263_267 := kN BK263 hg; have NB267_263 := kM BK263 hg; have NB248_267 := Aside0.mk ((by rw [hg]; exact Nat.ne_of_lt (IsS59.lt (show IsS59 w _ g248 t246 x249001_1 from by repeat (first | (with_reducible first | exact HI248.out | apply IsS59.alloc | apply IsS59.drewN | apply IsS59.drew | apply IsS59.set_1 | refine IsS59.far ?_ NB248_244.out _ | refine IsS59.far ?_ NB248_255.out _ | refine IsS59.far ?_ NB248_263.out _) | exact HI248.out))) : g248 ≠ gb267)); have NB267_248 := Aside0.mk ((by rw [hg]; exact Nat.ne_of_gt (IsS59.lt (show IsS59 w _ g248 t246 x249001_1 from by repeat (first | (with_reducible first | exact HI248.out | apply IsS59.alloc | apply IsS59.drewN | apply IsS59.drew | apply IsS59.set_1 | refine IsS59.far ?_ NB248_244.out _ | refine IsS59.far ?_ NB248_255.out _ | refine IsS59.far ?_ NB248_263.out _) | exact HI248.out))) : gb267 ≠ g248)); replace HO_3 := Aside0.mk (Kd.V_below (Kd.V_elderB (by (with_reducible repeat (first | apply Kd.V_alloc | apply Kd.V_drewN | apply Kd.V_drew)); exact HO_3.out) gb267 (Nat.le_of_eq hg.symm)) hb); replace HO_52 := kR HO_52 hb; replace BK244 := kB BK244 hb; replace HI248 := Aside0.mk (IsS59.below (by repeat (first | (with_reducible first | exact HI248.out | apply IsS59.alloc | apply IsS59.drewN | apply IsS59.drew | apply IsS59.set_1 | refine IsS59.far ?_ NB248_244.out _ | refine IsS59.far ?_ NB248_255.out _ | refine IsS59.far ?_ NB248_263.out _) | exact HI248.out)) hb); replace BK255 := Aside0.mk (blk_below (g := gb255) (o := .cells #[.int .i64 ((rd_T51 y251 x54_1).f0), .int .i64 ((rd_T51 y251 x54_1).f1)] 51 (0, 0)) (by (with_reducible repeat (first | refine blk_drewN ?_ _ | refine blk_drew ?_ | refine blk_alloc ?_ _)); exact BK255.out) hb); replace BK263 := kB BK263 hb; replace HB := kH HB hb; clear hb hbox hg; have hnb48 := NB267_244.out; have hnc48 := NB244_267.out; have hnb49 := NB267_255.out; have hnc49 := NB255_267.out; have hnb50 := NB267_263.out; have hnc50 := NB263_267.out; have hnb51 := NB267_248.out; have hnc51 := NB248_267.out; have hcz52_0 : w47.cell? ⟨gb267, 0, none⟩ = some (.int .i64 0) := (blk_cell BK267.out 0).trans rfl; have hcz52_1 : w47.cell? ⟨gb267, 1, none⟩ = some (.int .i64 0) := (blk_cell BK267.out 1).trans rfl; have hfz52_0 := blk_frozen BK267.out 0; have hfz52_1 := blk_frozen BK267.out 1) | ((with_reducible refine gate_store (t := 31) (p := 20) rfl ?_); refine store_event (t := 31) (p := 20) (v := ?vo_w53) (w1 := ((w47.setCell ⟨gb267, 0, none⟩ (.int .i64 t264)).setCell ⟨gb267, 1, none⟩ (.int .i64 t265))) ?hg ?ho ?hn ?hr ?_; (case ho => rfl); (case hg => rfl); (case hn => rfl); (case hr => first | (go_simp; done) | (go_simp; rfl)); intro w53 hw; replace HO_3 : Aside0 (Kd.V (Kd.int .i64) 3 w53 w.heap.size (fun k_ => (P3_ k_ ∨ w.heap.size ≤ k_) ∧ some k_ ≠ (.slice (some ad254) y251.length co19 : Value).ownBlock ∧ k_ ≠ gb244 ∧ k_ ≠ g248 ∧ k_ ≠ gb255 ∧ k_ ≠ gb263 ∧ k_ ≠ gb267) (.slice A3 l3.length c3) l3) := ⟨(by rw [hw]; exact (by (with_reducible repeat (first | apply Kd.V_alloc | apply Kd.V_drewN | apply Kd.V_drew)); exact Kd.V_mono (Kd.V_far (p := ⟨gb267, 1, none⟩) (Kd.V_far (p := ⟨gb267, 0, none⟩) (Kd.V_mono HO_3.out (fun k_ hk => (⟨hk, hk.2⟩ : _ ∧ k_ ≠ gb267))) (fun _ hk => hk.2) (.int .i64 t264)) (fun _ hk => hk.2) (.int .i64 t265)) (fun _ hk => ⟨hk.1.1.1, ⟨hk.1.1.2.1, ⟨hk.1.1.2.2.1, ⟨hk.1.1.2.2.2.1, ⟨hk.1.1.2.2.2.2.1, ⟨hk.1.1.2.2.2.2.2, hk.1.2⟩⟩⟩⟩⟩⟩)))⟩; replace HO_52 := kFR HO_52 BK267 hw (by decide); replace BK244 := kF BK244 NB244_267 hw; replace BK255 := kF BK255 NB255_267 hw; replace BK263 := kF BK263 NB263_267 hw; replace BK267 : Aside0 (w53.heap[gb267]? = some (.cells #[.int .i64 t264, .int .i64 t265] 31 (0, 0))) := ⟨(by rw [hw]; exact (by (with_reducible repeat (first | refine blk_drewN ?_ _ | refine blk_drew ?_ | refine blk_alloc ?_ _)); refine blk_put (cs := #[.int .i64 t264, .int .i64 0]) ?_ 1 _ rfl; (with_reducible repeat (first | refine blk_drewN ?_ _ | refine blk_drew ?_ | refine blk_alloc ?_ _)); refine blk_put (cs := #[.int .i64 0, .int .i64 0]) ?_ 0 _ rfl; (with_reducible repeat (first | refine blk_drewN ?_ _ | refine blk_drew ?_ | refine blk_alloc ?_ _)); exact BK267.out))⟩; replace HI248 : Aside0 (IsS59 w w53 g248 t246 x249001_1) := ⟨(by rw [hw]; exact (by repeat (first | (with_reducible first | exact HI248.out | apply IsS59.alloc | apply IsS59.drewN | apply IsS59.drew | apply IsS59.set_1 | refine IsS59.far ?_ NB248_244.out _ | refine IsS59.far ?_ NB248_255.out _ | refine IsS59.far ?_ NB248_263.out _ | refine IsS59.far ?_ NB248_267.out _) | exact HI248.out)))⟩; replace HB := kFH HB GE267 hw; clear hw))
        (try simp only [Act.put, List.setIfInBounds_toArray, List.set_cons_zero, List.set_cons_succ])
        go_cut [107] (fun v107 wc => ∃ (kq : Nat) (x107_26 : Bool), v107 = .bool x107_26 ∧ Aside0 (synopticlaw39_SamplingCounts.j1 kq a1 l3 y251 (y251.length : Int) x54_1 x107_26 a2_0 a2_1 t246 x249001_1 ((rd_T51 y251 x54_1).f0) ((rd_T51 y251 x54_1).f1) = some r) ∧ Aside0 (kq ≤ k1) ∧ Aside0 (Kd.V (Kd.int .i64) 3 wc w.heap.size (fun k_ => (P3_ k_ ∨ w.heap.size ≤ k_) ∧ some k_ ≠ ((.slice (some ad254) y251.length co19) : Value).ownBlock ∧ k_ ≠ gb244 ∧ k_ ≠ gb255 ∧ k_ ≠ gb263 ∧ k_ ≠ gb267 ∧ k_ ≠ g248) (.slice A3 l3.length c3) l3) ∧ Aside0 (Kd.R k51 51 wc w.heap.size (fun k_ => (w.heap.size ≤ k_) ∧ k_ ≠ gb255) (.slice (some ad254) y251.length co19) y251) ∧ Aside0 (wc.heap[gb244]? = some (.cells #[.int .i64 a2_0, .int .i64 a2_1] 31 (0, 0))) ∧ Aside0 (wc.heap[gb255]? = some (.cells #[.int .i64 ((rd_T51 y251 x54_1).f0), .int .i64 ((rd_T51 y251 x54_1).f1)] 51 (0, 0))) ∧ Aside0 (wc.heap[gb263]? = some (.cells #[.int .i64 t260, .int .i64 t261] 31 (0, 0))) ∧ Aside0 (wc.heap[gb267]? = some (.cells #[.int .i64 t264, .int .i64 t265] 31 (0, 0))) ∧ Aside0 (IsS59 w wc g248 t246 x249001_1) ∧ Aside0 (Below w.heap.size w wc))
        case first =>
         have H := HC27.out
         clear HC27
         by_cases c54 : t256 = t258
         ·rw [if_pos c54] at H
          have c54b0 : (t256 == t258) = true := beq_iff_eq.mpr c54
          have c54b1 : (t256 != t258) = false := bne_eq_false_iff_eq.mpr c54
          clear c54
          (first | rw [c54b0] | (simp only [i64_w, i32_w]; rw [c54b0]) | skip)
          by_cases c55 : t257 = t259
          ·rw [if_pos c55] at H
           have c55b0 : (t257 == t259) = true := beq_iff_eq.mpr c55
           have c55b1 : (t257 != t259) = false := bne_eq_false_iff_eq.mpr c55
           clear c55
           by_cases c56 : (!(t260 == t264) || (!(t261 == t265))) = true
           ·rw [if_pos c56] at H
            exact absurd H (by simp)
           ·rw [if_neg c56] at H
            have c56b0 : (!(t260 == t264) || (!(t261 == t265))) = false := by simpa using c56
            clear c56
            by_cases c57 : (t262 != t266) = true
            ·rw [if_pos c57] at H
             exact absurd H (by simp)
            ·rw [if_neg c57] at H
             have c57b0 : (t262 != t266) = false := by simpa using c57
             (try (have c57b1 : decide (t262 = t266) = true := by simpa using c57))
             (try (have c57b2 : (t262 == t266) = true := by simpa using c57))
             clear c57
             have H' := Aside0.mk H
             clear H
             have hnb58 := NB263_244.out
             have hnc58 := NB244_263.out
             have hnb59 := NB263_255.out
             have hnc59 := NB255_263.out
             have hnb60 := NB263_267.out
             have hnc60 := NB267_263.out
             have hnb61 := NB263_248.out
             have hnc61 := NB248_263.out
             have hcz62_0 : w53.cell? ⟨gb263, 0, none⟩ = some (.int .i64 t260) := (blk_cell BK263.out 0).trans rfl
             have hcz62_1 : w53.cell? ⟨gb263, 1, none⟩ = some (.int .i64 t261) := (blk_cell BK263.out 1).trans rfl
             have hfz62_0 := blk_frozen BK263.out 0
             have hfz62_1 := blk_frozen BK263.out 1
             have hnb63 := NB267_244.out
             have hnc63 := NB244_267.out
             have hnb64 := NB267_255.out
             have hnc64 := NB255_267.out
             have hnb65 := NB267_248.out
             have hnc65 := NB248_267.out
             have hcz66_0 : w53.cell? ⟨gb267, 0, none⟩ = some (.int .i64 t264) := (blk_cell BK267.out 0).trans rfl
             have hcz66_1 : w53.cell? ⟨gb267, 1, none⟩ = some (.int .i64 t265) := (blk_cell BK267.out 1).trans rfl
             have hfz66_0 := blk_frozen BK267.out 0
             have hfz66_1 := blk_frozen BK267.out 1
             go_wp2
             go_meet
             case rel => exact ⟨_, (false), (by first | rfl | (simp; done) | (simp [*]; done)), H', ⟨by have := HK1.out; first | omega | exact Nat.le_refl _⟩, ⟨by (with_reducible repeat (first | apply Kd.V_alloc | apply Kd.V_drewN | apply Kd.V_drew)); exact Kd.V_mono HO_3.out (fun _ hk => ⟨hk.1, ⟨hk.2.1, ⟨hk.2.2.1, ⟨hk.2.2.2.2.1, ⟨hk.2.2.2.2.2.1, ⟨hk.2.2.2.2.2.2, hk.2.2.2.1⟩⟩⟩⟩⟩⟩)⟩, ⟨by (with_reducible repeat (first | apply Kd.R_alloc | apply Kd.R_drewN | apply Kd.R_drew)); exact HO_52.out⟩, ⟨by (with_reducible repeat (first | refine blk_drewN ?_ _ | refine blk_drew ?_ | refine blk_alloc ?_ _)); exact BK244.out⟩, ⟨by (with_reducible repeat (first | refine blk_drewN ?_ _ | refine blk_drew ?_ | refine blk_alloc ?_ _)); exact BK255.out⟩, ⟨by (with_reducible repeat (first | refine blk_drewN ?_ _ | refine blk_drew ?_ | refine blk_alloc ?_ _)); exact BK263.out⟩, ⟨by (with_reducible repeat (first | refine blk_drewN ?_ _ | refine blk_drew ?_ | refine blk_alloc ?_ _)); exact BK267.out⟩, ⟨by repeat (first | (with_reducible first | exact HI248.out | apply IsS59.alloc | apply IsS59.drewN | apply IsS59.drew | apply IsS59.set_1 | refine IsS59.far ?_ NB248_244.out _ | refine IsS59.far ?_ NB248_255.out _ | refine IsS59.far ?_ NB248_263.out _ | refine IsS59.far ?_ NB248_267.out _) | exact HI248.out)⟩, ⟨by repeat (first | (with_reducible first | exact HB.out | apply below_alloc | apply pw_below_drewN | apply below_drew1 | refine below_set ?_ (IsS59.ge HI248.out) | refine below_set ?_ GE244.out | refine below_set ?_ GE255.out | refine below_set ?_ GE263.out | refine below_set ?_ GE267.out) | exact HB.out)⟩⟩
          ·rw [if_neg c55] at H
           exact absurd H (by simp)
         ·rw [if_neg c54] at H
          exact absurd H (by simp)
        case rest =>
         clear HC27
         (try clear c1); (try clear c2); (try clear p2); (try clear q2); (try clear hx2); (try clear c3); (try clear c4); (try clear c5); (try clear c6); (try clear p6); (try clear c7); (try clear c8); (try clear c8b0); (try clear c8b1); (try clear c9); (try clear c11); (try clear c20); (try clear c20b0); (try clear c21); (try clear c21b0); (try clear c22); (try clear c22b0); (try clear c23)
         (try clear c24); (try clear c25); (try clear p25); (try clear q25); (try clear hx25); (try clear c26); (try clear c29); (try clear c30); (try clear c40); (try clear c41); (try clear c42); (try clear c48); (try clear c49); (try clear c50); (try clear c51); (try clear c54); (try clear c54b0); (try clear c54b1); (try clear c55); (try clear c55b0); (try clear c55b1); (try clear c56); (try clear c56b0)
         (try clear c57); (try clear c57b0); (try clear c57b1); (try clear c57b2); (try clear c58); (try clear c59); (try clear c60); (try clear c61); (try clear c63); (try clear c64); (try clear p64); (try clear c65); (try clear hcz31_0); (try clear hcz31_1); (try clear hcz33_0); (try clear hcz33_1); (try clear hcz35_0); (try clear hcz35_1); (try clear hcz37_0); (try clear hcz37_1); (try clear hcz43_0)
         (try clear hcz43_1); (try clear hcz45_0); (try clear hcz45_1); (try clear hcz52_0); (try clear hcz52_1); (try clear hcz62_0); (try clear hcz62_1); (try clear hcz66_0); (try clear hcz66_1); (try clear hfz31_0); (try clear hfz31_1); (try clear hfz33_0); (try clear hfz33_1); (try clear hfz35_0); (try clear hfz35_1); (try clear hfz37_0); (try clear hfz37_1); (try clear hfz43_0); (try clear hfz43_1)
         (try clear hfz45_0); (try clear hfz45_1); (try clear hfz52_0); (try clear hfz52_1); (try clear hfz62_0); (try clear hfz62_1); (try clear hfz66_0); (try clear hfz66_1); (try clear hx254_0); (try clear hx254_1); (try clear p2); (try clear p254); (try clear p6); (try clear q254)
         obtain ⟨kq, x107_26, rfl, HA, HJ26, HO_3, HO_52, BK244, BK255, BK263, BK267, HI248, HB⟩ := hcut
         cases kq with
         | zero => exact absurd HA.out (by simp [synopticlaw39_SamplingCounts.j1])
         | succ kj26 =>
          have H := HA.out
          clear HA
          simp only [synopticlaw39_SamplingCounts.j1] at H
          by_cases c67 : x107_26 = true
          ·subst c67
           have H1 : (none) = some r := by rw [if_pos rfl] at H; exact H
           clear H
           have H := H1
           clear H1
           exact absurd H (by simp)
          ·replace c67 := Bool.eq_false_iff.mpr c67
           subst c67
           have H1 : ((synopticlaw39_level.f kj26 a1).bind fun bt268 => ((some (([(⟨a2_0, a2_1⟩ : S31), (⟨bt268.1, bt268.2⟩ : S31), (⟨2, 4⟩ : S31), (⟨1, 1⟩ : S31), (⟨0, 1⟩ : S31)] : List (S31)) : List (S31))).bind fun y270 => (synopticlaw39_SamplingCounts.l1 kj26 a1 l3 y251 (y251.length : Int) x54_1 y270 (y270.length : Int) 0 a2_0 a2_1 t246 x249001_1 ((rd_T51 y251 x54_1).f0) ((rd_T51 y251 x54_1).f1)))) = some r := by rw [if_neg (show ¬ (false = true) by decide)] at H; exact H
           clear H
           have H := H1
           clear H1
           replace H := Option.bind_eq_some_iff.mp H
           obtain ⟨⟨t268, t269⟩, A680, H⟩ := H
           replace H : ((some (([(⟨a2_0, a2_1⟩ : S31), (⟨t268, t269⟩ : S31), (⟨2, 4⟩ : S31), (⟨1, 1⟩ : S31), (⟨0, 1⟩ : S31)] : List (S31)) : List (S31))).bind fun y270 => (synopticlaw39_SamplingCounts.l1 kj26 a1 l3 y251 (y251.length : Int) x54_1 y270 (y270.length : Int) 0 a2_0 a2_1 t246 x249001_1 ((rd_T51 y251 x54_1).f0) ((rd_T51 y251 x54_1).f1))) = some r := H
           have A68 := Aside0.mk A680
           clear A680
           obtain ⟨y270, hy270⟩ : ∃ y_ : List (S31), y_ = (([(⟨a2_0, a2_1⟩ : S31), (⟨t268, t269⟩ : S31), (⟨2, 4⟩ : S31), (⟨1, 1⟩ : S31), (⟨0, 1⟩ : S31)] : List (S31))) := ⟨_, rfl⟩
           replace H : (synopticlaw39_SamplingCounts.l1 kj26 a1 l3 y251 (y251.length : Int) x54_1 y270 (y270.length : Int) 0 a2_0 a2_1 t246 x249001_1 ((rd_T51 y251 x54_1).f0) ((rd_T51 y251 x54_1).f1)) = some r := by first | (rw [hy270]; with_reducible exact H) | (have H2_ := (Option.bind_some _ _).symm.trans H; rw [hy270]; with_reducible exact H2_) | (have H2_ := (Option.bind_some _ _).symm.trans H; with_reducible exact H2_) | with_reducible exact H | (rw [hy270]; exact H) | exact H
           have Ny270 := Aside0.mk hy270
           clear hy270
           have H' := Aside0.mk H
           clear H
           try go_wp2
           replace HO_3 := Aside0.mk (Kd.V_drew HO_3.out); replace HO_52 := Aside0.mk (Kd.R_drew HO_52.out); replace BK244 := Aside0.mk (blk_drew BK244.out); replace BK255 := Aside0.mk (blk_drew BK255.out); replace BK263 := Aside0.mk (blk_drew BK263.out); replace BK267 := Aside0.mk (blk_drew BK267.out); replace HI248 := Aside0.mk (IsS59.drew HI248.out); replace HB := Aside0.mk (below_drew1 HB.out)
           refine start_ (n := 9) (S := fun w' => w'.cell? ⟨gb244, 0, none⟩ = some (.int .i64 a2_0) ∧ w'.cell? ⟨gb244, 1, none⟩ = some (.int .i64 a2_1)) (ds := []) mB0 (by kernel_rfl) rfl rfl ⟨(blk_cell BK244.out 0).trans rfl, (blk_cell BK244.out 1).trans rfl⟩ (fun hHeld => ?_); refine with_tabW synopticlaw39_SamplingCounts.tab15 synopticlaw39_SamplingCounts.bits15 (fun HT_ HW_ => ?_)
           generalize wc.drew = w69 at HO_3 HO_52 BK244 BK255 BK263 BK267 HI248 HB hHeld ⊢
           refine pure_ (i := 1) (N := some 109) (v := ?_) (a' := ?_) mB1 rfl rfl (any_of HT_.out (by kernel_rfl)) (fun _ _ _ h => h) (Or.inl ⟨by rfl, ?_⟩) ?_ ?_; rotate_left; (intro w'; go_simp; with_reducible rfl); rotate_left; (simp only [Act.put, List.setIfInBounds_toArray, List.set_cons_zero, List.set_cons_succ, i64_w, i32_w]; rfl)
           refine pure_ (i := 3) (N := some 111) (v := ?_) (a' := ?_) mB2 rfl rfl (any_of HT_.out (by kernel_rfl)) (fun _ _ _ h => h) (Or.inl ⟨by rfl, ?_⟩) ?_ ?_; rotate_left; (intro w'; go_simp; with_reducible rfl); rotate_left; (simp only [Act.put, List.setIfInBounds_toArray, List.set_cons_zero, List.set_cons_succ, i64_w, i32_w]; rfl)
           refine pure_ (i := 4) (N := some 112) (v := ?_) (a' := ?_) mB3 rfl rfl (any_of HT_.out (by kernel_rfl)) (fun _ _ _ h => h) (Or.inl ⟨by rfl, ?_⟩) ?_ ?_; rotate_left; (intro w'; go_simp; with_reducible rfl); rotate_left; (simp only [Act.put, List.setIfInBounds_toArray, List.set_cons_zero, List.set_cons_succ, i64_w, i32_w]; rfl)
           refine pure_ (i := 5) (N := some 113) (v := ?_) (a' := ?_) mB4 rfl rfl (any_of HT_.out (by kernel_rfl)) (fun _ _ _ h => h) (Or.inl ⟨by rfl, ?_⟩) ?_ ?_; rotate_left; (intro w'; go_simp; with_reducible rfl); rotate_left; (simp only [Act.put, List.setIfInBounds_toArray, List.set_cons_zero, List.set_cons_succ, i64_w, i32_w]; rfl)
           refine pure_ (i := 8) (N := some 116) (v := ?_) (a' := ?_) mB5 rfl rfl (any_of HT_.out (by kernel_rfl)) (fun _ _ _ h => h) (Or.inl ⟨by rfl, ?_⟩) ?_ ?_; rotate_left; (intro w'; go_simp; with_reducible rfl); rotate_left; (simp only [Act.put, List.setIfInBounds_toArray, List.set_cons_zero, List.set_cons_succ, i64_w, i32_w]; rfl)
           refine take_ (i := 0) (N := some 108) (v := ?_) (a' := ?_) mB6 rfl rfl (take_ofW HT_.out HW_.out (by kernel_rfl)) (fun _ _ _ h => h) (Or.inl ⟨by rfl, ?_⟩) hHeld ?_ ?_; rotate_left; (rintro w' ⟨s0, s1⟩; go_simp; with_reducible rfl); rotate_left; (simp only [Act.put, List.setIfInBounds_toArray, List.set_cons_zero, List.set_cons_succ, i64_w, i32_w]; rfl)
           refine one_ (i := 2) (N := some 110) mB7 rfl rfl (one_of HT_.out (by kernel_rfl)) (by decide) (fun K hK => ?_)
           refine goes_ Try.func18 (by kernel_rfl) rfl #[.int .i64 a1] (by rfl) rfl rfl (by (try simp only [List.map_toArray, List.map_cons, List.map_nil]); first | done | rfl | (simp only [List.length_drop, List.length_take]; rfl)) ?_
           with_reducible refine (synopticlaw39_level.calls kj26 a1 t268 t269 _ A68.out).mono ?_
           rintro e w70 ⟨rfl, hb⟩
           refine ⟨_, rfl, ?_⟩
           replace HO_3 := Aside0.mk (Kd.V_below (by (with_reducible repeat (first | apply Kd.V_alloc | apply Kd.V_drewN | apply Kd.V_drew)); exact HO_3.out) hb); replace HO_52 := kR HO_52 hb; replace BK244 := kB BK244 hb; replace BK255 := Aside0.mk (blk_below (g := gb255) (o := .cells #[.int .i64 ((rd_T51 y251 x54_1).f0), .int .i64 ((rd_T51 y251 x54_1).f1)] 51 (0, 0)) (by (with_reducible repeat (first | refine blk_drewN ?_ _ | refine blk_drew ?_ | refine blk_alloc ?_ _)); exact BK255.out) hb); replace BK263 := kB BK263 hb; replace BK267 := kB BK267 hb; replace HI248 := Aside0.mk (IsS59.below (by repeat (first | (with_reducible first | exact HI248.out | apply IsS59.alloc | apply IsS59.drewN | apply IsS59.drew | apply IsS59.set_1 | refine IsS59.far ?_ NB248_244.out _ | refine IsS59.far ?_ NB248_255.out _ | refine IsS59.far ?_ NB248_263.out _ | refine IsS59.far ?_ NB248_267.out _) | exact HI248.out)) hb); replace HB := kH HB hb
           (try clear hb)
           (try clear hb2)
           (try clear hk)
           (try clear hi)
           refine hK.out _ _ ⟨(blk_cell BK244.out 0).trans rfl, (blk_cell BK244.out 1).trans rfl⟩ (fun hHeld => ?_)
           clear hK K
           refine norm_ (a' := ?_) ?_ ?_
           rotate_left
           ·show Act.put _ (some 110) _ = _
            simp only [Act.put, List.setIfInBounds_toArray, List.set_cons_zero, List.set_cons_succ, i64_w, i32_w]
            rfl
           refine one_ (i := 6) (N := some 114) mB8 rfl rfl (one_of HT_.out (by kernel_rfl)) (by decide) (fun K hK => ?_)
           refine Kd.R_lit_step k31 _ 31 ?hg (N := 114) ?hd (xs := ([(⟨a2_0, a2_1⟩ : S31), (⟨t268, t269⟩ : S31), (⟨2, 4⟩ : S31), (⟨1, 1⟩ : S31), (⟨0, 1⟩ : S31)] : List (S31))) (inner := [.int .i64 a2_0, .int .i64 a2_1, .int .i64 t268, .int .i64 t269, .int .i64 2, .int .i64 4, .int .i64 1, .int .i64 1, .int .i64 0, .int .i64 1]) (ok := fun _ => True) (okp := fun _ => True) ?hr ?hp (fun _ hk => hk) trivial (Below.refl _ _) (Nat.le_refl _) (by simp) ?_; (case hd => rfl); (case hg => rfl); (case hr => first | (go_simp; done) | (go_simp; rfl)); (case hp => exact (Reps.c2 (show Kd.M k31 _ _ _ (⟨a2_0, a2_1⟩ : S31) [.int .i64 a2_0, .int .i64 a2_1] from (k31_mkM _ _ _ (⟨a2_0, a2_1⟩ : S31) )) (Reps.c2 (show Kd.M k31 _ _ _ (⟨t268, t269⟩ : S31) [.int .i64 t268, .int .i64 t269] from (k31_mkM _ _ _ (⟨t268, t269⟩ : S31) )) (Reps.c2 (show Kd.M k31 _ _ _ (⟨2, 4⟩ : S31) [.int .i64 2, .int .i64 4] from (k31_mkM _ _ _ (⟨2, 4⟩ : S31) )) (Reps.c2 (show Kd.M k31 _ _ _ (⟨1, 1⟩ : S31) [.int .i64 1, .int .i64 1] from (k31_mkM _ _ _ (⟨1, 1⟩ : S31) )) (Reps.c2 (show Kd.M k31 _ _ _ (⟨0, 1⟩ : S31) [.int .i64 0, .int .i64 1] from (k31_mkM _ _ _ (⟨0, 1⟩ : S31) )) (Reps.none _ _)))))))
           intro v271 w71 ho72 hb hg_ hnew_
           clear hg_ hnew_
           (first | rw [← Ny270.out] at ho72 | (simp only [Int.reduceToNat] at ho72; rw [← Ny270.out] at ho72))
           have HO272 := Aside0.mk (Kd.R_lower (Kd.R_newB (Kd.R_newB (Kd.R_newB (Kd.R_newM (M := fun k_ => (w.heap.size ≤ k_)) ho72 (below_size (by repeat (first | (with_reducible first | exact HB.out | apply below_alloc | apply pw_below_drewN | apply below_drew1 | refine below_set ?_ (IsS59.ge HI248.out) | refine below_set ?_ GE244.out | refine below_set ?_ GE255.out | refine below_set ?_ GE263.out | refine below_set ?_ GE267.out) | exact HB.out))) (fun k_ h_ => h_)) (g := gb244) (o := .cells #[.int .i64 a2_0, .int .i64 a2_1] 31 (0, 0)) (by (with_reducible repeat (first | refine blk_drewN ?_ _ | refine blk_drew ?_ | refine blk_alloc ?_ _)); exact BK244.out)) (g := gb263) (o := .cells #[.int .i64 t260, .int .i64 t261] 31 (0, 0)) (by (with_reducible repeat (first | refine blk_drewN ?_ _ | refine blk_drew ?_ | refine blk_alloc ?_ _)); exact BK263.out)) (g := gb267) (o := .cells #[.int .i64 t264, .int .i64 t265] 31 (0, 0)) (by (with_reducible repeat (first | refine blk_drewN ?_ _ | refine blk_drew ?_ | refine blk_alloc ?_ _)); exact BK267.out)) (below_size (by repeat (first | (with_reducible first | exact HB.out | apply below_alloc | apply pw_below_drewN | apply below_drew1 | refine below_set ?_ (IsS59.ge HI248.out) | refine below_set ?_ GE244.out | refine below_set ?_ GE255.out | refine below_set ?_ GE263.out | refine below_set ?_ GE267.out) | exact HB.out)))); replace HO_3 := Aside0.mk (Kd.V_elder' (by (with_reducible repeat (first | apply Kd.V_alloc | apply Kd.V_drewN | apply Kd.V_drew)); exact HO_3.out) (Kd.R_base ho72) hb); replace HO_52 := kR HO_52 hb; replace BK244 := kB BK244 hb; replace BK255 := Aside0.mk (blk_below (g := gb255) (o := .cells #[.int .i64 ((rd_T51 y251 x54_1).f0), .int .i64 ((rd_T51 y251 x54_1).f1)] 51 (0, 0)) (by (with_reducible repeat (first | refine blk_drewN ?_ _ | refine blk_drew ?_ | refine blk_alloc ?_ _)); exact BK255.out) hb); replace BK263 := kB BK263 hb; replace BK267 := kB BK267 hb; replace HI248 := Aside0.mk (IsS59.below (by repeat (first | (with_reducible first | exact HI248.out | apply IsS59.alloc | apply IsS59.drewN | apply IsS59.drew | apply IsS59.set_1 | refine IsS59.far ?_ NB248_244.out _ | refine IsS59.far ?_ NB248_255.out _ | refine IsS59.far ?_ NB248_263.out _ | refine IsS59.far ?_ NB248_267.out _) | exact HI248.out)) hb); replace HB := kH HB hb
           clear hb ho72
           obtain ⟨Ao73, co73, eo73⟩ := Kd.R_slice HO272.out
           (first | subst eo73 | (injection eo73 with f1_ f2_ f3_; have f4_ := f1_.symm; have f5_ := f3_.symm; clear f1_ f2_ f3_; subst f4_; subst f5_))
           refine hK.out _ _ ⟨(blk_cell BK244.out 0).trans rfl, (blk_cell BK244.out 1).trans rfl⟩ (fun hHeld => ?_)
           clear hK K
           refine norm_ (a' := ?_) ?_ ?_
           rotate_left
           ·show Act.put _ (some 114) _ = _
            simp only [Act.put, List.setIfInBounds_toArray, List.set_cons_zero, List.set_cons_succ, i64_w, i32_w]
            rfl
           refine pure_ (i := 7) (N := some 115) (v := ?_) (a' := ?_) mB9 rfl rfl (any_of HT_.out (by kernel_rfl)) (fun _ _ _ h => h) (Or.inl ⟨by rfl, ?_⟩) ?_ ?_; rotate_left; (intro w'; go_simp; with_reducible rfl); rotate_left; (simp only [Act.put, List.setIfInBounds_toArray, List.set_cons_zero, List.set_cons_succ, i64_w, i32_w]; rfl)
           refine done_ (done_of HT_.out (by kernel_rfl)) ?_
           try go_wp2
           go_loopg [116] kj26 (fun kq v116 w' => ∃ (x116_3 : Int) (x249001_3 : Int), v116 = .int .i64 x116_3 ∧ Aside0 (synopticlaw39_SamplingCounts.l1 kq a1 l3 y251 (y251.length : Int) x54_1 y270 (y270.length : Int) x116_3 a2_0 a2_1 t246 x249001_3 ((rd_T51 y251 x54_1).f0) ((rd_T51 y251 x54_1).f1) = some r) ∧ Aside0 (kq ≤ kj26) ∧ Aside0 (Kd.V (Kd.int .i64) 3 w' w.heap.size (fun k_ => (P3_ k_ ∨ w.heap.size ≤ k_) ∧ some k_ ≠ ((.slice (some ad254) y251.length co19) : Value).ownBlock ∧ some k_ ≠ ((.slice Ao73 y270.length co73) : Value).ownBlock ∧ k_ ≠ gb244 ∧ k_ ≠ gb255 ∧ k_ ≠ gb263 ∧ k_ ≠ gb267 ∧ k_ ≠ g248) (.slice A3 l3.length c3) l3) ∧ Aside0 (Kd.R k51 51 w' w.heap.size (fun k_ => (w.heap.size ≤ k_) ∧ k_ ≠ gb255) (.slice (some ad254) y251.length co19) y251) ∧ Aside0 (Kd.R k31 31 w' w.heap.size (fun k_ => (w.heap.size ≤ k_) ∧ k_ ≠ gb244 ∧ k_ ≠ gb263 ∧ k_ ≠ gb267) (.slice Ao73 y270.length co73) y270) ∧ Aside0 (w'.heap[gb244]? = some (.cells #[.int .i64 a2_0, .int .i64 a2_1] 31 (0, 0))) ∧ Aside0 (w'.heap[gb255]? = some (.cells #[.int .i64 ((rd_T51 y251 x54_1).f0), .int .i64 ((rd_T51 y251 x54_1).f1)] 51 (0, 0))) ∧ Aside0 (w'.heap[gb263]? = some (.cells #[.int .i64 t260, .int .i64 t261] 31 (0, 0))) ∧ Aside0 (w'.heap[gb267]? = some (.cells #[.int .i64 t264, .int .i64 t265] 31 (0, 0))) ∧ Aside0 (IsS59 w w' g248 t246 x249001_3) ∧ Aside0 (Below w.heap.size w w'))
           case atStart => exact ⟨(0), (x249001_1), (by first | rfl | (simp; done) | (simp [*]; done)), H', ⟨Nat.le_refl _⟩, ⟨by (with_reducible repeat (first | apply Kd.V_alloc | apply Kd.V_drewN | apply Kd.V_drew)); exact Kd.V_mono HO_3.out (fun _ hk => ⟨hk.1.1, ⟨hk.1.2.1, ⟨hk.2, ⟨hk.1.2.2.1, ⟨hk.1.2.2.2.1, ⟨hk.1.2.2.2.2.1, ⟨hk.1.2.2.2.2.2.1, hk.1.2.2.2.2.2.2⟩⟩⟩⟩⟩⟩⟩)⟩, ⟨by (with_reducible repeat (first | apply Kd.R_alloc | apply Kd.R_drewN | apply Kd.R_drew)); exact HO_52.out⟩, ⟨by (with_reducible repeat (first | apply Kd.R_alloc | apply Kd.R_drewN | apply Kd.R_drew)); exact Kd.R_mono HO272.out (fun _ hk => ⟨hk.1.1.1.1, ⟨hk.1.1.2, ⟨hk.1.2, hk.2⟩⟩⟩)⟩, ⟨by (with_reducible repeat (first | refine blk_drewN ?_ _ | refine blk_drew ?_ | refine blk_alloc ?_ _)); exact BK244.out⟩, ⟨by (with_reducible repeat (first | refine blk_drewN ?_ _ | refine blk_drew ?_ | refine blk_alloc ?_ _)); exact BK255.out⟩, ⟨by (with_reducible repeat (first | refine blk_drewN ?_ _ | refine blk_drew ?_ | refine blk_alloc ?_ _)); exact BK263.out⟩, ⟨by (with_reducible repeat (first | refine blk_drewN ?_ _ | refine blk_drew ?_ | refine blk_alloc ?_ _)); exact BK267.out⟩, ⟨by repeat (first | (with_reducible first | exact HI248.out | apply IsS59.alloc | apply IsS59.drewN | apply IsS59.drew | apply IsS59.set_1 | refine IsS59.far ?_ NB248_244.out _ | refine IsS59.far ?_ NB248_255.out _ | refine IsS59.far ?_ NB248_263.out _ | refine IsS59.far ?_ NB248_267.out _) | exact HI248.out)⟩, ⟨by repeat (first | (with_reducible first | exact HB.out | apply below_alloc | apply pw_below_drewN | apply below_drew1 | refine below_set ?_ (IsS59.ge HI248.out) | refine below_set ?_ GE244.out | refine below_set ?_ GE255.out | refine below_set ?_ GE263.out | refine below_set ?_ GE267.out) | exact HB.out)⟩⟩
           case round =>
            clear H'
            (try clear c1); (try clear c2); (try clear p2); (try clear q2); (try clear hx2); (try clear c3); (try clear c4); (try clear c5); (try clear c6); (try clear p6); (try clear c7); (try clear c8); (try clear c8b0); (try clear c8b1); (try clear c9); (try clear c11); (try clear c18); (try clear c20); (try clear c20b0); (try clear c21); (try clear c21b0); (try clear c22); (try clear c22b0)
            (try clear c23); (try clear c24); (try clear c25); (try clear p25); (try clear q25); (try clear hx25); (try clear c26); (try clear c29); (try clear c30); (try clear c40); (try clear c41); (try clear c42); (try clear c48); (try clear c49); (try clear c50); (try clear c51); (try clear c54); (try clear c54b0); (try clear c54b1); (try clear c55); (try clear c55b0); (try clear c55b1)
            (try clear c56); (try clear c56b0); (try clear c57); (try clear c57b0); (try clear c57b1); (try clear c57b2); (try clear c58); (try clear c59); (try clear c60); (try clear c61); (try clear c63); (try clear c64); (try clear p64); (try clear c65); (try clear c67); (try clear hcz31_0); (try clear hcz31_1); (try clear hcz33_0); (try clear hcz33_1); (try clear hcz35_0); (try clear hcz35_1)
            (try clear hcz37_0); (try clear hcz37_1); (try clear hcz43_0); (try clear hcz43_1); (try clear hcz45_0); (try clear hcz45_1); (try clear hcz52_0); (try clear hcz52_1); (try clear hcz62_0); (try clear hcz62_1); (try clear hcz66_0); (try clear hcz66_1); (try clear hfz31_0); (try clear hfz31_1); (try clear hfz33_0); (try clear hfz33_1); (try clear hfz35_0); (try clear hfz35_1)
            (try clear hfz37_0); (try clear hfz37_1); (try clear hfz43_0); (try clear hfz43_1); (try clear hfz45_0); (try clear hfz45_1); (try clear hfz52_0); (try clear hfz52_1); (try clear hfz62_0); (try clear hfz62_1); (try clear hfz66_0); (try clear hfz66_1); (try clear hx254_0); (try clear hx254_1); (try clear p2); (try clear p25); (try clear p254); (try clear p6); (try clear p64)
            (try clear q2); (try clear q25); (try clear q254)
            obtain ⟨x116_3, x249001_3, rfl, HA, HK3, HO_3, HO_52, HO_114, BK244, BK255, BK263, BK267, HI248, HB⟩ := hrel
            cases gk with
            | zero => exact absurd HA.out (by simp [synopticlaw39_SamplingCounts.l1])
            | succ k3 =>
             have H := HA.out
             clear HA
             simp only [synopticlaw39_SamplingCounts.l1] at H
             by_cases c74 : x116_3 < (y270.length : Int)
             ·rw [if_pos c74] at H
              have c74b0 : decide (x116_3 < (y270.length : Int)) = true := decide_eq_true c74
              clear c74
              by_cases c75 : 0 ≤ x116_3
              ·rw [if_pos c75] at H
               have c75b0 : decide (0 ≤ x116_3) = true := decide_eq_true c75
               clear c75
               by_cases c76 : x116_3 < (y270.length : Int)
               ·rw [if_pos c76] at H
                have c76b0 : decide (x116_3 < (y270.length : Int)) = true := decide_eq_true c76
                clear c76
                replace H := Option.bind_eq_some_iff.mp H
                obtain ⟨⟨t275, t276⟩, A770, H⟩ := H
                replace H : ((synopticref39_Ranks.f k3 ((rd_T51 y251 x54_1).f0) ((rd_T31 y270 x116_3).f0) ((rd_T31 y270 x116_3).f1)).bind fun bt277 => (if t275 = bt277.1 then (if (t276 != bt277.2) = true then (none) else (synopticlaw39_SamplingCounts.j3 k3 a1 l3 y251 (y251.length : Int) x54_1 y270 (y270.length : Int) x116_3 false a2_0 a2_1 t246 x249001_3 ((rd_T51 y251 x54_1).f0) ((rd_T51 y251 x54_1).f1) ((rd_T31 y270 x116_3).f0) ((rd_T31 y270 x116_3).f1))) else (none))) = some r := H
                have A77 := Aside0.mk A770
                clear A770
                replace H := Option.bind_eq_some_iff.mp H
                obtain ⟨⟨t277, t278⟩, A780, H⟩ := H
                replace H : (if t275 = t277 then (if (t276 != t278) = true then (none) else (synopticlaw39_SamplingCounts.j3 k3 a1 l3 y251 (y251.length : Int) x54_1 y270 (y270.length : Int) x116_3 false a2_0 a2_1 t246 x249001_3 ((rd_T51 y251 x54_1).f0) ((rd_T51 y251 x54_1).f1) ((rd_T31 y270 x116_3).f0) ((rd_T31 y270 x116_3).f1))) else (none)) = some r := H
                have A78 := Aside0.mk A780
                clear A780
                have HC79 := Aside0.mk H
                clear H
                have p273 : 0 ≤ (x116_3 : Int) := of_decide_eq_true (by first | (with_reducible assumption) | assumption)
                have q273 : x116_3 < (y270.length : Int) := of_decide_eq_true (by first | (with_reducible assumption) | assumption)
                obtain ⟨ad273, e273, hx273_0, hx273_1⟩ := at_T31 (Kd.R_reads' HO_114.out).2.2 x116_3 p273 q273
                cases e273
                replace p273 := eq_true p273
                replace q273 := eq_true q273
                go_upto_region 20 with (first | ((with_reducible refine gate_dst (N := 23) rfl ?_); refine box_event ?hg (N := 23) ?hd (cs := #[.int .i64 0, .int .i64 0]) (t := 31) ?hr ?_; (case hd => rfl); (case hg => rfl); (case hr => first | (go_simp; done) | (go_simp; rfl)); intro gb274 hg w80 hbox hb; have BK274 := Aside0.mk (hbox); have GW274 := kG HB hg; have GE274 := kG HB hg; have NB244_274 := kN BK244 hg; have NB274_244 := kM BK244 hg; have NB255_274 := Aside0.mk ((by rw [hg]; exact Nat.ne_of_lt (blk_lt (g := gb255) (o := .cells #[.int .i64 ((rd_T51 y251 x54_1).f0), .int .i64 ((rd_T51 y251 x54_1).f1)] 51 (0, 0)) (by (with_reducible repeat (first | refine blk_drewN ?_ _ | refine blk_drew ?_ | refine blk_alloc ?_ _)); exact BK255.out)) : gb255 ≠ gb274)); have NB274_255 := Aside0.mk ((by rw [hg]; exact Nat.ne_of_gt (blk_lt (g := gb255) (o := .cells #[.int .i64 ((rd_T51 y251 x54_1).f0), .int .i64 ((rd_T51 y251 x54_1).f1)] 51 (0, 0)) (by (with_reducible repeat (first | refine blk_drewN ?_ _ | refine blk_drew ?_ | refine blk_alloc ?_ _)); exact BK255.out)) : gb274 ≠ gb255)); have NB263_274 := kN BK263 hg; have NB274_263 := kM BK263 hg; have NB267_274 := kN BK267 hg; have NB274_267 := kM BK267 hg; have NB248_274 := Aside0.mk ((by rw [hg]; exact Nat.ne_of_lt (IsS59.lt (show IsS59 w _ g248 t246 x249001_3 from by repeat (first | (with_reducible first | exact HI248.out | apply IsS59.alloc | apply IsS59.drewN | apply IsS59.drew | apply IsS59.set_1 | refine IsS59.far ?_ NB248_244.out _ | refine IsS59.far ?_ NB248_255.out _ | refine IsS59.far ?_ NB248_263.out _ | refine IsS59.far ?_ NB248_267.out _) | exact HI248.out))) : g248 ≠ gb274)); have NB274_248 := Aside0.mk ((by rw [hg]; exact Nat.ne_of_gt (IsS59.lt (show IsS59 w _ g248 t246 x249001_3 from by repeat (first | (with_reducible first | exact HI248.out | apply IsS59.alloc | apply IsS59.drewN | apply IsS59.drew | apply IsS59.set_1 | refine IsS59.far ?_ NB248_244.out _ | refine IsS59.far ?_ NB248_255.out _ | refine IsS59.far ?_ NB248_263.out _ | refine IsS59.far ?_ NB248_267.out _) | exact HI248.out))) : gb274 ≠ g248)); replace HO_3 := Aside0.mk (Kd.V_below (Kd.V_elderB (by (with_reducible repeat (first | apply Kd.V_alloc | apply Kd.V_drewN | apply Kd.V_drew)); exact HO_3.out) gb274 (Nat.le_of_eq hg.symm)) hb); replace HO_52 := kR HO_52 hb; replace HO_114 := Aside0.mk (Kd.R_below (Kd.R_elderB (by (with_reducible repeat (first | apply Kd.R_alloc | apply Kd.R_drewN | apply Kd.R_drew)); exact HO_114.out) gb274 (Nat.le_of_eq hg.symm)) hb); replace BK244 := kB BK244 hb; replace BK255 := Aside0.mk (blk_below (g := gb255) (o := .cells #[.int .i64 ((rd_T51 y251 x54_1).f0), .int .i64 ((rd_T51 y251 x54_1).f1)] 51 (0, 0)) (by (with_reducible repeat (first | refine blk_drewN ?_ _ | refine blk_drew ?_ | refine blk_alloc ?_ _)); exact BK255.out) hb); replace BK263 := kB BK263 hb; replace BK267 := kB BK267 hb; replace HI248 := Aside0.mk (IsS59.below (by repeat (first | (with_reducible first | exact HI248.out | apply IsS59.alloc | apply IsS59.drewN | apply IsS59.drew | apply IsS59.set_1 | refine IsS59.far ?_ NB248_244.out _ | refine IsS59.far ?_ NB248_255.out _ | refine IsS59.far ?_ NB248_263.out _ | refine IsS59.far ?_ NB248_267.out _) | exact HI248.out)) hb); replace HB := kH HB hb; clear hb hbox hg; have hnb81 := NB274_244.out; have hnc81 := NB244_274.out; have hnb82 := NB274_255.out; have hnc82 := NB255_274.out; have hnb83 := NB274_263.out; have hnc83 := NB263_274.out; have hnb84 := NB274_267.out; have hnc84 := NB267_274.out; have hnb85 := NB274_248.out; have hnc85 := NB248_274.out; have hcz86_0 : w80.cell? ⟨gb274, 0, none⟩ = some (.int .i64 0) := (blk_cell BK274.out 0).trans rfl; have hcz86_1 : w80.cell? ⟨gb274, 1, none⟩ = some (.int .i64 0) := (blk_cell BK274.out 1).trans rfl; have hfz86_0 := blk_frozen BK274.out 0; have hfz86_1 := blk_frozen BK274.out 1) | ((with_reducible refine gate_store (t := 31) (p := 23) rfl ?_); refine store_event (t := 31) (p := 23) (v := ?vo_w87) (w1 := ((w80.setCell ⟨gb274, 0, none⟩ (.int .i64 ((rd_T31 y270 x116_3).f0))).setCell ⟨gb274, 1, none⟩ (.int .i64 ((rd_T31 y270 x116_3).f1)))) ?hg ?ho ?hn ?hr ?_; (case ho => rfl); (case hg => rfl); (case hn => rfl); (case hr => first | (go_simp; done) | (go_simp; rfl)); intro w87 hw; replace HO_3 : Aside0 (Kd.V (Kd.int .i64) 3 w87 w.heap.size (fun k_ => (P3_ k_ ∨ w.heap.size ≤ k_) ∧ some k_ ≠ (.slice (some ad254) y251.length co19 : Value).ownBlock ∧ some k_ ≠ (.slice (some ad273) y270.length co73 : Value).ownBlock ∧ k_ ≠ gb244 ∧ k_ ≠ gb255 ∧ k_ ≠ gb263 ∧ k_ ≠ gb267 ∧ k_ ≠ g248 ∧ k_ ≠ gb274) (.slice A3 l3.length c3) l3) := ⟨(by rw [hw]; exact (by (with_reducible repeat (first | apply Kd.V_alloc | apply Kd.V_drewN | apply Kd.V_drew)); exact Kd.V_mono (Kd.V_far (p := ⟨gb274, 1, none⟩) (Kd.V_far (p := ⟨gb274, 0, none⟩) (Kd.V_mono HO_3.out (fun k_ hk => (⟨hk, hk.2⟩ : _ ∧ k_ ≠ gb274))) (fun _ hk => hk.2) (.int .i64 ((rd_T31 y270 x116_3).f0))) (fun _ hk => hk.2) (.int .i64 ((rd_T31 y270 x116_3).f1))) (fun _ hk => ⟨hk.1.1.1, ⟨hk.1.1.2.1, ⟨hk.1.1.2.2.1, ⟨hk.1.1.2.2.2.1, ⟨hk.1.1.2.2.2.2.1, ⟨hk.1.1.2.2.2.2.2.1, ⟨hk.1.1.2.2.2.2.2.2.1, ⟨hk.1.1.2.2.2.2.2.2.2, hk.1.2⟩⟩⟩⟩⟩⟩⟩⟩)))⟩; replace HO_52 := kFR HO_52 BK274 hw (by decide); replace HO_114 : Aside0 (Kd.R k31 31 w87 w.heap.size (fun k_ => (w.heap.size ≤ k_) ∧ k_ ≠ gb244 ∧ k_ ≠ gb263 ∧ k_ ≠ gb267 ∧ k_ ≠ gb274) (.slice (some ad273) y270.length co73) y270) := ⟨(by rw [hw]; exact (by (with_reducible repeat (first | apply Kd.R_alloc | apply Kd.R_drewN | apply Kd.R_drew)); exact Kd.R_mono (Kd.R_far (p := ⟨gb274, 1, none⟩) (Kd.R_far (p := ⟨gb274, 0, none⟩) (Kd.R_mono HO_114.out (fun k_ hk => (⟨hk, hk.2⟩ : _ ∧ k_ ≠ gb274))) (fun _ hk => hk.2) (.int .i64 ((rd_T31 y270 x116_3).f0))) (fun _ hk => hk.2) (.int .i64 ((rd_T31 y270 x116_3).f1))) (fun _ hk => ⟨hk.1.1.1, ⟨hk.1.1.2.1, ⟨hk.1.1.2.2.1, ⟨hk.1.1.2.2.2, hk.1.2⟩⟩⟩⟩)))⟩; replace BK244 := kF BK244 NB244_274 hw; replace BK255 := kF BK255 NB255_274 hw; replace BK263 := kF BK263 NB263_274 hw; replace BK267 := kF BK267 NB267_274 hw; replace BK274 : Aside0 (w87.heap[gb274]? = some (.cells #[.int .i64 ((rd_T31 y270 x116_3).f0), .int .i64 ((rd_T31 y270 x116_3).f1)] 31 (0, 0))) := ⟨(by rw [hw]; exact (by (with_reducible repeat (first | refine blk_drewN ?_ _ | refine blk_drew ?_ | refine blk_alloc ?_ _)); refine blk_put (cs := #[.int .i64 ((rd_T31 y270 x116_3).f0), .int .i64 0]) ?_ 1 _ rfl; (with_reducible repeat (first | refine blk_drewN ?_ _ | refine blk_drew ?_ | refine blk_alloc ?_ _)); refine blk_put (cs := #[.int .i64 0, .int .i64 0]) ?_ 0 _ rfl; (with_reducible repeat (first | refine blk_drewN ?_ _ | refine blk_drew ?_ | refine blk_alloc ?_ _)); exact BK274.out))⟩; replace HI248 : Aside0 (IsS59 w w87 g248 t246 x249001_3) := ⟨(by rw [hw]; exact (by repeat (first | (with_reducible first | exact HI248.out | apply IsS59.alloc | apply IsS59.drewN | apply IsS59.drew | apply IsS59.set_1 | refine IsS59.far ?_ NB248_244.out _ | refine IsS59.far ?_ NB248_255.out _ | refine IsS59.far ?_ NB248_263.out _ | refine IsS59.far ?_ NB248_267.out _ | refine IsS59.far ?_ NB248_274.out _) | exact HI248.out)))⟩; replace HB := kFH HB GE274 hw; clear hw; have hnb88 := NB255_244.out; have hnc88 := NB244_255.out; have hnb89 := NB255_263.out; have hnc89 := NB263_255.out; have hnb90 := NB255_267.out; have hnc90 := NB267_255.out; have hnb91 := NB255_248.out; have hnc91 := NB248_255.out; have hcz92_0 : w87.cell? ⟨gb255, 0, none⟩ = some (.int .i64 ((rd_T51 y251 x54_1).f0)) := (blk_cell BK255.out 0).trans rfl; have hcz92_1 : w87.cell? ⟨gb255, 1, none⟩ = some (.int .i64 ((rd_T51 y251 x54_1).f1)) := (blk_cell BK255.out 1).trans rfl; have hfz92_0 := blk_frozen BK255.out 0; have hfz92_1 := blk_frozen BK255.out 1; have hcz93_0 : w87.cell? ⟨gb274, 0, none⟩ = some (.int .i64 ((rd_T31 y270 x116_3).f0)) := (blk_cell BK274.out 0).trans rfl; have hcz93_1 : w87.cell? ⟨gb274, 1, none⟩ = some (.int .i64 ((rd_T31 y270 x116_3).f1)) := (blk_cell BK274.out 1).trans rfl; have hfz93_0 := blk_frozen BK274.out 0; have hfz93_1 := blk_frozen BK274.out 1) | ((with_reducible refine gate_callee (f := 27) rfl ?_); refine goesL_ (some 124) rfl rfl Try.func27 (by kernel_rfl) rfl #[.int .i64 ((rd_T51 y251 x54_1).f0), .agg #[.int .i64 ((rd_T31 y270 x116_3).f0), .int .i64 ((rd_T31 y270 x116_3).f1)]] rfl (by (try simp only [List.map_toArray, List.map_cons, List.map_nil]); first | done | rfl | (simp only [List.length_drop, List.length_take]; rfl)) ?_; (with_reducible refine (sampling_Ranks.calls k3 ((rd_T51 y251 x54_1).f0) ((rd_T31 y270 x116_3).f0) ((rd_T31 y270 x116_3).f1) t275 t276 _ A77.out).mono ?_); rintro e w94 ⟨rfl, hb⟩; refine ⟨_, rfl, ?_⟩; replace HO_3 := Aside0.mk (Kd.V_below (by (with_reducible repeat (first | apply Kd.V_alloc | apply Kd.V_drewN | apply Kd.V_drew)); exact HO_3.out) hb); replace HO_52 := kR HO_52 hb; replace HO_114 := kR HO_114 hb; replace BK244 := kB BK244 hb; replace BK255 := Aside0.mk (blk_below (g := gb255) (o := .cells #[.int .i64 ((rd_T51 y251 x54_1).f0), .int .i64 ((rd_T51 y251 x54_1).f1)] 51 (0, 0)) (by (with_reducible repeat (first | refine blk_drewN ?_ _ | refine blk_drew ?_ | refine blk_alloc ?_ _)); exact BK255.out) hb); replace BK263 := kB BK263 hb; replace BK267 := kB BK267 hb; replace HI248 := Aside0.mk (IsS59.below (by repeat (first | (with_reducible first | exact HI248.out | apply IsS59.alloc | apply IsS59.drewN | apply IsS59.drew | apply IsS59.set_1 | refine IsS59.far ?_ NB248_244.out _ | refine IsS59.far ?_ NB248_255.out _ | refine IsS59.far ?_ NB248_263.out _ | refine IsS59.far ?_ NB248_267.out _ | refine IsS59.far ?_ NB248_274.out _) | exact HI248.out)) hb); replace BK274 := Aside0.mk (blk_below (g := gb274) (o := .cells #[.int .i64 ((rd_T31 y270 x116_3).f0), .int .i64 ((rd_T31 y270 x116_3).f1)] 31 (0, 0)) (by (with_reducible repeat (first | refine blk_drewN ?_ _ | refine blk_drew ?_ | refine blk_alloc ?_ _)); exact BK274.out) hb); replace HB := kH HB hb; (try clear hb); (try clear hb2); (try clear hk); (try clear hi); have hcz95_0 : w94.cell? ⟨gb255, 0, none⟩ = some (.int .i64 ((rd_T51 y251 x54_1).f0)) := (blk_cell BK255.out 0).trans rfl; have hcz95_1 : w94.cell? ⟨gb255, 1, none⟩ = some (.int .i64 ((rd_T51 y251 x54_1).f1)) := (blk_cell BK255.out 1).trans rfl; have hfz95_0 := blk_frozen BK255.out 0; have hfz95_1 := blk_frozen BK255.out 1; have hcz96_0 : w94.cell? ⟨gb274, 0, none⟩ = some (.int .i64 ((rd_T31 y270 x116_3).f0)) := (blk_cell BK274.out 0).trans rfl; have hcz96_1 : w94.cell? ⟨gb274, 1, none⟩ = some (.int .i64 ((rd_T31 y270 x116_3).f1)) := (blk_cell BK274.out 1).trans rfl; have hfz96_0 := blk_frozen BK274.out 0; have hfz96_1 := blk_frozen BK274.out 1) | ((with_reducible refine gate_callee (f := 28) rfl ?_); refine goesL_ (some 131) rfl rfl Try.func28 (by kernel_rfl) rfl #[.int .i64 ((rd_T51 y251 x54_1).f0), .agg #[.int .i64 ((rd_T31 y270 x116_3).f0), .int .i64 ((rd_T31 y270 x116_3).f1)]] rfl (by (try simp only [List.map_toArray, List.map_cons, List.map_nil]); first | done | rfl | (simp only [List.length_drop, List.length_take]; rfl)) ?_; (with_reducible refine (synopticref39_Ranks.calls k3 ((rd_T51 y251 x54_1).f0) ((rd_T31 y270 x116_3).f0) ((rd_T31 y270 x116_3).f1) t277 t278 _ A78.out).mono ?_); rintro e w97 ⟨rfl, hb⟩; refine ⟨_, rfl, ?_⟩; replace HO_3 := Aside0.mk (Kd.V_below (by (with_reducible repeat (first | apply Kd.V_alloc | apply Kd.V_drewN | apply Kd.V_drew)); exact HO_3.out) hb); replace HO_52 := kR HO_52 hb; replace HO_114 := kR HO_114 hb; replace BK244 := kB BK244 hb; replace BK255 := Aside0.mk (blk_below (g := gb255) (o := .cells #[.int .i64 ((rd_T51 y251 x54_1).f0), .int .i64 ((rd_T51 y251 x54_1).f1)] 51 (0, 0)) (by (with_reducible repeat (first | refine blk_drewN ?_ _ | refine blk_drew ?_ | refine blk_alloc ?_ _)); exact BK255.out) hb); replace BK263 := kB BK263 hb; replace BK267 := kB BK267 hb; replace HI248 := Aside0.mk (IsS59.below (by repeat (first | (with_reducible first | exact HI248.out | apply IsS59.alloc | apply IsS59.drewN | apply IsS59.drew | apply IsS59.set_1 | refine IsS59.far ?_ NB248_244.out _ | refine IsS59.far ?_ NB248_255.out _ | refine IsS59.far ?_ NB248_263.out _ | refine IsS59.far ?_ NB248_267.out _ | refine IsS59.far ?_ NB248_274.out _) | exact HI248.out)) hb); replace BK274 := Aside0.mk (blk_below (g := gb274) (o := .cells #[.int .i64 ((rd_T31 y270 x116_3).f0), .int .i64 ((rd_T31 y270 x116_3).f1)] 31 (0, 0)) (by (with_reducible repeat (first | refine blk_drewN ?_ _ | refine blk_drew ?_ | refine blk_alloc ?_ _)); exact BK274.out) hb); replace HB := kH HB hb; (try clear hb); (try clear hb2); (try clear hk); (try clear hi)))
                (try simp only [Act.put, List.setIfInBounds_toArray, List.set_cons_zero, List.set_cons_succ])
                go_cut [141] (fun v141 wc => ∃ (kq : Nat) (x141_78 : Bool), v141 = .bool x141_78 ∧ Aside0 (synopticlaw39_SamplingCounts.j3 kq a1 l3 y251 (y251.length : Int) x54_1 y270 (y270.length : Int) x116_3 x141_78 a2_0 a2_1 t246 x249001_3 ((rd_T51 y251 x54_1).f0) ((rd_T51 y251 x54_1).f1) ((rd_T31 y270 x116_3).f0) ((rd_T31 y270 x116_3).f1) = some r) ∧ Aside0 (kq ≤ k3) ∧ Aside0 (Kd.V (Kd.int .i64) 3 wc w.heap.size (fun k_ => (P3_ k_ ∨ w.heap.size ≤ k_) ∧ some k_ ≠ ((.slice (some ad254) y251.length co19) : Value).ownBlock ∧ some k_ ≠ ((.slice (some ad273) y270.length co73) : Value).ownBlock ∧ k_ ≠ gb244 ∧ k_ ≠ gb255 ∧ k_ ≠ gb263 ∧ k_ ≠ gb267 ∧ k_ ≠ gb274 ∧ k_ ≠ g248) (.slice A3 l3.length c3) l3) ∧ Aside0 (Kd.R k51 51 wc w.heap.size (fun k_ => (w.heap.size ≤ k_) ∧ k_ ≠ gb255) (.slice (some ad254) y251.length co19) y251) ∧ Aside0 (Kd.R k31 31 wc w.heap.size (fun k_ => (w.heap.size ≤ k_) ∧ k_ ≠ gb244 ∧ k_ ≠ gb263 ∧ k_ ≠ gb267 ∧ k_ ≠ gb274) (.slice (some ad273) y270.length co73) y270) ∧ Aside0 (wc.heap[gb244]? = some (.cells #[.int .i64 a2_0, .int .i64 a2_1] 31 (0, 0))) ∧ Aside0 (wc.heap[gb255]? = some (.cells #[.int .i64 ((rd_T51 y251 x54_1).f0), .int .i64 ((rd_T51 y251 x54_1).f1)] 51 (0, 0))) ∧ Aside0 (wc.heap[gb263]? = some (.cells #[.int .i64 t260, .int .i64 t261] 31 (0, 0))) ∧ Aside0 (wc.heap[gb267]? = some (.cells #[.int .i64 t264, .int .i64 t265] 31 (0, 0))) ∧ Aside0 (wc.heap[gb274]? = some (.cells #[.int .i64 ((rd_T31 y270 x116_3).f0), .int .i64 ((rd_T31 y270 x116_3).f1)] 31 (0, 0))) ∧ Aside0 (IsS59 w wc g248 t246 x249001_3) ∧ Aside0 (Below w.heap.size w wc))
                case first =>
                 have H := HC79.out
                 clear HC79
                 by_cases c98 : t275 = t277
                 ·rw [if_pos c98] at H
                  have c98b0 : (t275 == t277) = true := beq_iff_eq.mpr c98
                  have c98b1 : (t275 != t277) = false := bne_eq_false_iff_eq.mpr c98
                  clear c98
                  (first | rw [c98b0] | (simp only [i64_w, i32_w]; rw [c98b0]) | skip)
                  by_cases c99 : (t276 != t278) = true
                  ·rw [if_pos c99] at H
                   exact absurd H (by simp)
                  ·rw [if_neg c99] at H
                   have c99b0 : (t276 != t278) = false := by simpa using c99
                   (try (have c99b1 : decide (t276 = t278) = true := by simpa using c99))
                   (try (have c99b2 : (t276 == t278) = true := by simpa using c99))
                   clear c99
                   have H' := Aside0.mk H
                   clear H
                   go_wp2
                   go_meet
                   case rel => exact ⟨_, (false), (by first | rfl | (simp; done) | (simp [*]; done)), H', ⟨by have := HK1.out; have := HJ26.out; have := HK3.out; first | omega | exact Nat.le_refl _⟩, ⟨by (with_reducible repeat (first | apply Kd.V_alloc | apply Kd.V_drewN | apply Kd.V_drew)); exact Kd.V_mono HO_3.out (fun _ hk => ⟨hk.1, ⟨hk.2.1, ⟨hk.2.2.1, ⟨hk.2.2.2.1, ⟨hk.2.2.2.2.1, ⟨hk.2.2.2.2.2.1, ⟨hk.2.2.2.2.2.2.1, ⟨hk.2.2.2.2.2.2.2.2, hk.2.2.2.2.2.2.2.1⟩⟩⟩⟩⟩⟩⟩⟩)⟩, ⟨by (with_reducible repeat (first | apply Kd.R_alloc | apply Kd.R_drewN | apply Kd.R_drew)); exact HO_52.out⟩, ⟨by (with_reducible repeat (first | apply Kd.R_alloc | apply Kd.R_drewN | apply Kd.R_drew)); exact HO_114.out⟩, ⟨by (with_reducible repeat (first | refine blk_drewN ?_ _ | refine blk_drew ?_ | refine blk_alloc ?_ _)); exact BK244.out⟩, ⟨by (with_reducible repeat (first | refine blk_drewN ?_ _ | refine blk_drew ?_ | refine blk_alloc ?_ _)); exact BK255.out⟩, ⟨by (with_reducible repeat (first | refine blk_drewN ?_ _ | refine blk_drew ?_ | refine blk_alloc ?_ _)); exact BK263.out⟩, ⟨by (with_reducible repeat (first | refine blk_drewN ?_ _ | refine blk_drew ?_ | refine blk_alloc ?_ _)); exact BK267.out⟩, ⟨by (with_reducible repeat (first | refine blk_drewN ?_ _ | refine blk_drew ?_ | refine blk_alloc ?_ _)); exact BK274.out⟩, ⟨by repeat (first | (with_reducible first | exact HI248.out | apply IsS59.alloc | apply IsS59.drewN | apply IsS59.drew | apply IsS59.set_1 | refine IsS59.far ?_ NB248_244.out _ | refine IsS59.far ?_ NB248_255.out _ | refine IsS59.far ?_ NB248_263.out _ | refine IsS59.far ?_ NB248_267.out _ | refine IsS59.far ?_ NB248_274.out _) | exact HI248.out)⟩, ⟨by repeat (first | (with_reducible first | exact HB.out | apply below_alloc | apply pw_below_drewN | apply below_drew1 | refine below_set ?_ (IsS59.ge HI248.out) | refine below_set ?_ GE244.out | refine below_set ?_ GE255.out | refine below_set ?_ GE263.out | refine below_set ?_ GE267.out | refine below_set ?_ GE274.out) | exact HB.out)⟩⟩
                 ·rw [if_neg c98] at H
                  exact absurd H (by simp)
                case rest =>
                 clear HC79
                 (try clear c1); (try clear c2); (try clear p2); (try clear q2); (try clear hx2); (try clear c3); (try clear c4); (try clear c5); (try clear c6); (try clear p6); (try clear c7); (try clear c8); (try clear c8b0); (try clear c8b1); (try clear c9); (try clear c11); (try clear c18); (try clear c20); (try clear c20b0); (try clear c21); (try clear c21b0); (try clear c22)
                 (try clear c22b0); (try clear c23); (try clear c24); (try clear c25); (try clear p25); (try clear q25); (try clear hx25); (try clear c26); (try clear c27); (try clear p27); (try clear q27); (try clear hx27); (try clear c28); (try clear c29); (try clear c30); (try clear c40); (try clear c41); (try clear c42); (try clear c48); (try clear c49); (try clear c50); (try clear c51)
                 (try clear c54); (try clear c54b0); (try clear c54b1); (try clear c55); (try clear c55b0); (try clear c55b1); (try clear c56); (try clear c56b0); (try clear c57); (try clear c57b0); (try clear c57b1); (try clear c57b2); (try clear c58); (try clear c59); (try clear c60); (try clear c61); (try clear c63); (try clear c64); (try clear p64); (try clear c65); (try clear c67)
                 (try clear c74); (try clear c74b0); (try clear c75); (try clear c75b0); (try clear c76); (try clear c76b0); (try clear c81); (try clear c82); (try clear c83); (try clear c84); (try clear c85); (try clear c88); (try clear c89); (try clear c90); (try clear c91); (try clear c98); (try clear c98b0); (try clear c98b1); (try clear c99); (try clear c99b0); (try clear c99b1)
                 (try clear c99b2); (try clear hcz31_0); (try clear hcz31_1); (try clear hcz33_0); (try clear hcz33_1); (try clear hcz35_0); (try clear hcz35_1); (try clear hcz37_0); (try clear hcz37_1); (try clear hcz43_0); (try clear hcz43_1); (try clear hcz45_0); (try clear hcz45_1); (try clear hcz52_0); (try clear hcz52_1); (try clear hcz62_0); (try clear hcz62_1); (try clear hcz66_0)
                 (try clear hcz66_1); (try clear hcz86_0); (try clear hcz86_1); (try clear hcz92_0); (try clear hcz92_1); (try clear hcz93_0); (try clear hcz93_1); (try clear hcz95_0); (try clear hcz95_1); (try clear hcz96_0); (try clear hcz96_1); (try clear hfz31_0); (try clear hfz31_1); (try clear hfz33_0); (try clear hfz33_1); (try clear hfz35_0); (try clear hfz35_1); (try clear hfz37_0)
                 (try clear hfz37_1); (try clear hfz43_0); (try clear hfz43_1); (try clear hfz45_0); (try clear hfz45_1); (try clear hfz52_0); (try clear hfz52_1); (try clear hfz62_0); (try clear hfz62_1); (try clear hfz66_0); (try clear hfz66_1); (try clear hfz86_0); (try clear hfz86_1); (try clear hfz92_0); (try clear hfz92_1); (try clear hfz93_0); (try clear hfz93_1); (try clear hfz95_0)
                 (try clear hfz95_1); (try clear hfz96_0); (try clear hfz96_1); (try clear hx254_0); (try clear hx254_1); (try clear hx273_0); (try clear hx273_1); (try clear p2); (try clear p25); (try clear p254); (try clear p273); (try clear p6); (try clear p64); (try clear q2); (try clear q25); (try clear q254); (try clear q273)
                 obtain ⟨kq, x141_78, rfl, HA, HJ78, HO_3, HO_52, HO_114, BK244, BK255, BK263, BK267, BK274, HI248, HB⟩ := hcut
                 cases kq with
                 | zero => exact absurd HA.out (by simp [synopticlaw39_SamplingCounts.j3])
                 | succ kj78 =>
                  have H := HA.out
                  clear HA
                  simp only [synopticlaw39_SamplingCounts.j3] at H
                  by_cases c100 : x141_78 = true
                  ·subst c100
                   have H1 : (none) = some r := by rw [if_pos rfl] at H; exact H
                   clear H
                   have H := H1
                   clear H1
                   exact absurd H (by simp)
                  ·replace c100 := Bool.eq_false_iff.mpr c100
                   subst c100
                   have H1 : ((synopticlaw39_sample.f kj78 t246 x249001_3 20).bind fun bt279 => ((some (([l3, bt279.1] : List (List Int)) : List (List Int))).bind fun y283 => (synopticlaw39_SamplingCounts.l2 kj78 a1 l3 y251 (y251.length : Int) x54_1 y270 (y270.length : Int) x116_3 y283 (y283.length : Int) 0 a2_0 a2_1 t246 bt279.2 ((rd_T51 y251 x54_1).f0) ((rd_T51 y251 x54_1).f1) ((rd_T31 y270 x116_3).f0) ((rd_T31 y270 x116_3).f1)))) = some r := by rw [if_neg (show ¬ (false = true) by decide)] at H; exact H
                   clear H
                   have H := H1
                   clear H1
                   replace H := Option.bind_eq_some_iff.mp H
                   obtain ⟨⟨t279, t282⟩, A1010, H⟩ := H
                   replace H : ((some (([l3, t279] : List (List Int)) : List (List Int))).bind fun y283 => (synopticlaw39_SamplingCounts.l2 kj78 a1 l3 y251 (y251.length : Int) x54_1 y270 (y270.length : Int) x116_3 y283 (y283.length : Int) 0 a2_0 a2_1 t246 t282 ((rd_T51 y251 x54_1).f0) ((rd_T51 y251 x54_1).f1) ((rd_T31 y270 x116_3).f0) ((rd_T31 y270 x116_3).f1))) = some r := H
                   have A101 := Aside0.mk A1010
                   clear A1010
                   obtain ⟨y283, hy283⟩ : ∃ y_ : List (List Int), y_ = (([l3, t279] : List (List Int))) := ⟨_, rfl⟩
                   replace H : (synopticlaw39_SamplingCounts.l2 kj78 a1 l3 y251 (y251.length : Int) x54_1 y270 (y270.length : Int) x116_3 y283 (y283.length : Int) 0 a2_0 a2_1 t246 t282 ((rd_T51 y251 x54_1).f0) ((rd_T51 y251 x54_1).f1) ((rd_T31 y270 x116_3).f0) ((rd_T31 y270 x116_3).f1)) = some r := by first | (rw [hy283]; with_reducible exact H) | (have H2_ := (Option.bind_some _ _).symm.trans H; rw [hy283]; with_reducible exact H2_) | (have H2_ := (Option.bind_some _ _).symm.trans H; with_reducible exact H2_) | with_reducible exact H | (rw [hy283]; exact H) | exact H
                   have Ny283 := Aside0.mk hy283
                   clear hy283
                   have H' := Aside0.mk H
                   clear H
                   go_wp2_with (first | ((with_reducible refine gate_callee (f := 10) rfl ?_); refine goesL_ (some 144) rfl rfl Try.func10 (by kernel_rfl) rfl #[.pointer (some ⟨g248, 0, none⟩), .int .i64 20] rfl (by (try simp only [List.map_toArray, List.map_cons, List.map_nil]); first | done | rfl | (simp only [List.length_drop, List.length_take]; rfl)) ?_; (with_reducible refine (synopticlaw39_sample.calls kj78 g248 t246 x249001_3 20 t279 t282 w _ ?side1 ?side2 A101.out).mono ?_); (case side1 => repeat (first | (with_reducible first | exact HI248.out | apply IsS59.alloc | apply IsS59.drewN | apply IsS59.drew | apply IsS59.set_1 | refine IsS59.far ?_ NB248_244.out _ | refine IsS59.far ?_ NB248_255.out _ | refine IsS59.far ?_ NB248_263.out _ | refine IsS59.far ?_ NB248_267.out _ | refine IsS59.far ?_ NB248_274.out _) | exact HI248.out)); (case side2 => repeat (first | (with_reducible first | exact HB.out | apply below_alloc | apply pw_below_drewN | apply below_drew1 | refine below_set ?_ (IsS59.ge HI248.out) | refine below_set ?_ GE244.out | refine below_set ?_ GE255.out | refine below_set ?_ GE263.out | refine below_set ?_ GE267.out | refine below_set ?_ GE274.out) | exact HB.out)); rintro e w102 ⟨v280, rfl, ho0, hi, hb, hk⟩; refine ⟨_, rfl, ?_⟩; have HO281 := Aside0.mk (Kd.R_lower (Kd.R_newM (M := fun k_ => (w.heap.size ≤ k_)) ho0 (below_size (by repeat (first | (with_reducible first | exact HB.out | apply below_alloc | apply pw_below_drewN | apply below_drew1 | refine below_set ?_ (IsS59.ge HI248.out) | refine below_set ?_ GE244.out | refine below_set ?_ GE255.out | refine below_set ?_ GE263.out | refine below_set ?_ GE267.out | refine below_set ?_ GE274.out) | exact HB.out))) (fun k_ h_ => h_)) (below_size (by repeat (first | (with_reducible first | exact HB.out | apply below_alloc | apply pw_below_drewN | apply below_drew1 | refine below_set ?_ (IsS59.ge HI248.out) | refine below_set ?_ GE244.out | refine below_set ?_ GE255.out | refine below_set ?_ GE263.out | refine below_set ?_ GE267.out | refine below_set ?_ GE274.out) | exact HB.out)))); replace HO_3 := Aside0.mk (Kd.V_mono (Kd.V_told (Kd.V_oldK (Kd.V_mono (ok := fun k_ => (((P3_ k_ ∨ w.heap.size ≤ k_)) ∧ (some k_ ≠ (.slice (some ad254) y251.length co19 : Value).ownBlock ∧ (some k_ ≠ (.slice (some ad273) y270.length co73 : Value).ownBlock ∧ (k_ ≠ gb244 ∧ (k_ ≠ gb255 ∧ (k_ ≠ gb263 ∧ (k_ ≠ gb267 ∧ (k_ ≠ gb274 ∧ k_ ≠ g248))))))))) (by (with_reducible repeat (first | apply Kd.V_alloc | apply Kd.V_drewN | apply Kd.V_drew)); exact HO_3.out) (fun k_ hk_ => (⟨hk_, hk_.2.2.2.2.2.2.2.2⟩ : _ ∧ k_ ≠ g248))) hk) (Kd.R_base ho0)) (fun _ h_ => h_.1)); replace HO_52 := Aside0.mk (Kd.R_mono (Kd.R_keep (IsS59.apart (show IsS59 w _ g248 t246 x249001_3 from by repeat (first | (with_reducible first | exact HI248.out | apply IsS59.alloc | apply IsS59.drewN | apply IsS59.drew | apply IsS59.set_1 | refine IsS59.far ?_ NB248_244.out _ | refine IsS59.far ?_ NB248_255.out _ | refine IsS59.far ?_ NB248_263.out _ | refine IsS59.far ?_ NB248_267.out _ | refine IsS59.far ?_ NB248_274.out _) | exact HI248.out)) (by (with_reducible repeat (first | apply Kd.R_alloc | apply Kd.R_drewN | apply Kd.R_drew)); exact HO_52.out) (by decide)) hk (fun _ h => h.2)) (fun _ h => h.1)); replace HO_114 := Aside0.mk (Kd.R_mono (Kd.R_keep (IsS59.apart (show IsS59 w _ g248 t246 x249001_3 from by repeat (first | (with_reducible first | exact HI248.out | apply IsS59.alloc | apply IsS59.drewN | apply IsS59.drew | apply IsS59.set_1 | refine IsS59.far ?_ NB248_244.out _ | refine IsS59.far ?_ NB248_255.out _ | refine IsS59.far ?_ NB248_263.out _ | refine IsS59.far ?_ NB248_267.out _ | refine IsS59.far ?_ NB248_274.out _) | exact HI248.out)) (by (with_reducible repeat (first | apply Kd.R_alloc | apply Kd.R_drewN | apply Kd.R_drew)); exact HO_114.out) (by decide)) hk (fun _ h => h.2)) (fun _ h => h.1)); replace BK244 := Aside0.mk (KeepBut.blk hk (g' := gb244) (o := .cells #[.int .i64 a2_0, .int .i64 a2_1] 31 (0, 0)) (by (with_reducible repeat (first | refine blk_drewN ?_ _ | refine blk_drew ?_ | refine blk_alloc ?_ _)); exact BK244.out) NB244_248.out (by simp)); replace BK255 := Aside0.mk (KeepBut.blk hk (g' := gb255) (o := .cells #[.int .i64 ((rd_T51 y251 x54_1).f0), .int .i64 ((rd_T51 y251 x54_1).f1)] 51 (0, 0)) (by (with_reducible repeat (first | refine blk_drewN ?_ _ | refine blk_drew ?_ | refine blk_alloc ?_ _)); exact BK255.out) NB255_248.out (by simp)); replace BK263 := Aside0.mk (KeepBut.blk hk (g' := gb263) (o := .cells #[.int .i64 t260, .int .i64 t261] 31 (0, 0)) (by (with_reducible repeat (first | refine blk_drewN ?_ _ | refine blk_drew ?_ | refine blk_alloc ?_ _)); exact BK263.out) NB263_248.out (by simp)); replace BK267 := Aside0.mk (KeepBut.blk hk (g' := gb267) (o := .cells #[.int .i64 t264, .int .i64 t265] 31 (0, 0)) (by (with_reducible repeat (first | refine blk_drewN ?_ _ | refine blk_drew ?_ | refine blk_alloc ?_ _)); exact BK267.out) NB267_248.out (by simp)); replace BK274 := Aside0.mk (KeepBut.blk hk (g' := gb274) (o := .cells #[.int .i64 ((rd_T31 y270 x116_3).f0), .int .i64 ((rd_T31 y270 x116_3).f1)] 31 (0, 0)) (by (with_reducible repeat (first | refine blk_drewN ?_ _ | refine blk_drew ?_ | refine blk_alloc ?_ _)); exact BK274.out) NB274_248.out (by simp)); replace HB := Aside0.mk (hb); replace HI248 := Aside0.mk (hi); (try clear hb); (try clear hb2); (try clear hk); (try clear hi); (try clear ho0); obtain ⟨Ao103, co103, eo103⟩ := Kd.R_slice HO281.out; subst eo103) | ((with_reducible refine gate_dst (N := 145) rfl ?_); refine Kd.N_lit (Kd.slice 3 (Kd.int .i64)) _ 24 ?hg (N' := 145) ?hd (xs := ([l3, t279] : List (List Int))) (inner := [.slice A3 l3.length c3, .slice Ao103 t279.length co103]) (ok := (fun k_ => (P3_ k_ ∨ w.heap.size ≤ k_) ∧ some k_ ≠ (.slice (some ad254) y251.length co19 : Value).ownBlock ∧ some k_ ≠ (.slice (some ad273) y270.length co73 : Value).ownBlock ∧ k_ ≠ gb244 ∧ k_ ≠ gb255 ∧ k_ ≠ gb263 ∧ k_ ≠ gb267 ∧ k_ ≠ gb274 ∧ k_ ≠ g248)) (okp := (fun k_ => (P3_ k_ ∨ w.heap.size ≤ k_) ∧ some k_ ≠ (.slice (some ad254) y251.length co19 : Value).ownBlock ∧ some k_ ≠ (.slice (some ad273) y270.length co73 : Value).ownBlock ∧ k_ ≠ gb244 ∧ k_ ≠ gb255 ∧ k_ ≠ gb263 ∧ k_ ≠ gb267 ∧ k_ ≠ gb274 ∧ k_ ≠ g248)) ?hr ?hp (fun _ hk => hk) ((show ∀ k_, w102.heap.size ≤ k_ → (fun k_ => (P3_ k_ ∨ w.heap.size ≤ k_) ∧ some k_ ≠ (.slice (some ad254) y251.length co19 : Value).ownBlock ∧ some k_ ≠ (.slice (some ad273) y270.length co73 : Value).ownBlock ∧ k_ ≠ gb244 ∧ k_ ≠ gb255 ∧ k_ ≠ gb263 ∧ k_ ≠ gb267 ∧ k_ ≠ gb274 ∧ k_ ≠ g248) k_ from fun k_ hk => ⟨(.inr (Nat.le_trans (below_size (by repeat (first | (with_reducible first | exact HB.out | apply below_alloc | apply pw_below_drewN | apply below_drew1 | refine below_set ?_ (IsS59.ge HI248.out) | refine below_set ?_ GE244.out | refine below_set ?_ GE255.out | refine below_set ?_ GE263.out | refine below_set ?_ GE267.out | refine below_set ?_ GE274.out) | exact HB.out))) hk)), Kd.fresh' (Kd.R_lt (by (with_reducible repeat (first | apply Kd.R_alloc | apply Kd.R_drewN | apply Kd.R_drew)); exact HO_52.out)) k_ hk, Kd.fresh' (Kd.R_lt (by (with_reducible repeat (first | apply Kd.R_alloc | apply Kd.R_drewN | apply Kd.R_drew)); exact HO_114.out)) k_ hk, Kd.freshB (g := gb244) (o := .cells #[.int .i64 a2_0, .int .i64 a2_1] 31 (0, 0)) (by (with_reducible repeat (first | refine blk_drewN ?_ _ | refine blk_drew ?_ | refine blk_alloc ?_ _)); exact BK244.out) k_ hk, Kd.freshB (g := gb255) (o := .cells #[.int .i64 ((rd_T51 y251 x54_1).f0), .int .i64 ((rd_T51 y251 x54_1).f1)] 51 (0, 0)) (by (with_reducible repeat (first | refine blk_drewN ?_ _ | refine blk_drew ?_ | refine blk_alloc ?_ _)); exact BK255.out) k_ hk, Kd.freshB (g := gb263) (o := .cells #[.int .i64 t260, .int .i64 t261] 31 (0, 0)) (by (with_reducible repeat (first | refine blk_drewN ?_ _ | refine blk_drew ?_ | refine blk_alloc ?_ _)); exact BK263.out) k_ hk, Kd.freshB (g := gb267) (o := .cells #[.int .i64 t264, .int .i64 t265] 31 (0, 0)) (by (with_reducible repeat (first | refine blk_drewN ?_ _ | refine blk_drew ?_ | refine blk_alloc ?_ _)); exact BK267.out) k_ hk, Kd.freshB (g := gb274) (o := .cells #[.int .i64 ((rd_T31 y270 x116_3).f0), .int .i64 ((rd_T31 y270 x116_3).f1)] 31 (0, 0)) (by (with_reducible repeat (first | refine blk_drewN ?_ _ | refine blk_drew ?_ | refine blk_alloc ?_ _)); exact BK274.out) k_ hk, IsS59.fresh (by repeat (first | (with_reducible first | exact HI248.out | apply IsS59.alloc | apply IsS59.drewN | apply IsS59.drew | apply IsS59.set_1 | refine IsS59.far ?_ NB248_244.out _ | refine IsS59.far ?_ NB248_255.out _ | refine IsS59.far ?_ NB248_263.out _ | refine IsS59.far ?_ NB248_267.out _ | refine IsS59.far ?_ NB248_274.out _) | exact HI248.out)) k_ hk⟩) _ (Nat.le_refl _)) (Below.refl _ _) (Nat.le_refl _) (by simp) ?_; (case hd => rfl); (case hg => rfl); (case hr => first | (go_simp; done) | (go_simp; rfl)); (case hp => exact (Reps.one (show Kd.FK (Kd.slice 3 (Kd.int .i64)) _ _ l3 [.slice A3 l3.length c3] from (Kd.FK_slice_mk (Kd.V_reads' (Kd.V_mono (ok' := (fun k_ => (P3_ k_ ∨ w.heap.size ≤ k_) ∧ some k_ ≠ (.slice (some ad254) y251.length co19 : Value).ownBlock ∧ some k_ ≠ (.slice (some ad273) y270.length co73 : Value).ownBlock ∧ k_ ≠ gb244 ∧ k_ ≠ gb255 ∧ k_ ≠ gb263 ∧ k_ ≠ gb267 ∧ k_ ≠ gb274 ∧ k_ ≠ g248)) (HO_3.out) (fun k_ hk => ⟨hk.1.1, ⟨hk.1.2.1, ⟨hk.1.2.2.1, ⟨hk.1.2.2.2.1, ⟨hk.1.2.2.2.2.1, ⟨hk.1.2.2.2.2.2.1, ⟨hk.1.2.2.2.2.2.2.1, ⟨hk.1.2.2.2.2.2.2.2.1, hk.1.2.2.2.2.2.2.2.2⟩⟩⟩⟩⟩⟩⟩⟩))).2.1 (Kd.V_F (Kd.V_mono (ok' := (fun k_ => (P3_ k_ ∨ w.heap.size ≤ k_) ∧ some k_ ≠ (.slice (some ad254) y251.length co19 : Value).ownBlock ∧ some k_ ≠ (.slice (some ad273) y270.length co73 : Value).ownBlock ∧ k_ ≠ gb244 ∧ k_ ≠ gb255 ∧ k_ ≠ gb263 ∧ k_ ≠ gb267 ∧ k_ ≠ gb274 ∧ k_ ≠ g248)) (HO_3.out) (fun k_ hk => ⟨hk.1.1, ⟨hk.1.2.1, ⟨hk.1.2.2.1, ⟨hk.1.2.2.2.1, ⟨hk.1.2.2.2.2.1, ⟨hk.1.2.2.2.2.2.1, ⟨hk.1.2.2.2.2.2.2.1, ⟨hk.1.2.2.2.2.2.2.2.1, hk.1.2.2.2.2.2.2.2.2⟩⟩⟩⟩⟩⟩⟩⟩))))) (Reps.one (show Kd.FK (Kd.slice 3 (Kd.int .i64)) _ _ t279 [.slice Ao103 t279.length co103] from (Kd.FK_slice_mk (Kd.R_reads' (Kd.R_mono (ok' := (fun k_ => (P3_ k_ ∨ w.heap.size ≤ k_) ∧ some k_ ≠ (.slice (some ad254) y251.length co19 : Value).ownBlock ∧ some k_ ≠ (.slice (some ad273) y270.length co73 : Value).ownBlock ∧ k_ ≠ gb244 ∧ k_ ≠ gb255 ∧ k_ ≠ gb263 ∧ k_ ≠ gb267 ∧ k_ ≠ gb274 ∧ k_ ≠ g248)) (IsS59.apart HI248.out (Kd.R_types (Kd.R_types (Kd.R_types (Kd.R_types (Kd.R_types (Kd.R_apart' (Kd.R_apart' (HO281.out) (Kd.R_typed HO_52.out) (by decide)) (Kd.R_typed HO_114.out) (by decide)) BK244.out (by decide)) BK255.out (by decide)) BK263.out (by decide)) BK267.out (by decide)) BK274.out (by decide)) (by decide)) (fun k_ hk => ⟨(.inr (hk.1.1.1.1.1.1.1.1.1)), ⟨hk.1.1.1.1.1.1.1.2, ⟨hk.1.1.1.1.1.1.2, ⟨hk.1.1.1.1.1.2, ⟨hk.1.1.1.1.2, ⟨hk.1.1.1.2, ⟨hk.1.1.2, ⟨hk.1.2, hk.2⟩⟩⟩⟩⟩⟩⟩⟩))).2.1 (Kd.R_F (Kd.R_mono (ok' := (fun k_ => (P3_ k_ ∨ w.heap.size ≤ k_) ∧ some k_ ≠ (.slice (some ad254) y251.length co19 : Value).ownBlock ∧ some k_ ≠ (.slice (some ad273) y270.length co73 : Value).ownBlock ∧ k_ ≠ gb244 ∧ k_ ≠ gb255 ∧ k_ ≠ gb263 ∧ k_ ≠ gb267 ∧ k_ ≠ gb274 ∧ k_ ≠ g248)) (IsS59.apart HI248.out (Kd.R_types (Kd.R_types (Kd.R_types (Kd.R_types (Kd.R_types (Kd.R_apart' (Kd.R_apart' (HO281.out) (Kd.R_typed HO_52.out) (by decide)) (Kd.R_typed HO_114.out) (by decide)) BK244.out (by decide)) BK255.out (by decide)) BK263.out (by decide)) BK267.out (by decide)) BK274.out (by decide)) (by decide)) (fun k_ hk => ⟨(.inr (hk.1.1.1.1.1.1.1.1.1)), ⟨hk.1.1.1.1.1.1.1.2, ⟨hk.1.1.1.1.1.1.2, ⟨hk.1.1.1.1.1.2, ⟨hk.1.1.1.1.2, ⟨hk.1.1.1.2, ⟨hk.1.1.2, ⟨hk.1.2, hk.2⟩⟩⟩⟩⟩⟩⟩⟩))))) (Reps.none _ _)))); intro v284 w104 ho105 hb hg_ hnew_; clear hg_ hnew_; (first | rw [← Ny283.out] at ho105 | (simp only [Int.reduceToNat] at ho105; rw [← Ny283.out] at ho105)); have HO285 := Aside0.mk (Kd.N_lower ho105 (below_size (by repeat (first | (with_reducible first | exact HB.out | apply below_alloc | apply pw_below_drewN | apply below_drew1 | refine below_set ?_ (IsS59.ge HI248.out) | refine below_set ?_ GE244.out | refine below_set ?_ GE255.out | refine below_set ?_ GE263.out | refine below_set ?_ GE267.out | refine below_set ?_ GE274.out) | exact HB.out)))); replace HO_3 := Aside0.mk (Kd.V_elder' (by (with_reducible repeat (first | apply Kd.V_alloc | apply Kd.V_drewN | apply Kd.V_drew)); exact HO_3.out) (Kd.N_base ho105) hb); replace HO_52 := kR HO_52 hb; replace HO_114 := kR HO_114 hb; replace BK244 := kB BK244 hb; replace BK255 := Aside0.mk (blk_below (g := gb255) (o := .cells #[.int .i64 ((rd_T51 y251 x54_1).f0), .int .i64 ((rd_T51 y251 x54_1).f1)] 51 (0, 0)) (by (with_reducible repeat (first | refine blk_drewN ?_ _ | refine blk_drew ?_ | refine blk_alloc ?_ _)); exact BK255.out) hb); replace BK263 := kB BK263 hb; replace BK267 := kB BK267 hb; replace BK274 := Aside0.mk (blk_below (g := gb274) (o := .cells #[.int .i64 ((rd_T31 y270 x116_3).f0), .int .i64 ((rd_T31 y270 x116_3).f1)] 31 (0, 0)) (by (with_reducible repeat (first | refine blk_drewN ?_ _ | refine blk_drew ?_ | refine blk_alloc ?_ _)); exact BK274.out) hb); replace HI248 := Aside0.mk (IsS59.below (by repeat (first | (with_reducible first | exact HI248.out | apply IsS59.alloc | apply IsS59.drewN | apply IsS59.drew | apply IsS59.set_1 | refine IsS59.far ?_ NB248_244.out _ | refine IsS59.far ?_ NB248_255.out _ | refine IsS59.far ?_ NB248_263.out _ | refine IsS59.far ?_ NB248_267.out _ | refine IsS59.far ?_ NB248_274.out _) | exact HI248.out)) hb); replace HB := kH HB hb; clear HO281; clear hb ho105; obtain ⟨Ao106, co106, eo106⟩ := Kd.N_slice HO285.out; subst eo106))
                   go_loopg [147] kj78 (fun kq v147 w' => ∃ (x147_5 : Int), v147 = .int .i64 x147_5 ∧ Aside0 (synopticlaw39_SamplingCounts.l2 kq a1 l3 y251 (y251.length : Int) x54_1 y270 (y270.length : Int) x116_3 y283 (y283.length : Int) x147_5 a2_0 a2_1 t246 t282 ((rd_T51 y251 x54_1).f0) ((rd_T51 y251 x54_1).f1) ((rd_T31 y270 x116_3).f0) ((rd_T31 y270 x116_3).f1) = some r) ∧ Aside0 (kq ≤ kj78) ∧ Aside0 (Kd.V (Kd.int .i64) 3 w' w.heap.size (fun k_ => (P3_ k_ ∨ w.heap.size ≤ k_) ∧ some k_ ≠ ((.slice (some ad254) y251.length co19) : Value).ownBlock ∧ some k_ ≠ ((.slice (some ad273) y270.length co73) : Value).ownBlock ∧ some k_ ≠ ((.slice Ao106 y283.length co106) : Value).ownBlock ∧ k_ ≠ gb244 ∧ k_ ≠ gb255 ∧ k_ ≠ gb263 ∧ k_ ≠ gb267 ∧ k_ ≠ gb274 ∧ k_ ≠ g248) (.slice A3 l3.length c3) l3) ∧ Aside0 (Kd.R k51 51 w' w.heap.size (fun k_ => (w.heap.size ≤ k_) ∧ k_ ≠ gb255) (.slice (some ad254) y251.length co19) y251) ∧ Aside0 (Kd.R k31 31 w' w.heap.size (fun k_ => (w.heap.size ≤ k_) ∧ k_ ≠ gb244 ∧ k_ ≠ gb263 ∧ k_ ≠ gb267 ∧ k_ ≠ gb274) (.slice (some ad273) y270.length co73) y270) ∧ Aside0 (Kd.N (Kd.slice 3 (Kd.int .i64)) 24 w' w.heap.size (fun k_ => (P3_ k_ ∨ w.heap.size ≤ k_) ∧ some k_ ≠ ((.slice (some ad254) y251.length co19) : Value).ownBlock ∧ some k_ ≠ ((.slice (some ad273) y270.length co73) : Value).ownBlock ∧ k_ ≠ gb244 ∧ k_ ≠ gb255 ∧ k_ ≠ gb263 ∧ k_ ≠ gb267 ∧ k_ ≠ gb274 ∧ k_ ≠ g248) (.slice Ao106 y283.length co106) y283) ∧ Aside0 (w'.heap[gb244]? = some (.cells #[.int .i64 a2_0, .int .i64 a2_1] 31 (0, 0))) ∧ Aside0 (w'.heap[gb255]? = some (.cells #[.int .i64 ((rd_T51 y251 x54_1).f0), .int .i64 ((rd_T51 y251 x54_1).f1)] 51 (0, 0))) ∧ Aside0 (w'.heap[gb263]? = some (.cells #[.int .i64 t260, .int .i64 t261] 31 (0, 0))) ∧ Aside0 (w'.heap[gb267]? = some (.cells #[.int .i64 t264, .int .i64 t265] 31 (0, 0))) ∧ Aside0 (w'.heap[gb274]? = some (.cells #[.int .i64 ((rd_T31 y270 x116_3).f0), .int .i64 ((rd_T31 y270 x116_3).f1)] 31 (0, 0))) ∧ Aside0 (IsS59 w w' g248 t246 t282) ∧ Aside0 (Below w.heap.size w w'))
                   case atStart => exact ⟨(0), (by first | rfl | (simp; done) | (simp [*]; done)), H', ⟨Nat.le_refl _⟩, ⟨by (with_reducible repeat (first | apply Kd.V_alloc | apply Kd.V_drewN | apply Kd.V_drew)); exact Kd.V_mono HO_3.out (fun _ hk => ⟨hk.1.1.1, ⟨hk.1.1.2.1, ⟨hk.1.1.2.2.1, ⟨hk.2, ⟨hk.1.1.2.2.2.1, ⟨hk.1.1.2.2.2.2.1, ⟨hk.1.1.2.2.2.2.2.1, ⟨hk.1.1.2.2.2.2.2.2.1, ⟨hk.1.1.2.2.2.2.2.2.2.1, hk.1.1.2.2.2.2.2.2.2.2⟩⟩⟩⟩⟩⟩⟩⟩⟩)⟩, ⟨by (with_reducible repeat (first | apply Kd.R_alloc | apply Kd.R_drewN | apply Kd.R_drew)); exact HO_52.out⟩, ⟨by (with_reducible repeat (first | apply Kd.R_alloc | apply Kd.R_drewN | apply Kd.R_drew)); exact HO_114.out⟩, ⟨by (with_reducible repeat (first | apply Kd.N_alloc | apply Kd.N_drewN | apply Kd.N_drew)); exact HO285.out⟩, ⟨by (with_reducible repeat (first | refine blk_drewN ?_ _ | refine blk_drew ?_ | refine blk_alloc ?_ _)); exact BK244.out⟩, ⟨by (with_reducible repeat (first | refine blk_drewN ?_ _ | refine blk_drew ?_ | refine blk_alloc ?_ _)); exact BK255.out⟩, ⟨by (with_reducible repeat (first | refine blk_drewN ?_ _ | refine blk_drew ?_ | refine blk_alloc ?_ _)); exact BK263.out⟩, ⟨by (with_reducible repeat (first | refine blk_drewN ?_ _ | refine blk_drew ?_ | refine blk_alloc ?_ _)); exact BK267.out⟩, ⟨by (with_reducible repeat (first | refine blk_drewN ?_ _ | refine blk_drew ?_ | refine blk_alloc ?_ _)); exact BK274.out⟩, ⟨by repeat (first | (with_reducible first | exact HI248.out | apply IsS59.alloc | apply IsS59.drewN | apply IsS59.drew | apply IsS59.set_1 | refine IsS59.far ?_ NB248_244.out _ | refine IsS59.far ?_ NB248_255.out _ | refine IsS59.far ?_ NB248_263.out _ | refine IsS59.far ?_ NB248_267.out _ | refine IsS59.far ?_ NB248_274.out _) | exact HI248.out)⟩, ⟨by repeat (first | (with_reducible first | exact HB.out | apply below_alloc | apply pw_below_drewN | apply below_drew1 | refine below_set ?_ (IsS59.ge HI248.out) | refine below_set ?_ GE244.out | refine below_set ?_ GE255.out | refine below_set ?_ GE263.out | refine below_set ?_ GE267.out | refine below_set ?_ GE274.out) | exact HB.out)⟩⟩
                   case round =>
                    clear H'
                    (try clear c1); (try clear c2); (try clear p2); (try clear q2); (try clear hx2); (try clear c3); (try clear c4); (try clear c5); (try clear c6); (try clear p6); (try clear c7); (try clear c8); (try clear c8b0); (try clear c8b1); (try clear c9); (try clear c10); (try clear c11); (try clear c18); (try clear c20); (try clear c20b0); (try clear c21); (try clear c21b0)
                    (try clear c22); (try clear c22b0); (try clear c23); (try clear c24); (try clear c25); (try clear p25); (try clear q25); (try clear hx25); (try clear c26); (try clear c27); (try clear p27); (try clear q27); (try clear hx27); (try clear c28); (try clear c29); (try clear c30); (try clear c40); (try clear c41); (try clear c42); (try clear c48); (try clear c49); (try clear c50)
                    (try clear c51); (try clear c54); (try clear c54b0); (try clear c54b1); (try clear c55); (try clear c55b0); (try clear c55b1); (try clear c56); (try clear c56b0); (try clear c57); (try clear c57b0); (try clear c57b1); (try clear c57b2); (try clear c58); (try clear c59); (try clear c60); (try clear c61); (try clear c63); (try clear c64); (try clear p64); (try clear c65)
                    (try clear c67); (try clear c74); (try clear c74b0); (try clear c75); (try clear c75b0); (try clear c76); (try clear c76b0); (try clear c81); (try clear c82); (try clear c83); (try clear c84); (try clear c85); (try clear c88); (try clear c89); (try clear c90); (try clear c91); (try clear c98); (try clear c98b0); (try clear c98b1); (try clear c99); (try clear c99b0)
                    (try clear c99b1); (try clear c99b2); (try clear c100); (try clear hcz31_0); (try clear hcz31_1); (try clear hcz33_0); (try clear hcz33_1); (try clear hcz35_0); (try clear hcz35_1); (try clear hcz37_0); (try clear hcz37_1); (try clear hcz43_0); (try clear hcz43_1); (try clear hcz45_0); (try clear hcz45_1); (try clear hcz52_0); (try clear hcz52_1); (try clear hcz62_0)
                    (try clear hcz62_1); (try clear hcz66_0); (try clear hcz66_1); (try clear hcz86_0); (try clear hcz86_1); (try clear hcz92_0); (try clear hcz92_1); (try clear hcz93_0); (try clear hcz93_1); (try clear hcz95_0); (try clear hcz95_1); (try clear hcz96_0); (try clear hcz96_1); (try clear hfz31_0); (try clear hfz31_1); (try clear hfz33_0); (try clear hfz33_1); (try clear hfz35_0)
                    (try clear hfz35_1); (try clear hfz37_0); (try clear hfz37_1); (try clear hfz43_0); (try clear hfz43_1); (try clear hfz45_0); (try clear hfz45_1); (try clear hfz52_0); (try clear hfz52_1); (try clear hfz62_0); (try clear hfz62_1); (try clear hfz66_0); (try clear hfz66_1); (try clear hfz86_0); (try clear hfz86_1); (try clear hfz92_0); (try clear hfz92_1); (try clear hfz93_0)
                    (try clear hfz93_1); (try clear hfz95_0); (try clear hfz95_1); (try clear hfz96_0); (try clear hfz96_1); (try clear hx254_0); (try clear hx254_1); (try clear hx273_0); (try clear hx273_1); (try clear p2); (try clear p25); (try clear p254); (try clear p27); (try clear p273); (try clear p6); (try clear p64); (try clear q2); (try clear q25); (try clear q254); (try clear q27)
                    (try clear q273)
                    obtain ⟨x147_5, rfl, HA, HK5, HO_3, HO_52, HO_114, HO_145, BK244, BK255, BK263, BK267, BK274, HI248, HB⟩ := hrel
                    cases gk with
                    | zero => exact absurd HA.out (by simp [synopticlaw39_SamplingCounts.l2])
                    | succ k5 =>
                     have H := HA.out
                     clear HA
                     simp only [synopticlaw39_SamplingCounts.l2] at H
                     by_cases c107 : x147_5 < (y283.length : Int)
                     ·rw [if_pos c107] at H
                      have c107b0 : decide (x147_5 < (y283.length : Int)) = true := decide_eq_true c107
                      clear c107
                      by_cases c108 : 0 ≤ x147_5
                      ·rw [if_pos c108] at H
                       have c108b0 : decide (0 ≤ x147_5) = true := decide_eq_true c108
                       clear c108
                       by_cases c109 : x147_5 < (y283.length : Int)
                       ·rw [if_pos c109] at H
                        have c109b0 : decide (x147_5 < (y283.length : Int)) = true := decide_eq_true c109
                        clear c109
                        replace H := Option.bind_eq_some_iff.mp H
                        obtain ⟨⟨t287, t288, t289⟩, A1100, H⟩ := H
                        replace H : ((synopticref39_Median.f k5 (rd_L4 y283 x147_5) ((rd_T31 y270 x116_3).f0) ((rd_T31 y270 x116_3).f1)).bind fun bt290 => (if t287 = bt290.1 then (if t288 = bt290.2.1 then (if t289 = bt290.2.2 then (synopticlaw39_SamplingCounts.l2 k5 a1 l3 y251 (y251.length : Int) x54_1 y270 (y270.length : Int) x116_3 y283 (y283.length : Int) (wrap64 (x147_5 + 1)) a2_0 a2_1 t246 t282 ((rd_T51 y251 x54_1).f0) ((rd_T51 y251 x54_1).f1) ((rd_T31 y270 x116_3).f0) ((rd_T31 y270 x116_3).f1)) else (none)) else (none)) else (none))) = some r := H
                        have A110 := Aside0.mk A1100
                        clear A1100
                        replace H := Option.bind_eq_some_iff.mp H
                        obtain ⟨⟨t290, t291, t292⟩, A1110, H⟩ := H
                        replace H : (if t287 = t290 then (if t288 = t291 then (if t289 = t292 then (synopticlaw39_SamplingCounts.l2 k5 a1 l3 y251 (y251.length : Int) x54_1 y270 (y270.length : Int) x116_3 y283 (y283.length : Int) (wrap64 (x147_5 + 1)) a2_0 a2_1 t246 t282 ((rd_T51 y251 x54_1).f0) ((rd_T51 y251 x54_1).f1) ((rd_T31 y270 x116_3).f0) ((rd_T31 y270 x116_3).f1)) else (none)) else (none)) else (none)) = some r := H
                        have A111 := Aside0.mk A1110
                        clear A1110
                        by_cases c112 : t287 = t290
                        ·rw [if_pos c112] at H
                         have c112b0 : (t287 == t290) = true := beq_iff_eq.mpr c112
                         have c112b1 : (t287 != t290) = false := bne_eq_false_iff_eq.mpr c112
                         clear c112
                         by_cases c113 : t288 = t291
                         ·rw [if_pos c113] at H
                          have c113b0 : (t288 == t291) = true := beq_iff_eq.mpr c113
                          have c113b1 : (t288 != t291) = false := bne_eq_false_iff_eq.mpr c113
                          clear c113
                          by_cases c114 : t289 = t292
                          ·rw [if_pos c114] at H
                           have c114b0 : (t289 == t292) = true := beq_iff_eq.mpr c114
                           have c114b1 : (t289 != t292) = false := bne_eq_false_iff_eq.mpr c114
                           clear c114
                           have H' := Aside0.mk H
                           clear H
                           have p286 : 0 ≤ (x147_5 : Int) := of_decide_eq_true (by first | (with_reducible assumption) | assumption)
                           have q286 : x147_5 < (y283.length : Int) := of_decide_eq_true (by first | (with_reducible assumption) | assumption)
                           obtain ⟨ad286, A286_0, c286_0, e286, hx286_0, hl286_0, hi286_0⟩ := at_L4 (Kd.N_reads' HO_145.out).2.2 x147_5 p286 q286
                           cases e286
                           obtain ⟨ce286, hce286, hMe286, hcc286⟩ := Kd.N_get HO_145.out [] x147_5 p286 (by first | exact q286 | exact of_decide_eq_true (by first | (with_reducible assumption) | assumption) | (have e_ := (Kd.N_reads' HO_145.out).1; omega))
                           obtain ⟨ua286_0, uc286_0, rfl, ul286_0, ge286_0⟩ := Kd.FK_slice_open hMe286
                           have hv286_0 := hcc286 0 _ rfl
                           rw [Nat.add_zero, show ((Kd.slice 3 (Kd.int .i64))).sz = 1 from rfl, Nat.mul_one] at hv286_0
                           replace hv286_0 := Option.some.inj (hv286_0.symm.trans hx286_0)
                           injection hv286_0 with hva_ hvn_ hvc_
                           rw [hva_] at ge286_0
                           rw [hvc_] at ul286_0
                           have HL286_0 := Aside0.mk (show Kd.V (Kd.int .i64) 3 _ w.heap.size _ _ (rd_L4 y283 x147_5) from Kd.V_mk ul286_0 ge286_0)
                           clear hva_ hvn_ hvc_ ge286_0 ul286_0
                           clear hcc286 hce286
                           have HR286_0 := Aside0.mk hi286_0
                           have HC286_0 := Aside0.mk hl286_0
                           clear hi286_0 hl286_0
                           replace p286 := eq_true p286
                           replace q286 := eq_true q286
                           have hnb115 := NB274_244.out
                           have hnc115 := NB244_274.out
                           have hnb116 := NB274_255.out
                           have hnc116 := NB255_274.out
                           have hnb117 := NB274_263.out
                           have hnc117 := NB263_274.out
                           have hnb118 := NB274_267.out
                           have hnc118 := NB267_274.out
                           have hnb119 := NB274_248.out
                           have hnc119 := NB248_274.out
                           have hcz120_0 : wr.cell? ⟨gb274, 0, none⟩ = some (.int .i64 ((rd_T31 y270 x116_3).f0)) := (blk_cell BK274.out 0).trans rfl
                           have hcz120_1 : wr.cell? ⟨gb274, 1, none⟩ = some (.int .i64 ((rd_T31 y270 x116_3).f1)) := (blk_cell BK274.out 1).trans rfl
                           have hfz120_0 := blk_frozen BK274.out 0
                           have hfz120_1 := blk_frozen BK274.out 1
                           go_wp2_with (first | ((with_reducible refine gate_callee (f := 19) rfl ?_); refine goesL_ (some 154) rfl rfl Try.func19 (by kernel_rfl) rfl #[.slice A286_0 (rd_L4 y283 x147_5).length c286_0, .agg #[.int .i64 ((rd_T31 y270 x116_3).f0), .int .i64 ((rd_T31 y270 x116_3).f1)]] rfl (by (try simp only [List.map_toArray, List.map_cons, List.map_nil]); first | done | rfl | (simp only [List.length_drop, List.length_take]; rfl)) ?_; (with_reducible refine (sampling_Median.calls _ _ (rd_L4 y283 x147_5) ((rd_T31 y270 x116_3).f0) ((rd_T31 y270 x116_3).f1) t287 t288 t289 _ ?side1 ?side2 A110.out).mono ?_); (case side1 => repeat (first | exact (by repeat (first | (with_reducible exact HR286_0.out) | (with_reducible refine Kd.C_alloc ?_ _) | (with_reducible refine Kd.C_drewN ?_ _) | (with_reducible refine Kd.C_drew ?_) | exact HR286_0.out)) | (with_reducible refine Kd.C_alloc ?_ _) | (with_reducible refine Kd.C_drewN ?_ _) | (with_reducible refine Kd.C_drew ?_))); (case side2 => exact HC286_0.out); rintro e w121 ⟨rfl, hb⟩; refine ⟨_, rfl, ?_⟩; replace HO_3 := Aside0.mk (Kd.V_below (by (with_reducible repeat (first | apply Kd.V_alloc | apply Kd.V_drewN | apply Kd.V_drew)); exact HO_3.out) hb); replace HO_52 := kR HO_52 hb; replace HO_114 := kR HO_114 hb; replace HO_145 := Aside0.mk (Kd.N_below (by (with_reducible repeat (first | apply Kd.N_alloc | apply Kd.N_drewN | apply Kd.N_drew)); exact HO_145.out) hb); replace HL286_0 := Aside0.mk (Kd.V_below (by (with_reducible repeat (first | apply Kd.V_alloc | apply Kd.V_drewN | apply Kd.V_drew)); exact HL286_0.out) hb); replace BK244 := kB BK244 hb; replace BK255 := Aside0.mk (blk_below (g := gb255) (o := .cells #[.int .i64 ((rd_T51 y251 x54_1).f0), .int .i64 ((rd_T51 y251 x54_1).f1)] 51 (0, 0)) (by (with_reducible repeat (first | refine blk_drewN ?_ _ | refine blk_drew ?_ | refine blk_alloc ?_ _)); exact BK255.out) hb); replace BK263 := kB BK263 hb; replace BK267 := kB BK267 hb; replace BK274 := Aside0.mk (blk_below (g := gb274) (o := .cells #[.int .i64 ((rd_T31 y270 x116_3).f0), .int .i64 ((rd_T31 y270 x116_3).f1)] 31 (0, 0)) (by (with_reducible repeat (first | refine blk_drewN ?_ _ | refine blk_drew ?_ | refine blk_alloc ?_ _)); exact BK274.out) hb); replace HI248 := Aside0.mk (IsS59.below (by repeat (first | (with_reducible first | exact HI248.out | apply IsS59.alloc | apply IsS59.drewN | apply IsS59.drew | apply IsS59.set_1 | refine IsS59.far ?_ NB248_244.out _ | refine IsS59.far ?_ NB248_255.out _ | refine IsS59.far ?_ NB248_263.out _ | refine IsS59.far ?_ NB248_267.out _ | refine IsS59.far ?_ NB248_274.out _) | exact HI248.out)) hb); replace HR286_0 := kC HR286_0 hb; replace HB := kH HB hb; (try clear hb); (try clear hb2); (try clear hk); (try clear hi); have hcz122_0 : w121.cell? ⟨gb274, 0, none⟩ = some (.int .i64 ((rd_T31 y270 x116_3).f0)) := (blk_cell BK274.out 0).trans rfl; have hcz122_1 : w121.cell? ⟨gb274, 1, none⟩ = some (.int .i64 ((rd_T31 y270 x116_3).f1)) := (blk_cell BK274.out 1).trans rfl; have hfz122_0 := blk_frozen BK274.out 0; have hfz122_1 := blk_frozen BK274.out 1) | ((with_reducible refine gate_callee (f := 29) rfl ?_); refine goesL_ (some 161) rfl rfl Try.func29 (by kernel_rfl) rfl #[.slice A286_0 (rd_L4 y283 x147_5).length c286_0, .agg #[.int .i64 ((rd_T31 y270 x116_3).f0), .int .i64 ((rd_T31 y270 x116_3).f1)]] rfl (by (try simp only [List.map_toArray, List.map_cons, List.map_nil]); first | done | rfl | (simp only [List.length_drop, List.length_take]; rfl)) ?_; (with_reducible refine (synopticref39_Median.calls k5 _ _ (rd_L4 y283 x147_5) ((rd_T31 y270 x116_3).f0) ((rd_T31 y270 x116_3).f1) t290 t291 t292 _ ?side1 ?side2 A111.out).mono ?_); (case side1 => repeat (first | exact (by repeat (first | (with_reducible exact HR286_0.out) | (with_reducible refine Kd.C_alloc ?_ _) | (with_reducible refine Kd.C_drewN ?_ _) | (with_reducible refine Kd.C_drew ?_) | exact HR286_0.out)) | (with_reducible refine Kd.C_alloc ?_ _) | (with_reducible refine Kd.C_drewN ?_ _) | (with_reducible refine Kd.C_drew ?_))); (case side2 => exact HC286_0.out); rintro e w123 ⟨rfl, hb⟩; refine ⟨_, rfl, ?_⟩; replace HO_3 := Aside0.mk (Kd.V_below (by (with_reducible repeat (first | apply Kd.V_alloc | apply Kd.V_drewN | apply Kd.V_drew)); exact HO_3.out) hb); replace HO_52 := kR HO_52 hb; replace HO_114 := kR HO_114 hb; replace HO_145 := Aside0.mk (Kd.N_below (by (with_reducible repeat (first | apply Kd.N_alloc | apply Kd.N_drewN | apply Kd.N_drew)); exact HO_145.out) hb); replace HL286_0 := Aside0.mk (Kd.V_below (by (with_reducible repeat (first | apply Kd.V_alloc | apply Kd.V_drewN | apply Kd.V_drew)); exact HL286_0.out) hb); replace BK244 := kB BK244 hb; replace BK255 := Aside0.mk (blk_below (g := gb255) (o := .cells #[.int .i64 ((rd_T51 y251 x54_1).f0), .int .i64 ((rd_T51 y251 x54_1).f1)] 51 (0, 0)) (by (with_reducible repeat (first | refine blk_drewN ?_ _ | refine blk_drew ?_ | refine blk_alloc ?_ _)); exact BK255.out) hb); replace BK263 := kB BK263 hb; replace BK267 := kB BK267 hb; replace BK274 := Aside0.mk (blk_below (g := gb274) (o := .cells #[.int .i64 ((rd_T31 y270 x116_3).f0), .int .i64 ((rd_T31 y270 x116_3).f1)] 31 (0, 0)) (by (with_reducible repeat (first | refine blk_drewN ?_ _ | refine blk_drew ?_ | refine blk_alloc ?_ _)); exact BK274.out) hb); replace HI248 := Aside0.mk (IsS59.below (by repeat (first | (with_reducible first | exact HI248.out | apply IsS59.alloc | apply IsS59.drewN | apply IsS59.drew | apply IsS59.set_1 | refine IsS59.far ?_ NB248_244.out _ | refine IsS59.far ?_ NB248_255.out _ | refine IsS59.far ?_ NB248_263.out _ | refine IsS59.far ?_ NB248_267.out _ | refine IsS59.far ?_ NB248_274.out _) | exact HI248.out)) hb); replace HR286_0 := kC HR286_0 hb; replace HB := kH HB hb; (try clear hb); (try clear hb2); (try clear hk); (try clear hi)))
                           go_roundg k5
                           case measure => have := HK1.out; have := HJ26.out; have := HK3.out; have := HJ78.out; have := HK5.out; omega
                           case rel => exact ⟨(wrap64 (x147_5 + 1)), (by first | rfl | (simp; done) | (simp [*]; done)), H', ⟨by have := HK1.out; have := HJ26.out; have := HK3.out; have := HJ78.out; have := HK5.out; omega⟩, ⟨by (with_reducible repeat (first | apply Kd.V_alloc | apply Kd.V_drewN | apply Kd.V_drew)); exact HO_3.out⟩, ⟨by (with_reducible repeat (first | apply Kd.R_alloc | apply Kd.R_drewN | apply Kd.R_drew)); exact HO_52.out⟩, ⟨by (with_reducible repeat (first | apply Kd.R_alloc | apply Kd.R_drewN | apply Kd.R_drew)); exact HO_114.out⟩, ⟨by (with_reducible repeat (first | apply Kd.N_alloc | apply Kd.N_drewN | apply Kd.N_drew)); exact HO_145.out⟩, ⟨by (with_reducible repeat (first | refine blk_drewN ?_ _ | refine blk_drew ?_ | refine blk_alloc ?_ _)); exact BK244.out⟩, ⟨by (with_reducible repeat (first | refine blk_drewN ?_ _ | refine blk_drew ?_ | refine blk_alloc ?_ _)); exact BK255.out⟩, ⟨by (with_reducible repeat (first | refine blk_drewN ?_ _ | refine blk_drew ?_ | refine blk_alloc ?_ _)); exact BK263.out⟩, ⟨by (with_reducible repeat (first | refine blk_drewN ?_ _ | refine blk_drew ?_ | refine blk_alloc ?_ _)); exact BK267.out⟩, ⟨by (with_reducible repeat (first | refine blk_drewN ?_ _ | refine blk_drew ?_ | refine blk_alloc ?_ _)); exact BK274.out⟩, ⟨by repeat (first | (with_reducible first | exact HI248.out | apply IsS59.alloc | apply IsS59.drewN | apply IsS59.drew | apply IsS59.set_1 | refine IsS59.far ?_ NB248_244.out _ | refine IsS59.far ?_ NB248_255.out _ | refine IsS59.far ?_ NB248_263.out _ | refine IsS59.far ?_ NB248_267.out _ | refine IsS59.far ?_ NB248_274.out _) | exact HI248.out)⟩, ⟨by repeat (first | (with_reducible first | exact HB.out | apply below_alloc | apply pw_below_drewN | apply below_drew1 | refine below_set ?_ (IsS59.ge HI248.out) | refine below_set ?_ GE244.out | refine below_set ?_ GE255.out | refine below_set ?_ GE263.out | refine below_set ?_ GE267.out | refine below_set ?_ GE274.out) | exact HB.out)⟩⟩
                          ·rw [if_neg c114] at H
                           exact absurd H (by simp)
                         ·rw [if_neg c113] at H
                          exact absurd H (by simp)
                        ·rw [if_neg c112] at H
                         exact absurd H (by simp)
                       ·rw [if_neg c109] at H
                        exact absurd H (by simp)
                      ·rw [if_neg c108] at H
                       exact absurd H (by simp)
                     ·rw [if_neg c107] at H
                      have c107b0 : decide (x147_5 < (y283.length : Int)) = false := decide_eq_false c107
                      clear c107
                      have H' := Aside0.mk H
                      clear H
                      go_wp2
                      go_roundg k5
                      case measure => have := HK1.out; have := HJ26.out; have := HK3.out; have := HJ78.out; have := HK5.out; omega
                      case rel => exact ⟨(wrap64 (x116_3 + 1)), (t282), (by first | rfl | (simp; done) | (simp [*]; done)), H', ⟨by have := HK1.out; have := HJ26.out; have := HK3.out; have := HJ78.out; have := HK5.out; omega⟩, ⟨by (with_reducible repeat (first | apply Kd.V_alloc | apply Kd.V_drewN | apply Kd.V_drew)); exact Kd.V_mono HO_3.out (fun _ hk => ⟨hk.1, ⟨hk.2.1, ⟨hk.2.2.1, ⟨hk.2.2.2.2.1, ⟨hk.2.2.2.2.2.1, ⟨hk.2.2.2.2.2.2.1, ⟨hk.2.2.2.2.2.2.2.1, hk.2.2.2.2.2.2.2.2.2⟩⟩⟩⟩⟩⟩⟩)⟩, ⟨by (with_reducible repeat (first | apply Kd.R_alloc | apply Kd.R_drewN | apply Kd.R_drew)); exact HO_52.out⟩, ⟨by (with_reducible repeat (first | apply Kd.R_alloc | apply Kd.R_drewN | apply Kd.R_drew)); exact Kd.R_mono HO_114.out (fun _ hk => ⟨hk.1, ⟨hk.2.1, ⟨hk.2.2.1, hk.2.2.2.1⟩⟩⟩)⟩, ⟨by (with_reducible repeat (first | refine blk_drewN ?_ _ | refine blk_drew ?_ | refine blk_alloc ?_ _)); exact BK244.out⟩, ⟨by (with_reducible repeat (first | refine blk_drewN ?_ _ | refine blk_drew ?_ | refine blk_alloc ?_ _)); exact BK255.out⟩, ⟨by (with_reducible repeat (first | refine blk_drewN ?_ _ | refine blk_drew ?_ | refine blk_alloc ?_ _)); exact BK263.out⟩, ⟨by (with_reducible repeat (first | refine blk_drewN ?_ _ | refine blk_drew ?_ | refine blk_alloc ?_ _)); exact BK267.out⟩, ⟨by repeat (first | (with_reducible first | exact HI248.out | apply IsS59.alloc | apply IsS59.drewN | apply IsS59.drew | apply IsS59.set_1 | refine IsS59.far ?_ NB248_244.out _ | refine IsS59.far ?_ NB248_255.out _ | refine IsS59.far ?_ NB248_263.out _ | refine IsS59.far ?_ NB248_267.out _ | refine IsS59.far ?_ NB248_274.out _) | exact HI248.out)⟩, ⟨by repeat (first | (with_reducible first | exact HB.out | apply below_alloc | apply pw_below_drewN | apply below_drew1 | refine below_set ?_ (IsS59.ge HI248.out) | refine below_set ?_ GE244.out | refine below_set ?_ GE255.out | refine below_set ?_ GE263.out | refine below_set ?_ GE267.out | refine below_set ?_ GE274.out) | exact HB.out)⟩⟩
               ·rw [if_neg c76] at H
                exact absurd H (by simp)
              ·rw [if_neg c75] at H
               exact absurd H (by simp)
             ·rw [if_neg c74] at H
              have c74b0 : decide (x116_3 < (y270.length : Int)) = false := decide_eq_false c74
              clear c74
              have H' := Aside0.mk H
              clear H
              go_wp2
              go_roundg k3
              case measure => have := HK1.out; have := HJ26.out; have := HK3.out; omega
              case rel => exact ⟨(wrap64 (x54_1 + 1)), (x249001_3), (by first | rfl | (simp; done) | (simp [*]; done)), H', ⟨by have := HK1.out; have := HJ26.out; have := HK3.out; omega⟩, ⟨by (with_reducible repeat (first | apply Kd.V_alloc | apply Kd.V_drewN | apply Kd.V_drew)); exact Kd.V_mono HO_3.out (fun _ hk => ⟨hk.1, ⟨hk.2.1, ⟨hk.2.2.2.1, hk.2.2.2.2.2.2.2⟩⟩⟩)⟩, ⟨by (with_reducible repeat (first | apply Kd.R_alloc | apply Kd.R_drewN | apply Kd.R_drew)); exact Kd.R_mono HO_52.out (fun _ hk => hk.1)⟩, ⟨by (with_reducible repeat (first | refine blk_drewN ?_ _ | refine blk_drew ?_ | refine blk_alloc ?_ _)); exact BK244.out⟩, ⟨by repeat (first | (with_reducible first | exact HI248.out | apply IsS59.alloc | apply IsS59.drewN | apply IsS59.drew | apply IsS59.set_1 | refine IsS59.far ?_ NB248_244.out _ | refine IsS59.far ?_ NB248_255.out _ | refine IsS59.far ?_ NB248_263.out _ | refine IsS59.far ?_ NB248_267.out _) | exact HI248.out)⟩, ⟨by repeat (first | (with_reducible first | exact HB.out | apply below_alloc | apply pw_below_drewN | apply below_drew1 | refine below_set ?_ (IsS59.ge HI248.out) | refine below_set ?_ GE244.out | refine below_set ?_ GE255.out | refine below_set ?_ GE263.out | refine below_set ?_ GE267.out) | exact HB.out)⟩⟩
       ·rw [if_neg c22] at H
        exact absurd H (by simp)
      ·rw [if_neg c21] at H
       exact absurd H (by simp)
     ·rw [if_neg c20] at H
      have c20b0 : decide (x54_1 < (y251.length : Int)) = false := decide_eq_false c20
      clear c20
      obtain rfl := Option.some.inj H
      go_wp2
      go_ret
      exact ⟨by first | rfl | (simp [errW_none, errW_some] <;> rfl) | (simp [*, errW_none, errW_some] <;> rfl), by repeat (first | (with_reducible first | exact HB.out | apply below_alloc | apply pw_below_drewN | apply below_drew1 | refine below_set ?_ (IsS59.ge HI248.out) | refine below_set ?_ GE244.out) | exact HB.out)⟩
 ·replace c7 := Bool.eq_false_iff.mpr c7
  subst c7
  have H1 : (none) = some r := by rw [if_neg (show ¬ (false = true) by decide)] at H; exact H
  clear H
  have H := H1
  clear H1
  exact absurd H (by simp)

end Go.Proofs.Ytcgjgpdandjicaa.B
