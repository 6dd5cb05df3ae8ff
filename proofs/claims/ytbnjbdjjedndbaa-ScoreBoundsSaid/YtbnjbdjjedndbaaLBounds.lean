/- Made by our program mkbase.py out of the printed functions of this seat: LBounds. -/
import Derived.Test.YtbnjbdjjedndbaaB1
import Derived.Test.YtbnjbdjjedndbaaBA
import Derived.Test.YtbnjbdjjedndbaaBC
import Derived.Test.YtbnjbdjjedndbaaBS
import Derived.Test.YtbnjbdjjedndbaaBT
import Derived.Test.YtbnjbdjjedndbaaBY
import Derived.Test.YtbnjbdjjedndbaaGScores
import Derived.Test.YtbnjbdjjedndbaaKeep
namespace Go.Proofs.Ytbnjbdjjedndbaa.B
open Go.RowKit Go.Proofs.YtbnjbdjjedndbaaW.PrintWords Go.Proofs.YtbnjbdjjedndbaaW.PrintLast Go.Proofs.YtbnjbdjjedndbaaW.PrintMore
attribute [local go_sem] max2_int min2_int max_two min_two max_three min_three max_four min_four   -- for this text's walks alone
set_option linter.unusedVariables false
set_option linter.unusedSimpArgs false

attribute [local go_sem high] eqA42 eqA59
attribute [local go_sem high] eqA28
/-! ### synopticlaw38_ScoreBounds: function 8 -/
mutual
def synopticlaw38_ScoreBounds.j0 : Nat → List (S40) → List (S40) → Bool → Int → Int → Int → Int → Option (Bool)
  | 0, _, _, _, _, _, _, _ => none
  | k + 1, x7, x8, x58, x204000, x204001, x204002, x204003 => if x58 = true then (none) else ((score_Detection.f x204000 x204001 x204002 x204003).bind fun bt206 => ((score_Threat.f x204000 x204001 x204002 x204003).bind fun bt210 => ((score_Heidke.f x204000 x204001 x204002 x204003).bind fun bt214 => ((score_FalseAlarm.f x204000 x204001 x204002 x204003).bind fun bt218 => (if bt206.2.2 = 0 then ((score_Compare.f k bt206.1 bt206.2.1 1 1).bind fun t222 => (if t222 > 0 then (none) else ((score_Compare.f k bt206.1 bt206.2.1 0 1).bind fun t223 => (if t223 < 0 then (none) else (if bt210.2.2 = 0 then ((score_Compare.f k bt210.1 bt210.2.1 bt206.1 bt206.2.1).bind fun t224 => (if t224 > 0 then (none) else (if bt218.2.2 = 0 then ((score_Compare.f k bt218.1 bt218.2.1 1 1).bind fun t225 => (if t225 > 0 then (none) else ((score_Compare.f k bt218.1 bt218.2.1 0 1).bind fun t226 => (if t226 < 0 then (none) else ((score_Compare.f k bt210.1 bt210.2.1 0 1).bind fun t227 => (if t227 < 0 then (none) else (synopticlaw38_ScoreBounds.j1 k x7 x8 bt214.2.2 false x204000 x204001 x204002 x204003 1 1 bt214.1 bt214.2.1))))))) else ((score_Compare.f k bt210.1 bt210.2.1 0 1).bind fun t228 => (if t228 < 0 then (none) else (synopticlaw38_ScoreBounds.j1 k x7 x8 bt214.2.2 false x204000 x204001 x204002 x204003 1 1 bt214.1 bt214.2.1)))))) else (none)))))) else (if bt218.2.2 = 0 then ((score_Compare.f k bt218.1 bt218.2.1 1 1).bind fun t229 => (if t229 > 0 then (none) else ((score_Compare.f k bt218.1 bt218.2.1 0 1).bind fun t230 => (if t230 < 0 then (none) else (if bt210.2.2 = 0 then ((score_Compare.f k bt210.1 bt210.2.1 0 1).bind fun t231 => (if t231 < 0 then (none) else (synopticlaw38_ScoreBounds.j1 k x7 x8 bt214.2.2 false x204000 x204001 x204002 x204003 1 1 bt214.1 bt214.2.1))) else (synopticlaw38_ScoreBounds.j1 k x7 x8 bt214.2.2 false x204000 x204001 x204002 x204003 1 1 bt214.1 bt214.2.1)))))) else (if bt210.2.2 = 0 then ((score_Compare.f k bt210.1 bt210.2.1 0 1).bind fun t232 => (if t232 < 0 then (none) else (synopticlaw38_ScoreBounds.j1 k x7 x8 bt214.2.2 false x204000 x204001 x204002 x204003 1 1 bt214.1 bt214.2.1))) else (synopticlaw38_ScoreBounds.j1 k x7 x8 bt214.2.2 false x204000 x204001 x204002 x204003 1 1 bt214.1 bt214.2.1))))))))
def synopticlaw38_ScoreBounds.j1 : Nat → List (S40) → List (S40) → Int → Bool → Int → Int → Int → Int → Int → Int → Int → Int → Option (Bool)
  | 0, _, _, _, _, _, _, _, _, _, _, _, _ => none
  | k + 1, x7, x8, x18, x130, x204000, x204001, x204002, x204003, x205000, x205001, x218000, x218001 => if x130 = true then (none) else (if x18 = 0 then ((score_Compare.f k x218000 x218001 x205000 x205001).bind fun t233 => (if t233 > 0 then (none) else ((score_Compare.f k x218000 x218001 (-1) 1).bind fun t234 => (if t234 < 0 then (none) else (if x204001 = 0 then (if ((x218000 == x205000 && (x218001 == x205001)) != (x204002 == 0)) = true then (none) else (synopticlaw38_ScoreBounds.j2 k x7 x8 false x205000 x205001)) else (if ((x218000 == x205000 && (x218001 == x205001)) != false) = true then (none) else (synopticlaw38_ScoreBounds.j2 k x7 x8 false x205000 x205001))))))) else (synopticlaw38_ScoreBounds.j2 k x7 x8 false x205000 x205001))
def synopticlaw38_ScoreBounds.j2 : Nat → List (S40) → List (S40) → Bool → Int → Int → Option (Bool)
  | 0, _, _, _, _, _ => none
  | k + 1, x7, x8, x158, x205000, x205001 => if x158 = true then (none) else (if 0 ≤ (mn (x7.length : Int) (x8.length : Int)) then (if (mn (x7.length : Int) (x8.length : Int)) ≤ (x7.length : Int) then ((score_Of.f k (x7.take ((mn (x7.length : Int) (x8.length : Int)) : Int).toNat)).bind fun bt239 => (if (mn (x7.length : Int) (x8.length : Int)) ≤ (x8.length : Int) then ((score_Of.f k (x8.take ((mn (x7.length : Int) (x8.length : Int)) : Int).toNat)).bind fun bt249 => ((score_Skill.f k bt239.1 bt239.2.1 bt239.2.2.1 bt239.2.2.2.1 bt249.1 bt249.2.1 bt249.2.2.1 bt249.2.2.2.1).bind fun bt255 => (if bt239.2.2.2.2 = 0 then (if bt249.2.2.2.2 = 0 then (if bt255.2.2 = 0 then ((score_Compare.f k bt255.1 bt255.2.1 x205000 x205001).bind fun t259 => (if t259 ≤ 0 then (some ((bt255.1 == x205000 && (bt255.2.1 == x205001)) == (bt239.2.2.2.1 == 0))) else (none))) else (if (mn (x7.length : Int) (x8.length : Int)) = 0 then (some true) else (if bt249.2.2.2.1 = 0 then (some true) else (none)))) else (none)) else (none)))) else (none))) else (none)) else (none))
end
def synopticlaw38_ScoreBounds.f (k : Nat) (l0 : List Int) (l1 : List Int) (a2 : Int) : Option (Bool) := (synopticlaw38_awake.f k).bind fun t183 => (if t183 = true then ((synopticfield_New.f l0 160).bind fun bt184 => ((synopticfield_Codes_Pairs.f k bt184.1 bt184.2 20).bind fun bt187 => ((synopticfield_New.f l1 160).bind fun bt191 => ((synopticfield_Codes_Pairs.f k bt191.1 bt191.2 20).bind fun bt194 => ((score_Table.f k bt187.1 (Int.tmod (wrap64 (a2)) 10)).bind fun bt198 => (if bt198.2.2.2.2 = 0 then (if ((wrap64 ((wrap64 ((wrap64 (bt198.1 + bt198.2.1)) + bt198.2.2.1)) + bt198.2.2.2.1)) != (bt187.1.length : Int)) = true then (none) else (synopticlaw38_ScoreBounds.j0 k bt187.1 bt194.1 false bt198.1 bt198.2.1 bt198.2.2.1 bt198.2.2.2.1)) else (none))))))) else (none))
theorem synopticlaw38_ScoreBounds.mono_l : ∀ k, (∀ y0 y1 y2 y3 y4 y5 y6, LeO (synopticlaw38_ScoreBounds.j0 k y0 y1 y2 y3 y4 y5 y6) (synopticlaw38_ScoreBounds.j0 (k + 1) y0 y1 y2 y3 y4 y5 y6)) ∧ (∀ y0 y1 y2 y3 y4 y5 y6 y7 y8 y9 y10 y11, LeO (synopticlaw38_ScoreBounds.j1 k y0 y1 y2 y3 y4 y5 y6 y7 y8 y9 y10 y11) (synopticlaw38_ScoreBounds.j1 (k + 1) y0 y1 y2 y3 y4 y5 y6 y7 y8 y9 y10 y11)) ∧ (∀ y0 y1 y2 y3 y4, LeO (synopticlaw38_ScoreBounds.j2 k y0 y1 y2 y3 y4) (synopticlaw38_ScoreBounds.j2 (k + 1) y0 y1 y2 y3 y4))
  | 0 => ⟨fun _ _ _ _ _ _ _ r h => by simp [synopticlaw38_ScoreBounds.j0] at h, fun _ _ _ _ _ _ _ _ _ _ _ _ r h => by simp [synopticlaw38_ScoreBounds.j1] at h, fun _ _ _ _ _ r h => by simp [synopticlaw38_ScoreBounds.j2] at h⟩
  | k + 1 => by
    obtain ⟨ih0, ih1, ih2⟩ := synopticlaw38_ScoreBounds.mono_l k
    refine ⟨?_, ?_, ?_⟩
    · intro y0 y1 y2 y3 y4 y5 y6
      unfold synopticlaw38_ScoreBounds.j0
      repeat' first
      | (with_reducible exact ih0 _ _ _ _ _ _ _)
      | (with_reducible exact ih1 _ _ _ _ _ _ _ _ _ _ _ _)
      | (with_reducible exact ih2 _ _ _ _ _)
      | (with_reducible exact score_Compare.mono _ _ _ _ _)
      | (with_reducible exact score_Of.mono _ _)
      | (with_reducible exact score_Skill.mono _ _ _ _ _ _ _ _ _)
      | (with_reducible exact score_Table.mono _ _ _)
      | (with_reducible exact synopticfield_Codes_Pairs.mono _ _ _ _)
      | (with_reducible exact synopticlaw38_awake.mono _)
      | (with_reducible exact LeO.refl _)
      | (with_reducible exact LeO.none _)
      | (with_reducible refine LeO.ite ?_ ?_)
      | (with_reducible refine LeO.bind ?_ (fun _ => ?_))
      | exact ih0 _ _ _ _ _ _ _
      | exact ih1 _ _ _ _ _ _ _ _ _ _ _ _
      | exact ih2 _ _ _ _ _
      | exact score_Compare.mono _ _ _ _ _
      | exact score_Of.mono _ _
      | exact score_Skill.mono _ _ _ _ _ _ _ _ _
      | exact score_Table.mono _ _ _
      | exact synopticfield_Codes_Pairs.mono _ _ _ _
      | exact synopticlaw38_awake.mono _
      | exact LeO.none _
      | refine LeO.ite ?_ ?_
      | refine LeO.bind ?_ (fun _ => ?_)
    · intro y0 y1 y2 y3 y4 y5 y6 y7 y8 y9 y10 y11
      unfold synopticlaw38_ScoreBounds.j1
      repeat' first
      | (with_reducible exact ih0 _ _ _ _ _ _ _)
      | (with_reducible exact ih1 _ _ _ _ _ _ _ _ _ _ _ _)
      | (with_reducible exact ih2 _ _ _ _ _)
      | (with_reducible exact score_Compare.mono _ _ _ _ _)
      | (with_reducible exact score_Of.mono _ _)
      | (with_reducible exact score_Skill.mono _ _ _ _ _ _ _ _ _)
      | (with_reducible exact score_Table.mono _ _ _)
      | (with_reducible exact synopticfield_Codes_Pairs.mono _ _ _ _)
      | (with_reducible exact synopticlaw38_awake.mono _)
      | (with_reducible exact LeO.refl _)
      | (with_reducible exact LeO.none _)
      | (with_reducible refine LeO.ite ?_ ?_)
      | (with_reducible refine LeO.bind ?_ (fun _ => ?_))
      | exact ih0 _ _ _ _ _ _ _
      | exact ih1 _ _ _ _ _ _ _ _ _ _ _ _
      | exact ih2 _ _ _ _ _
      | exact score_Compare.mono _ _ _ _ _
      | exact score_Of.mono _ _
      | exact score_Skill.mono _ _ _ _ _ _ _ _ _
      | exact score_Table.mono _ _ _
      | exact synopticfield_Codes_Pairs.mono _ _ _ _
      | exact synopticlaw38_awake.mono _
      | exact LeO.none _
      | refine LeO.ite ?_ ?_
      | refine LeO.bind ?_ (fun _ => ?_)
    · intro y0 y1 y2 y3 y4
      unfold synopticlaw38_ScoreBounds.j2
      repeat' first
      | (with_reducible exact ih0 _ _ _ _ _ _ _)
      | (with_reducible exact ih1 _ _ _ _ _ _ _ _ _ _ _ _)
      | (with_reducible exact ih2 _ _ _ _ _)
      | (with_reducible exact score_Compare.mono _ _ _ _ _)
      | (with_reducible exact score_Of.mono _ _)
      | (with_reducible exact score_Skill.mono _ _ _ _ _ _ _ _ _)
      | (with_reducible exact score_Table.mono _ _ _)
      | (with_reducible exact synopticfield_Codes_Pairs.mono _ _ _ _)
      | (with_reducible exact synopticlaw38_awake.mono _)
      | (with_reducible exact LeO.refl _)
      | (with_reducible exact LeO.none _)
      | (with_reducible refine LeO.ite ?_ ?_)
      | (with_reducible refine LeO.bind ?_ (fun _ => ?_))
      | exact ih0 _ _ _ _ _ _ _
      | exact ih1 _ _ _ _ _ _ _ _ _ _ _ _
      | exact ih2 _ _ _ _ _
      | exact score_Compare.mono _ _ _ _ _
      | exact score_Of.mono _ _
      | exact score_Skill.mono _ _ _ _ _ _ _ _ _
      | exact score_Table.mono _ _ _
      | exact synopticfield_Codes_Pairs.mono _ _ _ _
      | exact synopticlaw38_awake.mono _
      | exact LeO.none _
      | refine LeO.ite ?_ ?_
      | refine LeO.bind ?_ (fun _ => ?_)
theorem synopticlaw38_ScoreBounds.mono : ∀ a0 a1 a2 k, LeO (synopticlaw38_ScoreBounds.f k a0 a1 a2) (synopticlaw38_ScoreBounds.f (k + 1) a0 a1 a2) := by
  intro a0 a1 a2 k
  obtain ⟨ih0, ih1, ih2⟩ := synopticlaw38_ScoreBounds.mono_l k
  unfold synopticlaw38_ScoreBounds.f
  repeat' first
      | (with_reducible exact ih0 _ _ _ _ _ _ _)
      | (with_reducible exact ih1 _ _ _ _ _ _ _ _ _ _ _ _)
      | (with_reducible exact ih2 _ _ _ _ _)
      | (with_reducible exact score_Compare.mono _ _ _ _ _)
      | (with_reducible exact score_Of.mono _ _)
      | (with_reducible exact score_Skill.mono _ _ _ _ _ _ _ _ _)
      | (with_reducible exact score_Table.mono _ _ _)
      | (with_reducible exact synopticfield_Codes_Pairs.mono _ _ _ _)
      | (with_reducible exact synopticlaw38_awake.mono _)
      | (with_reducible exact LeO.refl _)
      | (with_reducible exact LeO.none _)
      | (with_reducible refine LeO.ite ?_ ?_)
      | (with_reducible refine LeO.bind ?_ (fun _ => ?_))
      | exact ih0 _ _ _ _ _ _ _
      | exact ih1 _ _ _ _ _ _ _ _ _ _ _ _
      | exact ih2 _ _ _ _ _
      | exact score_Compare.mono _ _ _ _ _
      | exact score_Of.mono _ _
      | exact score_Skill.mono _ _ _ _ _ _ _ _ _
      | exact score_Table.mono _ _ _
      | exact synopticfield_Codes_Pairs.mono _ _ _ _
      | exact synopticlaw38_awake.mono _
      | exact LeO.none _
      | refine LeO.ite ?_ ?_
      | refine LeO.bind ?_ (fun _ => ?_)
def synopticlaw38_ScoreBounds.T14 : Bool × List (List Nat × List Nat) := (true, [([], []), ([0], [0]), ([1], [1]), ([2], [2]), ([2], [2]), ([3, 4, 2, 2], [2, 3, 4]), ([5, 2], [2, 5]), ([6, 5, 2], [2, 6]), ([7], [7]), ([7], [7]), ([8, 9, 7, 7], [7, 8, 9]), ([10, 7], [7, 10]), ([7, 11, 2], [2, 7, 11]), ([12, 10, 2], [2, 12]), ([13], [13]), ([13], [13]), ([14, 15, 13], [13, 14, 15]), ([13], [13]), ([17, 13], [13, 17]), ([18, 13], [13, 18]), ([19, 13, 13], [13, 19]), ([20], [20]), ([21, 20], [20, 21]), ([22, 20], [20, 22]), ([20, 23, 13], [13, 20, 23]), ([16, 24, 13], [13, 16, 24]), ([13, 25, 2], [2, 13, 25]), ([2, 26], [2, 26])])
def synopticlaw38_ScoreBounds.B14 : List Nat := [0, 1, 3, 7, 7, 31, 63, 127, 255, 255, 1023, 2047, 4095, 8191, 16383, 16383, 65535, 16383, 147455, 409599, 933887, 1982463, 4079615, 8273919, 16662527, 33554431, 67108863, 134217727]
theorem synopticlaw38_ScoreBounds.tab14 : rtab .any (opsOf Try.f8 14) = synopticlaw38_ScoreBounds.T14 := by kernel_rfl
theorem synopticlaw38_ScoreBounds.bits14 : waitsOk synopticlaw38_ScoreBounds.T14.2 synopticlaw38_ScoreBounds.B14 = true := by kernel_rfl
def synopticlaw38_ScoreBounds.T20 : Bool × List (List Nat × List Nat) := (true, [([], []), ([0], [0]), ([1], [1]), ([2], [2]), ([3, 2], [2, 3]), ([2, 4], [2, 4]), ([5, 2], [5]), ([6], [6]), ([7, 6], [6, 7]), ([8, 6, 6], [6, 8]), ([9], [9]), ([10, 9], [9, 10]), ([11, 9, 9], [9, 11]), ([12], [12]), ([13, 12], [12, 13]), ([14, 12], [12, 14]), ([12, 15, 9], [9, 12, 15]), ([9, 16, 6], [6, 9, 16]), ([17, 12, 6], [6, 17]), ([18], [18]), ([19, 18], [18, 19]), ([20, 18, 18], [18, 20]), ([21], [21]), ([21], [21]), ([22, 23, 21, 21], [21, 22, 23]), ([24, 21], [21, 24]), ([21, 25, 18], [18, 21, 25]), ([26, 24, 18], [18, 26]), ([27], [27]), ([27], [27]), ([28, 29, 27], [27, 28, 29]), ([27], [27]), ([31, 27], [27, 31]), ([32, 27], [27, 32]), ([30, 33, 27], [27, 30, 33]), ([27, 34, 18], [18, 27, 34]), ([18, 35, 6], [6, 18, 35]), ([6, 36], [6, 36]), ([37, 27, 0, 1, 2, 3, 4, 5, 6, 7, 8, 9, 10, 11, 12, 13, 14, 15, 16, 17, 18, 19, 20, 21, 22, 23, 24, 25, 26, 27, 28, 29, 30, 31, 32, 33, 34, 35, 36, 37], [37])])
def synopticlaw38_ScoreBounds.B20 : List Nat := [0, 1, 3, 7, 15, 31, 63, 127, 255, 511, 1023, 2047, 4095, 8191, 16383, 32767, 65535, 131071, 262143, 524287, 1048575, 2097151, 4194303, 4194303, 16777215, 33554431, 67108863, 134217727, 268435455, 268435455, 1073741823, 268435455, 2415919103, 6710886399, 17179869183, 34359738367, 68719476735, 137438953471, 274877906943]
theorem synopticlaw38_ScoreBounds.tab20 : rtab .any (opsOf Try.f8 20) = synopticlaw38_ScoreBounds.T20 := by kernel_rfl
theorem synopticlaw38_ScoreBounds.bits20 : waitsOk synopticlaw38_ScoreBounds.T20.2 synopticlaw38_ScoreBounds.B20 = true := by kernel_rfl
abbrev mB0 : Array Bool := #[false, false, false, false, false, false, false, false, false, false, false, false, false, false, false, false, false, false, false, false, false, false, false, false, false, false, false, false]
abbrev mB1 : Array Bool := #[true, false, false, false, false, false, false, false, false, false, false, false, false, false, false, false, false, false, false, false, false, false, false, false, false, false, false, false]
abbrev mB2 : Array Bool := #[true, true, false, false, false, false, false, false, false, false, false, false, false, false, false, false, false, false, false, false, false, false, false, false, false, false, false, false]
abbrev mB3 : Array Bool := #[true, true, true, false, false, false, false, false, false, false, false, false, false, false, false, false, false, false, false, false, false, false, false, false, false, false, false, false]
abbrev mB4 : Array Bool := #[true, true, true, true, false, false, false, false, false, false, false, false, false, false, false, false, false, false, false, false, false, false, false, false, false, false, false, false]
abbrev mB5 : Array Bool := #[true, true, true, true, true, false, false, false, false, false, false, false, false, false, false, false, false, false, false, false, false, false, false, false, false, false, false, false]
abbrev mB6 : Array Bool := #[true, true, true, true, true, true, false, false, false, false, false, false, false, false, false, false, false, false, false, false, false, false, false, false, false, false, false, false]
abbrev mB7 : Array Bool := #[true, true, true, true, true, true, true, false, false, false, false, false, false, false, false, false, false, false, false, false, false, false, false, false, false, false, false, false]
abbrev mB8 : Array Bool := #[true, true, true, true, true, true, true, true, false, false, false, false, false, false, false, false, false, false, false, false, false, false, false, false, false, false, false, false]
abbrev mB9 : Array Bool := #[true, true, true, true, true, true, true, true, false, true, false, false, false, false, false, false, false, false, false, false, false, false, false, false, false, false, false, false]
abbrev mB10 : Array Bool := #[true, true, true, true, true, true, true, true, true, true, false, false, false, false, false, false, false, false, false, false, false, false, false, false, false, false, false, false]
abbrev mB11 : Array Bool := #[true, true, true, true, true, true, true, true, true, true, true, false, false, false, false, false, false, false, false, false, false, false, false, false, false, false, false, false]
abbrev mB12 : Array Bool := #[true, true, true, true, true, true, true, true, true, true, true, true, false, false, false, false, false, false, false, false, false, false, false, false, false, false, false, false]
abbrev mB13 : Array Bool := #[true, true, true, true, true, true, true, true, true, true, true, true, true, false, false, false, false, false, false, false, false, false, false, false, false, false, false, false]
abbrev mB14 : Array Bool := #[true, true, true, true, true, true, true, true, true, true, true, true, true, true, false, false, false, false, false, false, false, false, false, false, false, false, false, false]
abbrev mB15 : Array Bool := #[true, true, true, true, true, true, true, true, true, true, true, true, true, true, false, false, false, true, false, false, false, false, false, false, false, false, false, false]
abbrev mB16 : Array Bool := #[true, true, true, true, true, true, true, true, true, true, true, true, true, true, true, false, false, true, false, false, false, false, false, false, false, false, false, false]
abbrev mB17 : Array Bool := #[true, true, true, true, true, true, true, true, true, true, true, true, true, true, true, true, false, true, false, false, false, false, false, false, false, false, false, false]
abbrev mB18 : Array Bool := #[true, true, true, true, true, true, true, true, true, true, true, true, true, true, true, true, true, true, false, false, false, false, false, false, false, false, false, false]
abbrev mB19 : Array Bool := #[true, true, true, true, true, true, true, true, true, true, true, true, true, true, true, true, true, true, true, false, false, false, false, false, false, false, false, false]
abbrev mB20 : Array Bool := #[true, true, true, true, true, true, true, true, true, true, true, true, true, true, true, true, true, true, true, true, false, false, false, false, false, false, false, false]
abbrev mB21 : Array Bool := #[true, true, true, true, true, true, true, true, true, true, true, true, true, true, true, true, true, true, true, true, true, false, false, false, false, false, false, false]
abbrev mB22 : Array Bool := #[true, true, true, true, true, true, true, true, true, true, true, true, true, true, true, true, true, true, true, true, true, true, false, false, false, false, false, false]
abbrev mB23 : Array Bool := #[true, true, true, true, true, true, true, true, true, true, true, true, true, true, true, true, true, true, true, true, true, true, true, false, false, false, false, false]
abbrev mB24 : Array Bool := #[true, true, true, true, true, true, true, true, true, true, true, true, true, true, true, true, true, true, true, true, true, true, true, true, false, false, false, false]
abbrev mB25 : Array Bool := #[true, true, true, true, true, true, true, true, true, true, true, true, true, true, true, true, true, true, true, true, true, true, true, true, true, false, false, false]
abbrev mB26 : Array Bool := #[true, true, true, true, true, true, true, true, true, true, true, true, true, true, true, true, true, true, true, true, true, true, true, true, true, true, false, false]
abbrev mB27 : Array Bool := #[true, true, true, true, true, true, true, true, true, true, true, true, true, true, true, true, true, true, true, true, true, true, true, true, true, true, true, false]
abbrev mB28 : Array Bool := #[true, true, true, true, true, true, true, true, true, true, true, true, true, true, true, true, true, true, true, true, true, true, true, true, true, true, true, true]
abbrev mB29 : Array Bool := #[true, true, true, true, true, true, true, true, true, false, false, false, false, false, false, false, false, false, false, false, false, false, false, false, false, false, false, false]
abbrev mB30 : Array Bool := #[true, true, true, true, true, true, true, true, true, true, true, true, true, true, true, false, false, false, false, false, false, false, false, false, false, false, false, false]
abbrev mB31 : Array Bool := #[true, true, true, true, true, true, true, true, true, true, true, true, true, true, true, true, false, false, false, false, false, false, false, false, false, false, false, false]
abbrev mB32 : Array Bool := #[true, true, true, true, true, true, true, true, true, true, true, true, true, true, true, true, true, false, false, false, false, false, false, false, false, false, false, false]
abbrev mB33 : Array Bool := #[false, false, false, false, false, false, false, false, false, false, false, false, false, false, false, false, false, false, false, false, false, false, false, false, false, false, false, false, false, false, false, false, false, false, false, false, false, false, false]
abbrev mB34 : Array Bool := #[true, false, false, false, false, false, false, false, false, false, false, false, false, false, false, false, false, false, false, false, false, false, false, false, false, false, false, false, false, false, false, false, false, false, false, false, false, false, false]
abbrev mB35 : Array Bool := #[true, true, false, false, false, false, false, false, false, false, false, false, false, false, false, false, false, false, false, false, false, false, false, false, false, false, false, false, false, false, false, false, false, false, false, false, false, false, false]
abbrev mB36 : Array Bool := #[true, true, true, false, false, false, false, false, false, false, false, false, false, false, false, false, false, false, false, false, false, false, false, false, false, false, false, false, false, false, false, false, false, false, false, false, false, false, false]
abbrev mB37 : Array Bool := #[true, true, true, true, false, false, false, false, false, false, false, false, false, false, false, false, false, false, false, false, false, false, false, false, false, false, false, false, false, false, false, false, false, false, false, false, false, false, false]
abbrev mB38 : Array Bool := #[true, true, true, true, true, false, false, false, false, false, false, false, false, false, false, false, false, false, false, false, false, false, false, false, false, false, false, false, false, false, false, false, false, false, false, false, false, false, false]
abbrev mB39 : Array Bool := #[true, true, true, true, true, true, false, false, false, false, false, false, false, false, false, false, false, false, false, false, false, false, false, false, false, false, false, false, false, false, false, false, false, false, false, false, false, false, false]
abbrev mB40 : Array Bool := #[true, true, true, true, true, true, true, false, false, false, false, false, false, false, false, false, false, false, false, false, false, false, false, false, false, false, false, false, false, false, false, false, false, false, false, false, false, false, false]
abbrev mB41 : Array Bool := #[true, true, true, true, true, true, true, true, false, false, false, false, false, false, false, false, false, false, false, false, false, false, false, false, false, false, false, false, false, false, false, false, false, false, false, false, false, false, false]
abbrev mB42 : Array Bool := #[true, true, true, true, true, true, true, true, true, false, false, false, false, false, false, false, false, false, false, false, false, false, false, false, false, false, false, false, false, false, false, false, false, false, false, false, false, false, false]
abbrev mB43 : Array Bool := #[true, true, true, true, true, true, true, true, true, true, false, false, false, false, false, false, false, false, false, false, false, false, false, false, false, false, false, false, false, false, false, false, false, false, false, false, false, false, false]
abbrev mB44 : Array Bool := #[true, true, true, true, true, true, true, true, true, true, true, false, false, false, false, false, false, false, false, false, false, false, false, false, false, false, false, false, false, false, false, false, false, false, false, false, false, false, false]
abbrev mB45 : Array Bool := #[true, true, true, true, true, true, true, true, true, true, true, true, false, false, false, false, false, false, false, false, false, false, false, false, false, false, false, false, false, false, false, false, false, false, false, false, false, false, false]
abbrev mB46 : Array Bool := #[true, true, true, true, true, true, true, true, true, true, true, true, true, false, false, false, false, false, false, false, false, false, false, false, false, false, false, false, false, false, false, false, false, false, false, false, false, false, false]
abbrev mB47 : Array Bool := #[true, true, true, true, true, true, true, true, true, true, true, true, true, true, false, false, false, false, false, false, false, false, false, false, false, false, false, false, false, false, false, false, false, false, false, false, false, false, false]
abbrev mB48 : Array Bool := #[true, true, true, true, true, true, true, true, true, true, true, true, true, true, true, false, false, false, false, false, false, false, false, false, false, false, false, false, false, false, false, false, false, false, false, false, false, false, false]
abbrev mB49 : Array Bool := #[true, true, true, true, true, true, true, true, true, true, true, true, true, true, true, true, false, false, false, false, false, false, false, false, false, false, false, false, false, false, false, false, false, false, false, false, false, false, false]
abbrev mB50 : Array Bool := #[true, true, true, true, true, true, true, true, true, true, true, true, true, true, true, true, true, false, false, false, false, false, false, false, false, false, false, false, false, false, false, false, false, false, false, false, false, false, false]
abbrev mB51 : Array Bool := #[true, true, true, true, true, true, true, true, true, true, true, true, true, true, true, true, true, true, false, false, false, false, false, false, false, false, false, false, false, false, false, false, false, false, false, false, false, false, false]
abbrev mB52 : Array Bool := #[true, true, true, true, true, true, true, true, true, true, true, true, true, true, true, true, true, true, true, false, false, false, false, false, false, false, false, false, false, false, false, false, false, false, false, false, false, false, false]
abbrev mB53 : Array Bool := #[true, true, true, true, true, true, true, true, true, true, true, true, true, true, true, true, true, true, true, true, false, false, false, false, false, false, false, false, false, false, false, false, false, false, false, false, false, false, false]
abbrev mB54 : Array Bool := #[true, true, true, true, true, true, true, true, true, true, true, true, true, true, true, true, true, true, true, true, true, false, false, false, false, false, false, false, false, false, false, false, false, false, false, false, false, false, false]
abbrev mB55 : Array Bool := #[true, true, true, true, true, true, true, true, true, true, true, true, true, true, true, true, true, true, true, true, true, true, false, false, false, false, false, false, false, false, false, false, false, false, false, false, false, false, false]
abbrev mB56 : Array Bool := #[true, true, true, true, true, true, true, true, true, true, true, true, true, true, true, true, true, true, true, true, true, true, true, false, false, false, false, false, false, false, false, false, false, false, false, false, false, false, false]
abbrev mB57 : Array Bool := #[true, true, true, true, true, true, true, true, true, true, true, true, true, true, true, true, true, true, true, true, true, true, true, true, false, false, false, false, false, false, false, false, false, false, false, false, false, false, false]
abbrev mB58 : Array Bool := #[true, true, true, true, true, true, true, true, true, true, true, true, true, true, true, true, true, true, true, true, true, true, true, true, true, false, false, false, false, false, false, false, false, false, false, false, false, false, false]
abbrev mB59 : Array Bool := #[true, true, true, true, true, true, true, true, true, true, true, true, true, true, true, true, true, true, true, true, true, true, true, true, true, true, false, false, false, false, false, false, false, false, false, false, false, false, false]
abbrev mB60 : Array Bool := #[true, true, true, true, true, true, true, true, true, true, true, true, true, true, true, true, true, true, true, true, true, true, true, true, true, true, true, false, false, false, false, false, false, false, false, false, false, false, false]
abbrev mB61 : Array Bool := #[true, true, true, true, true, true, true, true, true, true, true, true, true, true, true, true, true, true, true, true, true, true, true, true, true, true, true, true, false, false, false, false, false, false, false, false, false, false, false]
abbrev mB62 : Array Bool := #[true, true, true, true, true, true, true, true, true, true, true, true, true, true, true, true, true, true, true, true, true, true, true, true, true, true, true, true, false, false, false, true, false, false, false, false, false, false, false]
abbrev mB63 : Array Bool := #[true, true, true, true, true, true, true, true, true, true, true, true, true, true, true, true, true, true, true, true, true, true, true, true, true, true, true, true, true, false, false, true, false, false, false, false, false, false, false]
abbrev mB64 : Array Bool := #[true, true, true, true, true, true, true, true, true, true, true, true, true, true, true, true, true, true, true, true, true, true, true, true, true, true, true, true, true, true, false, true, false, false, false, false, false, false, false]
abbrev mB65 : Array Bool := #[true, true, true, true, true, true, true, true, true, true, true, true, true, true, true, true, true, true, true, true, true, true, true, true, true, true, true, true, true, true, true, true, false, false, false, false, false, false, false]
abbrev mB66 : Array Bool := #[true, true, true, true, true, true, true, true, true, true, true, true, true, true, true, true, true, true, true, true, true, true, true, true, true, true, true, true, true, true, true, true, true, false, false, false, false, false, false]
abbrev mB67 : Array Bool := #[true, true, true, true, true, true, true, true, true, true, true, true, true, true, true, true, true, true, true, true, true, true, true, true, true, true, true, true, true, true, true, true, true, true, false, false, false, false, false]
abbrev mB68 : Array Bool := #[true, true, true, true, true, true, true, true, true, true, true, true, true, true, true, true, true, true, true, true, true, true, true, true, true, true, true, true, true, true, true, true, true, true, true, false, false, false, false]
abbrev mB69 : Array Bool := #[true, true, true, true, true, true, true, true, true, true, true, true, true, true, true, true, true, true, true, true, true, true, true, true, true, true, true, true, true, true, true, true, true, true, true, true, false, false, false]
abbrev mB70 : Array Bool := #[true, true, true, true, true, true, true, true, true, true, true, true, true, true, true, true, true, true, true, true, true, true, true, true, true, true, true, true, true, true, true, true, true, true, true, true, true, false, false]
abbrev mB71 : Array Bool := #[true, true, true, true, true, true, true, true, true, true, true, true, true, true, true, true, true, true, true, true, true, true, true, true, true, true, true, true, true, true, true, true, true, true, true, true, true, true, false]
abbrev mB72 : Array Bool := #[true, true, true, true, true, true, true, true, true, true, true, true, true, true, true, true, true, true, true, true, true, true, true, true, true, true, true, true, true, true, true, true, true, true, true, true, true, true, true]
abbrev mB73 : Array Bool := #[true, true, true, true, true, true, true, true, true, true, true, true, true, true, true, true, true, true, true, true, true, true, true, true, true, true, true, true, true, false, false, false, false, false, false, false, false, false, false]
abbrev mB74 : Array Bool := #[true, true, true, true, true, true, true, true, true, true, true, true, true, true, true, true, true, true, true, true, true, true, true, true, true, true, true, true, true, true, false, false, false, false, false, false, false, false, false]
abbrev mB75 : Array Bool := #[true, true, true, true, true, true, true, true, true, true, true, true, true, true, true, true, true, true, true, true, true, true, true, true, true, true, true, true, true, true, true, false, false, false, false, false, false, false, false]
set_option maxHeartbeats 8000000 in
set_option maxRecDepth 100000 in
theorem synopticlaw38_ScoreBounds.calls (k : Nat) (A0 : Option Addr) (c0 : Nat) (l0 : List Int) (A1 : Option Addr) (c1 : Nat) (l1 : List Int) (a2 : Int) (r : Bool) (w : World) (hr0 : Kd.C (Kd.int .u8) w A0 l0.length l0) (hc0 : l0.length ≤ c0) (hr1 : Kd.C (Kd.int .u8) w A1 l1.length l1) (hc1 : l1.length ≤ c1) (h : synopticlaw38_ScoreBounds.f k l0 l1 a2 = some r) :
  Calls Try.prog 8 #[.slice A0 l0.length c0, .slice A1 l1.length c1, .int .u8 a2] w fun e w' => e = .returned (.bool r) ∧ Below w.heap.size w w' := by
 have hu23 := Try.underlying23
 have hu28 := Try.underlying28
 have hu42 := Try.underlying42
 have HR0 := Aside0.mk hr0
 have HC0 := Aside0.mk hc0
 clear hr0 hc0
 have HR1 := Aside0.mk hr1
 have HC1 := Aside0.mk hc1
 clear hr1 hc1
 have HB := Aside0.mk (Below.refl w.heap.size w)
 have H : ((synopticlaw38_awake.f k).bind fun t183 => (if t183 = true then ((synopticfield_New.f l0 160).bind fun bt184 => ((synopticfield_Codes_Pairs.f k bt184.1 bt184.2 20).bind fun bt187 => ((synopticfield_New.f l1 160).bind fun bt191 => ((synopticfield_Codes_Pairs.f k bt191.1 bt191.2 20).bind fun bt194 => ((score_Table.f k bt187.1 (Int.tmod (wrap64 (a2)) 10)).bind fun bt198 => (if bt198.2.2.2.2 = 0 then (if ((wrap64 ((wrap64 ((wrap64 (bt198.1 + bt198.2.1)) + bt198.2.2.1)) + bt198.2.2.2.1)) != (bt187.1.length : Int)) = true then (none) else (synopticlaw38_ScoreBounds.j0 k bt187.1 bt194.1 false bt198.1 bt198.2.1 bt198.2.2.1 bt198.2.2.2.1)) else (none))))))) else (none))) = some r := h
 clear h
 replace H := Option.bind_eq_some_iff.mp H
 obtain ⟨t183, A40, H⟩ := H
 replace H : (if t183 = true then ((synopticfield_New.f l0 160).bind fun bt184 => ((synopticfield_Codes_Pairs.f k bt184.1 bt184.2 20).bind fun bt187 => ((synopticfield_New.f l1 160).bind fun bt191 => ((synopticfield_Codes_Pairs.f k bt191.1 bt191.2 20).bind fun bt194 => ((score_Table.f k bt187.1 (Int.tmod (wrap64 (a2)) 10)).bind fun bt198 => (if bt198.2.2.2.2 = 0 then (if ((wrap64 ((wrap64 ((wrap64 (bt198.1 + bt198.2.1)) + bt198.2.2.1)) + bt198.2.2.2.1)) != (bt187.1.length : Int)) = true then (none) else (synopticlaw38_ScoreBounds.j0 k bt187.1 bt194.1 false bt198.1 bt198.2.1 bt198.2.2.1 bt198.2.2.2.1)) else (none))))))) else (none)) = some r := H
 have A4 := Aside0.mk A40
 clear A40
 by_cases c5 : t183 = true
 ·subst c5
  have H1 : ((synopticfield_New.f l0 160).bind fun bt184 => ((synopticfield_Codes_Pairs.f k bt184.1 bt184.2 20).bind fun bt187 => ((synopticfield_New.f l1 160).bind fun bt191 => ((synopticfield_Codes_Pairs.f k bt191.1 bt191.2 20).bind fun bt194 => ((score_Table.f k bt187.1 (Int.tmod (wrap64 (a2)) 10)).bind fun bt198 => (if bt198.2.2.2.2 = 0 then (if ((wrap64 ((wrap64 ((wrap64 (bt198.1 + bt198.2.1)) + bt198.2.2.1)) + bt198.2.2.2.1)) != (bt187.1.length : Int)) = true then (none) else (synopticlaw38_ScoreBounds.j0 k bt187.1 bt194.1 false bt198.1 bt198.2.1 bt198.2.2.1 bt198.2.2.2.1)) else (none))))))) = some r := by rw [if_pos rfl] at H; exact H
  clear H
  have H := H1
  clear H1
  replace H := Option.bind_eq_some_iff.mp H
  obtain ⟨⟨t184, t185⟩, A60, H⟩ := H
  replace H : ((synopticfield_Codes_Pairs.f k t184 t185 20).bind fun bt187 => ((synopticfield_New.f l1 160).bind fun bt191 => ((synopticfield_Codes_Pairs.f k bt191.1 bt191.2 20).bind fun bt194 => ((score_Table.f k bt187.1 (Int.tmod (wrap64 (a2)) 10)).bind fun bt198 => (if bt198.2.2.2.2 = 0 then (if ((wrap64 ((wrap64 ((wrap64 (bt198.1 + bt198.2.1)) + bt198.2.2.1)) + bt198.2.2.2.1)) != (bt187.1.length : Int)) = true then (none) else (synopticlaw38_ScoreBounds.j0 k bt187.1 bt194.1 false bt198.1 bt198.2.1 bt198.2.2.1 bt198.2.2.2.1)) else (none)))))) = some r := H
  have A6 := Aside0.mk A60
  clear A60
  replace H := Option.bind_eq_some_iff.mp H
  obtain ⟨⟨t187, t190⟩, A70, H⟩ := H
  replace H : ((synopticfield_New.f l1 160).bind fun bt191 => ((synopticfield_Codes_Pairs.f k bt191.1 bt191.2 20).bind fun bt194 => ((score_Table.f k t187 (Int.tmod (wrap64 (a2)) 10)).bind fun bt198 => (if bt198.2.2.2.2 = 0 then (if ((wrap64 ((wrap64 ((wrap64 (bt198.1 + bt198.2.1)) + bt198.2.2.1)) + bt198.2.2.2.1)) != (t187.length : Int)) = true then (none) else (synopticlaw38_ScoreBounds.j0 k t187 bt194.1 false bt198.1 bt198.2.1 bt198.2.2.1 bt198.2.2.2.1)) else (none))))) = some r := H
  have A7 := Aside0.mk A70
  clear A70
  replace H := Option.bind_eq_some_iff.mp H
  obtain ⟨⟨t191, t192⟩, A80, H⟩ := H
  replace H : ((synopticfield_Codes_Pairs.f k t191 t192 20).bind fun bt194 => ((score_Table.f k t187 (Int.tmod (wrap64 (a2)) 10)).bind fun bt198 => (if bt198.2.2.2.2 = 0 then (if ((wrap64 ((wrap64 ((wrap64 (bt198.1 + bt198.2.1)) + bt198.2.2.1)) + bt198.2.2.2.1)) != (t187.length : Int)) = true then (none) else (synopticlaw38_ScoreBounds.j0 k t187 bt194.1 false bt198.1 bt198.2.1 bt198.2.2.1 bt198.2.2.2.1)) else (none)))) = some r := H
  have A8 := Aside0.mk A80
  clear A80
  replace H := Option.bind_eq_some_iff.mp H
  obtain ⟨⟨t194, t197⟩, A90, H⟩ := H
  replace H : ((score_Table.f k t187 (Int.tmod (wrap64 (a2)) 10)).bind fun bt198 => (if bt198.2.2.2.2 = 0 then (if ((wrap64 ((wrap64 ((wrap64 (bt198.1 + bt198.2.1)) + bt198.2.2.1)) + bt198.2.2.2.1)) != (t187.length : Int)) = true then (none) else (synopticlaw38_ScoreBounds.j0 k t187 t194 false bt198.1 bt198.2.1 bt198.2.2.1 bt198.2.2.2.1)) else (none))) = some r := H
  have A9 := Aside0.mk A90
  clear A90
  replace H := Option.bind_eq_some_iff.mp H
  obtain ⟨⟨t198, t199, t200, t201, t202⟩, A100, H⟩ := H
  replace H : (if t202 = 0 then (if ((wrap64 ((wrap64 ((wrap64 (t198 + t199)) + t200)) + t201)) != (t187.length : Int)) = true then (none) else (synopticlaw38_ScoreBounds.j0 k t187 t194 false t198 t199 t200 t201)) else (none)) = some r := H
  have A10 := Aside0.mk A100
  clear A100
  have HC11 := Aside0.mk H
  clear H
  go_enter Try.func8, Try.ntmps8
  go_upto_region 5 with (first | ((with_reducible refine gate_callee (f := 9) rfl ?_); refine goesL_ (some 25) rfl rfl Try.func9 (by kernel_rfl) rfl #[] rfl (by (try simp only [List.map_toArray, List.map_cons, List.map_nil]); first | done | rfl | (simp only [List.length_drop, List.length_take]; rfl)) ?_; (with_reducible refine (synopticlaw38_awake.calls k  true _ A4.out).mono ?_); rintro e w12 ⟨rfl, hb⟩; refine ⟨_, rfl, ?_⟩; replace HB := kH HB hb; (try clear hb); (try clear hb2); (try clear hk); (try clear hi)) | ((with_reducible refine gate_callee (f := 19) rfl ?_); refine goesL_ (some 28) rfl rfl Try.func19 (by kernel_rfl) rfl #[.slice A0 l0.length c0, .int .i64 160] rfl (by (try simp only [List.map_toArray, List.map_cons, List.map_nil]); first | done | rfl | (simp only [List.length_drop, List.length_take]; rfl)) ?_; (with_reducible refine (synopticfield_New.calls _ _ l0 160 t184 t185 w _ ?side1 ?side2 ?side3 A6.out).mono ?_); (case side1 => repeat (first | (with_reducible first | exact HB.out | apply below_alloc | apply pw_below_drewN | apply below_drew1) | exact HB.out)); (case side2 => exact HR0.out); (case side3 => exact HC0.out); rintro e w13 ⟨g186, rfl, hi, hb, hb2⟩; refine ⟨_, rfl, ?_⟩; have HI186 := Aside0.mk (hi); replace HB := Aside0.mk (hb); (try clear hb); (try clear hb2); (try clear hk); (try clear hi)) | ((with_reducible refine gate_callee (f := 20) rfl ?_); refine goesL_ (some 29) rfl rfl Try.func20 (by kernel_rfl) rfl #[.pointer (some ⟨g186, 0, none⟩), .int .i64 20] rfl (by (try simp only [List.map_toArray, List.map_cons, List.map_nil]); first | done | rfl | (simp only [List.length_drop, List.length_take]; rfl)) ?_; (with_reducible refine (synopticfield_Codes_Pairs.calls k g186 t184 t185 20 t187 t190 w _ ?side1 ?side2 A7.out).mono ?_); (case side1 => repeat (first | (with_reducible first | exact HI186.out | apply IsS71.alloc | apply IsS71.drewN | apply IsS71.drew | apply IsS71.set_1) | exact HI186.out)); (case side2 => repeat (first | (with_reducible first | exact HB.out | apply below_alloc | apply pw_below_drewN | apply below_drew1 | refine below_set ?_ (IsS71.ge HI186.out)) | exact HB.out)); rintro e w14 ⟨v188, rfl, ho0, hi, hb, hk⟩; refine ⟨_, rfl, ?_⟩; have HO189 := Aside0.mk (Kd.R_lower ho0 (below_size (by repeat (first | (with_reducible first | exact HB.out | apply below_alloc | apply pw_below_drewN | apply below_drew1 | refine below_set ?_ (IsS71.ge HI186.out)) | exact HB.out)))); replace HB := Aside0.mk (hb); replace HI186 := Aside0.mk (hi); (try clear hb); (try clear hb2); (try clear hk); (try clear hi); (try clear ho0)) | ((with_reducible refine gate_callee (f := 19) rfl ?_); refine goesL_ (some 31) rfl rfl Try.func19 (by kernel_rfl) rfl #[.slice A1 l1.length c1, .int .i64 160] rfl (by (try simp only [List.map_toArray, List.map_cons, List.map_nil]); first | done | rfl | (simp only [List.length_drop, List.length_take]; rfl)) ?_; (with_reducible refine (synopticfield_New.calls _ _ l1 160 t191 t192 w _ ?side1 ?side2 ?side3 A8.out).mono ?_); (case side1 => repeat (first | (with_reducible first | exact HB.out | apply below_alloc | apply pw_below_drewN | apply below_drew1 | refine below_set ?_ (IsS71.ge HI186.out)) | exact HB.out)); (case side2 => exact HR1.out); (case side3 => exact HC1.out); rintro e w15 ⟨g193, rfl, hi, hb, hb2⟩; refine ⟨_, rfl, ?_⟩; have HI193 := Aside0.mk (hi); replace HO189 := Aside0.mk (Kd.R_below (by (with_reducible repeat (first | apply Kd.R_alloc | apply Kd.R_drewN | apply Kd.R_drew)); exact HO189.out) hb2); replace HB := Aside0.mk (hb); (try clear hb); (try clear hb2); (try clear hk); (try clear hi)) | ((with_reducible refine gate_callee (f := 20) rfl ?_); refine goesL_ (some 32) rfl rfl Try.func20 (by kernel_rfl) rfl #[.pointer (some ⟨g193, 0, none⟩), .int .i64 20] rfl (by (try simp only [List.map_toArray, List.map_cons, List.map_nil]); first | done | rfl | (simp only [List.length_drop, List.length_take]; rfl)) ?_; (with_reducible refine (synopticfield_Codes_Pairs.calls k g193 t191 t192 20 t194 t197 w _ ?side1 ?side2 A9.out).mono ?_); (case side1 => repeat (first | (with_reducible first | exact HI193.out | apply IsS71.alloc | apply IsS71.drewN | apply IsS71.drew | apply IsS71.set_1) | exact HI193.out)); (case side2 => repeat (first | (with_reducible first | exact HB.out | apply below_alloc | apply pw_below_drewN | apply below_drew1 | refine below_set ?_ (IsS71.ge HI193.out)) | exact HB.out)); rintro e w16 ⟨v195, rfl, ho0, hi, hb, hk⟩; refine ⟨_, rfl, ?_⟩; have HO196 := Aside0.mk (Kd.R_lower (Kd.R_new' ho0 (Kd.R_lt (by (with_reducible repeat (first | apply Kd.R_alloc | apply Kd.R_drewN | apply Kd.R_drew)); exact HO189.out))) (below_size (by repeat (first | (with_reducible first | exact HB.out | apply below_alloc | apply pw_below_drewN | apply below_drew1 | refine below_set ?_ (IsS71.ge HI193.out)) | exact HB.out)))); replace HO189 := Aside0.mk (Kd.R_mono (Kd.R_told (Kd.R_oldK (IsS71.apart (show IsS71 w _ g193 t191 t192 from by repeat (first | (with_reducible first | exact HI193.out | apply IsS71.alloc | apply IsS71.drewN | apply IsS71.drew | apply IsS71.set_1) | exact HI193.out)) (by (with_reducible repeat (first | apply Kd.R_alloc | apply Kd.R_drewN | apply Kd.R_drew)); exact HO189.out) (by decide)) hk) (Kd.R_base ho0)) (fun _ h_ => h_.1)); replace HB := Aside0.mk (hb); replace HI193 := Aside0.mk (hi); (try clear hb); (try clear hb2); (try clear hk); (try clear hi); (try clear ho0); obtain ⟨Ao17, co17, eo17⟩ := Kd.R_slice HO189.out; subst eo17) | ((with_reducible refine gate_callee (f := 22) rfl ?_); refine goesL_ (some 38) rfl rfl Try.func22 (by kernel_rfl) rfl #[.slice Ao17 t187.length co17, .int .i64 (Int.tmod (wrap64 (a2)) 10)] rfl (by (try simp only [List.map_toArray, List.map_cons, List.map_nil]); first | done | rfl | (simp only [List.length_drop, List.length_take]; rfl)) ?_; (with_reducible refine (score_Table.calls k _ _ t187 (Int.tmod (wrap64 (a2)) 10) t198 t199 t200 t201 t202 _ ?side1 ?side2 A10.out).mono ?_); (case side1 => repeat (first | exact (Kd.R_reads' HO189.out).2.2 | (with_reducible refine Kd.C_alloc ?_ _) | (with_reducible refine Kd.C_drewN ?_ _) | (with_reducible refine Kd.C_drew ?_))); (case side2 => exact (Kd.R_reads' HO189.out).2.1); rintro e w18 ⟨rfl, hb⟩; refine ⟨_, rfl, ?_⟩; replace HO189 := kR HO189 hb; replace HO196 := kR HO196 hb; replace HI193 := Aside0.mk (IsS71.below (by repeat (first | (with_reducible first | exact HI193.out | apply IsS71.alloc | apply IsS71.drewN | apply IsS71.drew | apply IsS71.set_1) | exact HI193.out)) hb); replace HB := kH HB hb; (try clear hb); (try clear hb2); (try clear hk); (try clear hi)) | ((with_reducible refine gate_dst (N := 9) rfl ?_); (try (refine gate_guard (by rfl) ?_; dsimp only)); refine box_event ?hg (N := 9) ?hd (cs := #[.int .i64 0, .int .i64 0, .int .i64 0, .int .i64 0]) (t := 23) ?hr ?_; (case hd => rfl); (case hg => rfl); (case hr => first | (go_simp; done) | (go_simp; rfl)); intro gb203 hg w19 hbox hb; have BK203 := Aside0.mk (hbox); have GW203 := kG HB hg; have GE203 := kG HB hg; have NB193_203 := Aside0.mk ((by rw [hg]; exact Nat.ne_of_lt (IsS71.lt (show IsS71 w _ g193 t191 t197 from by repeat (first | (with_reducible first | exact HI193.out | apply IsS71.alloc | apply IsS71.drewN | apply IsS71.drew | apply IsS71.set_1) | exact HI193.out))) : g193 ≠ gb203)); have NB203_193 := Aside0.mk ((by rw [hg]; exact Nat.ne_of_gt (IsS71.lt (show IsS71 w _ g193 t191 t197 from by repeat (first | (with_reducible first | exact HI193.out | apply IsS71.alloc | apply IsS71.drewN | apply IsS71.drew | apply IsS71.set_1) | exact HI193.out))) : gb203 ≠ g193)); replace HO189 := kR HO189 hb; replace HO196 := kR HO196 hb; replace HI193 := Aside0.mk (IsS71.below (by repeat (first | (with_reducible first | exact HI193.out | apply IsS71.alloc | apply IsS71.drewN | apply IsS71.drew | apply IsS71.set_1) | exact HI193.out)) hb); replace HB := kH HB hb; clear hb hbox hg; have hnb20 := NB203_193.out; have hnc20 := NB193_203.out; have hcz21_0 : w19.cell? ⟨gb203, 0, none⟩ = some (.int .i64 0) := (blk_cell BK203.out 0).trans rfl; have hcz21_1 : w19.cell? ⟨gb203, 1, none⟩ = some (.int .i64 0) := (blk_cell BK203.out 1).trans rfl; have hcz21_2 : w19.cell? ⟨gb203, 2, none⟩ = some (.int .i64 0) := (blk_cell BK203.out 2).trans rfl; have hcz21_3 : w19.cell? ⟨gb203, 3, none⟩ = some (.int .i64 0) := (blk_cell BK203.out 3).trans rfl; have hfz21_0 := blk_frozen BK203.out 0; have hfz21_1 := blk_frozen BK203.out 1; have hfz21_2 := blk_frozen BK203.out 2; have hfz21_3 := blk_frozen BK203.out 3) | ((with_reducible refine gate_store (t := 23) (p := 9) rfl ?_); refine store_event (t := 23) (p := 9) (v := ?vo_w22) (w1 := ((((w19.setCell ⟨gb203, 0, none⟩ (.int .i64 t198)).setCell ⟨gb203, 1, none⟩ (.int .i64 t199)).setCell ⟨gb203, 2, none⟩ (.int .i64 t200)).setCell ⟨gb203, 3, none⟩ (.int .i64 t201))) ?hg ?ho ?hn ?hr ?_; (case ho => rfl); (case hg => rfl); (case hn => rfl); (case hr => first | (go_simp; done) | (go_simp; rfl)); intro w22 hw; replace HO189 : Aside0 (Kd.R k40 40 w22 w.heap.size (fun k_ => some k_ ≠ (v195 : Value).ownBlock) (.slice Ao17 t187.length co17) t187) := ⟨(by rw [hw]; exact (by (with_reducible repeat (first | apply Kd.R_alloc | apply Kd.R_drewN | apply Kd.R_drew)); exact Kd.R_mono (Kd.R_far (p := ⟨gb203, 3, none⟩) (Kd.R_far (p := ⟨gb203, 2, none⟩) (Kd.R_far (p := ⟨gb203, 1, none⟩) (Kd.R_far (p := ⟨gb203, 0, none⟩) (Kd.R_types HO189.out BK203.out (by decide)) (fun _ hk => hk.2) (.int .i64 t198)) (fun _ hk => hk.2) (.int .i64 t199)) (fun _ hk => hk.2) (.int .i64 t200)) (fun _ hk => hk.2) (.int .i64 t201)) (fun _ hk => hk.1.2)))⟩; replace HO196 : Aside0 (Kd.R k40 40 w22 w.heap.size (fun k_ => some k_ ≠ (.slice Ao17 t187.length co17 : Value).ownBlock) v195 t194) := ⟨(by rw [hw]; exact (by (with_reducible repeat (first | apply Kd.R_alloc | apply Kd.R_drewN | apply Kd.R_drew)); exact Kd.R_mono (Kd.R_far (p := ⟨gb203, 3, none⟩) (Kd.R_far (p := ⟨gb203, 2, none⟩) (Kd.R_far (p := ⟨gb203, 1, none⟩) (Kd.R_far (p := ⟨gb203, 0, none⟩) (Kd.R_types HO196.out BK203.out (by decide)) (fun _ hk => hk.2) (.int .i64 t198)) (fun _ hk => hk.2) (.int .i64 t199)) (fun _ hk => hk.2) (.int .i64 t200)) (fun _ hk => hk.2) (.int .i64 t201)) (fun _ hk => hk.1.2)))⟩; replace BK203 : Aside0 (w22.heap[gb203]? = some (.cells #[.int .i64 t198, .int .i64 t199, .int .i64 t200, .int .i64 t201] 23 (0, 0))) := ⟨(by rw [hw]; exact (by (with_reducible repeat (first | refine blk_drewN ?_ _ | refine blk_drew ?_ | refine blk_alloc ?_ _)); refine blk_put (cs := #[.int .i64 t198, .int .i64 t199, .int .i64 t200, .int .i64 0]) ?_ 3 _ rfl; (with_reducible repeat (first | refine blk_drewN ?_ _ | refine blk_drew ?_ | refine blk_alloc ?_ _)); refine blk_put (cs := #[.int .i64 t198, .int .i64 t199, .int .i64 0, .int .i64 0]) ?_ 2 _ rfl; (with_reducible repeat (first | refine blk_drewN ?_ _ | refine blk_drew ?_ | refine blk_alloc ?_ _)); refine blk_put (cs := #[.int .i64 t198, .int .i64 0, .int .i64 0, .int .i64 0]) ?_ 1 _ rfl; (with_reducible repeat (first | refine blk_drewN ?_ _ | refine blk_drew ?_ | refine blk_alloc ?_ _)); refine blk_put (cs := #[.int .i64 0, .int .i64 0, .int .i64 0, .int .i64 0]) ?_ 0 _ rfl; (with_reducible repeat (first | refine blk_drewN ?_ _ | refine blk_drew ?_ | refine blk_alloc ?_ _)); exact BK203.out))⟩; replace HI193 : Aside0 (IsS71 w w22 g193 t191 t197) := ⟨(by rw [hw]; exact (by repeat (first | (with_reducible first | exact HI193.out | apply IsS71.alloc | apply IsS71.drewN | apply IsS71.drew | apply IsS71.set_1 | refine IsS71.far ?_ NB193_203.out _) | exact HI193.out)))⟩; replace HB := kFH HB GE203 hw; clear hw))
  (try simp only [Act.put, List.setIfInBounds_toArray, List.set_cons_zero, List.set_cons_succ])
  go_cut [58] (fun v58 wc => ∃ (kq : Nat) (x58_10 : Bool), v58 = .bool x58_10 ∧ Aside0 (synopticlaw38_ScoreBounds.j0 kq t187 t194 x58_10 t198 t199 t200 t201 = some r) ∧ Aside0 (kq ≤ k) ∧ Aside0 (Kd.R k40 40 wc w.heap.size (fun k_ => some k_ ≠ (v195 : Value).ownBlock) (.slice Ao17 t187.length co17) t187) ∧ Aside0 (Kd.R k40 40 wc w.heap.size (fun k_ => some k_ ≠ ((.slice Ao17 t187.length co17) : Value).ownBlock) v195 t194) ∧ Aside0 (wc.heap[gb203]? = some (.cells #[.int .i64 t198, .int .i64 t199, .int .i64 t200, .int .i64 t201] 23 (0, 0))) ∧ Aside0 (Below w.heap.size w wc))
  case first => as_aux_lemma =>
   have H := HC11.out
   clear HC11
   by_cases c23 : t202 = 0
   ·rw [if_pos c23] at H
    have c23b0 : (t202 == 0) = true := beq_iff_eq.mpr c23
    have c23b1 : (t202 != 0) = false := bne_eq_false_iff_eq.mpr c23
    clear c23
    (first | rw [c23b0] | (simp only [i64_w, i32_w]; rw [c23b0]) | skip)
    by_cases c24 : ((wrap64 ((wrap64 ((wrap64 (t198 + t199)) + t200)) + t201)) != (t187.length : Int)) = true
    ·rw [if_pos c24] at H
     exact absurd H (by simp)
    ·rw [if_neg c24] at H
     have c24b0 : ((wrap64 ((wrap64 ((wrap64 (t198 + t199)) + t200)) + t201)) != (t187.length : Int)) = false := by simpa using c24
     (try (have c24b1 : decide ((wrap64 ((wrap64 ((wrap64 (t198 + t199)) + t200)) + t201)) = (t187.length : Int)) = true := by simpa using c24))
     (try (have c24b2 : ((wrap64 ((wrap64 ((wrap64 (t198 + t199)) + t200)) + t201)) == (t187.length : Int)) = true := by simpa using c24))
     clear c24
     have H' := Aside0.mk H
     clear H
     have hnb25 := NB203_193.out
     have hnc25 := NB193_203.out
     have hcz26_0 : w22.cell? ⟨gb203, 0, none⟩ = some (.int .i64 t198) := (blk_cell BK203.out 0).trans rfl
     have hcz26_1 : w22.cell? ⟨gb203, 1, none⟩ = some (.int .i64 t199) := (blk_cell BK203.out 1).trans rfl
     have hcz26_2 : w22.cell? ⟨gb203, 2, none⟩ = some (.int .i64 t200) := (blk_cell BK203.out 2).trans rfl
     have hcz26_3 : w22.cell? ⟨gb203, 3, none⟩ = some (.int .i64 t201) := (blk_cell BK203.out 3).trans rfl
     have hfz26_0 := blk_frozen BK203.out 0
     have hfz26_1 := blk_frozen BK203.out 1
     have hfz26_2 := blk_frozen BK203.out 2
     have hfz26_3 := blk_frozen BK203.out 3
     go_wp2
     go_meet
     case rel => exact ⟨_, (false), (by first | rfl | (simp; done) | (simp [*]; done)), H', ⟨by first | omega | exact Nat.le_refl _⟩, ⟨by (with_reducible repeat (first | apply Kd.R_alloc | apply Kd.R_drewN | apply Kd.R_drew)); exact HO189.out⟩, ⟨by (with_reducible repeat (first | apply Kd.R_alloc | apply Kd.R_drewN | apply Kd.R_drew)); exact HO196.out⟩, ⟨by (with_reducible repeat (first | refine blk_drewN ?_ _ | refine blk_drew ?_ | refine blk_alloc ?_ _)); exact BK203.out⟩, ⟨by repeat (first | (with_reducible first | exact HB.out | apply below_alloc | apply pw_below_drewN | apply below_drew1 | refine below_set ?_ (IsS71.ge HI193.out) | refine below_set ?_ GE203.out) | exact HB.out)⟩⟩
   ·rw [if_neg c23] at H
    exact absurd H (by simp)
  case rest => as_aux_lemma =>
   clear HC11
   (try clear c1); (try clear c2); (try clear p2); (try clear c5); (try clear p6); (try clear c8); (try clear c9); (try clear c19); (try clear c20); (try clear c22); (try clear c23); (try clear c23b0); (try clear c23b1); (try clear c24); (try clear c24b0); (try clear c24b1); (try clear c24b2); (try clear c25); (try clear hcz21_0); (try clear hcz21_1); (try clear hcz21_2); (try clear hcz21_3); (try clear hcz26_0)
   (try clear hcz26_1); (try clear hcz26_2); (try clear hcz26_3); (try clear hfz21_0); (try clear hfz21_1); (try clear hfz21_2); (try clear hfz21_3); (try clear hfz26_0); (try clear hfz26_1); (try clear hfz26_2); (try clear hfz26_3)
   obtain ⟨kq, x58_10, rfl, HA, HJ10, HO_7, HO_8, BK203, HB⟩ := hcut
   cases kq with
   | zero => exact absurd HA.out (by simp [synopticlaw38_ScoreBounds.j0])
   | succ kj10 =>
    have H := HA.out
    clear HA
    simp only [synopticlaw38_ScoreBounds.j0] at H
    by_cases c27 : x58_10 = true
    ·subst c27
     have H1 : (none) = some r := by rw [if_pos rfl] at H; exact H
     clear H
     have H := H1
     clear H1
     exact absurd H (by simp)
    ·replace c27 := Bool.eq_false_iff.mpr c27
     subst c27
     have H1 : ((score_Detection.f t198 t199 t200 t201).bind fun bt206 => ((score_Threat.f t198 t199 t200 t201).bind fun bt210 => ((score_Heidke.f t198 t199 t200 t201).bind fun bt214 => ((score_FalseAlarm.f t198 t199 t200 t201).bind fun bt218 => (if bt206.2.2 = 0 then ((score_Compare.f kj10 bt206.1 bt206.2.1 1 1).bind fun t222 => (if t222 > 0 then (none) else ((score_Compare.f kj10 bt206.1 bt206.2.1 0 1).bind fun t223 => (if t223 < 0 then (none) else (if bt210.2.2 = 0 then ((score_Compare.f kj10 bt210.1 bt210.2.1 bt206.1 bt206.2.1).bind fun t224 => (if t224 > 0 then (none) else (if bt218.2.2 = 0 then ((score_Compare.f kj10 bt218.1 bt218.2.1 1 1).bind fun t225 => (if t225 > 0 then (none) else ((score_Compare.f kj10 bt218.1 bt218.2.1 0 1).bind fun t226 => (if t226 < 0 then (none) else ((score_Compare.f kj10 bt210.1 bt210.2.1 0 1).bind fun t227 => (if t227 < 0 then (none) else (synopticlaw38_ScoreBounds.j1 kj10 t187 t194 bt214.2.2 false t198 t199 t200 t201 1 1 bt214.1 bt214.2.1))))))) else ((score_Compare.f kj10 bt210.1 bt210.2.1 0 1).bind fun t228 => (if t228 < 0 then (none) else (synopticlaw38_ScoreBounds.j1 kj10 t187 t194 bt214.2.2 false t198 t199 t200 t201 1 1 bt214.1 bt214.2.1)))))) else (none)))))) else (if bt218.2.2 = 0 then ((score_Compare.f kj10 bt218.1 bt218.2.1 1 1).bind fun t229 => (if t229 > 0 then (none) else ((score_Compare.f kj10 bt218.1 bt218.2.1 0 1).bind fun t230 => (if t230 < 0 then (none) else (if bt210.2.2 = 0 then ((score_Compare.f kj10 bt210.1 bt210.2.1 0 1).bind fun t231 => (if t231 < 0 then (none) else (synopticlaw38_ScoreBounds.j1 kj10 t187 t194 bt214.2.2 false t198 t199 t200 t201 1 1 bt214.1 bt214.2.1))) else (synopticlaw38_ScoreBounds.j1 kj10 t187 t194 bt214.2.2 false t198 t199 t200 t201 1 1 bt214.1 bt214.2.1)))))) else (if bt210.2.2 = 0 then ((score_Compare.f kj10 bt210.1 bt210.2.1 0 1).bind fun t232 => (if t232 < 0 then (none) else (synopticlaw38_ScoreBounds.j1 kj10 t187 t194 bt214.2.2 false t198 t199 t200 t201 1 1 bt214.1 bt214.2.1))) else (synopticlaw38_ScoreBounds.j1 kj10 t187 t194 bt214.2.2 false t198 t199 t200 t201 1 1 bt214.1 bt214.2.1)))))))) = some r := by rw [if_neg (show ¬ (false = true) by decide)] at H; exact H
     clear H
     have H := H1
     clear H1
     replace H := Option.bind_eq_some_iff.mp H
     obtain ⟨⟨t206, t207, t208⟩, A280, H⟩ := H
     replace H : ((score_Threat.f t198 t199 t200 t201).bind fun bt210 => ((score_Heidke.f t198 t199 t200 t201).bind fun bt214 => ((score_FalseAlarm.f t198 t199 t200 t201).bind fun bt218 => (if t208 = 0 then ((score_Compare.f kj10 t206 t207 1 1).bind fun t222 => (if t222 > 0 then (none) else ((score_Compare.f kj10 t206 t207 0 1).bind fun t223 => (if t223 < 0 then (none) else (if bt210.2.2 = 0 then ((score_Compare.f kj10 bt210.1 bt210.2.1 t206 t207).bind fun t224 => (if t224 > 0 then (none) else (if bt218.2.2 = 0 then ((score_Compare.f kj10 bt218.1 bt218.2.1 1 1).bind fun t225 => (if t225 > 0 then (none) else ((score_Compare.f kj10 bt218.1 bt218.2.1 0 1).bind fun t226 => (if t226 < 0 then (none) else ((score_Compare.f kj10 bt210.1 bt210.2.1 0 1).bind fun t227 => (if t227 < 0 then (none) else (synopticlaw38_ScoreBounds.j1 kj10 t187 t194 bt214.2.2 false t198 t199 t200 t201 1 1 bt214.1 bt214.2.1))))))) else ((score_Compare.f kj10 bt210.1 bt210.2.1 0 1).bind fun t228 => (if t228 < 0 then (none) else (synopticlaw38_ScoreBounds.j1 kj10 t187 t194 bt214.2.2 false t198 t199 t200 t201 1 1 bt214.1 bt214.2.1)))))) else (none)))))) else (if bt218.2.2 = 0 then ((score_Compare.f kj10 bt218.1 bt218.2.1 1 1).bind fun t229 => (if t229 > 0 then (none) else ((score_Compare.f kj10 bt218.1 bt218.2.1 0 1).bind fun t230 => (if t230 < 0 then (none) else (if bt210.2.2 = 0 then ((score_Compare.f kj10 bt210.1 bt210.2.1 0 1).bind fun t231 => (if t231 < 0 then (none) else (synopticlaw38_ScoreBounds.j1 kj10 t187 t194 bt214.2.2 false t198 t199 t200 t201 1 1 bt214.1 bt214.2.1))) else (synopticlaw38_ScoreBounds.j1 kj10 t187 t194 bt214.2.2 false t198 t199 t200 t201 1 1 bt214.1 bt214.2.1)))))) else (if bt210.2.2 = 0 then ((score_Compare.f kj10 bt210.1 bt210.2.1 0 1).bind fun t232 => (if t232 < 0 then (none) else (synopticlaw38_ScoreBounds.j1 kj10 t187 t194 bt214.2.2 false t198 t199 t200 t201 1 1 bt214.1 bt214.2.1))) else (synopticlaw38_ScoreBounds.j1 kj10 t187 t194 bt214.2.2 false t198 t199 t200 t201 1 1 bt214.1 bt214.2.1))))))) = some r := H
     have A28 := Aside0.mk A280
     clear A280
     replace H := Option.bind_eq_some_iff.mp H
     obtain ⟨⟨t210, t211, t212⟩, A290, H⟩ := H
     replace H : ((score_Heidke.f t198 t199 t200 t201).bind fun bt214 => ((score_FalseAlarm.f t198 t199 t200 t201).bind fun bt218 => (if t208 = 0 then ((score_Compare.f kj10 t206 t207 1 1).bind fun t222 => (if t222 > 0 then (none) else ((score_Compare.f kj10 t206 t207 0 1).bind fun t223 => (if t223 < 0 then (none) else (if t212 = 0 then ((score_Compare.f kj10 t210 t211 t206 t207).bind fun t224 => (if t224 > 0 then (none) else (if bt218.2.2 = 0 then ((score_Compare.f kj10 bt218.1 bt218.2.1 1 1).bind fun t225 => (if t225 > 0 then (none) else ((score_Compare.f kj10 bt218.1 bt218.2.1 0 1).bind fun t226 => (if t226 < 0 then (none) else ((score_Compare.f kj10 t210 t211 0 1).bind fun t227 => (if t227 < 0 then (none) else (synopticlaw38_ScoreBounds.j1 kj10 t187 t194 bt214.2.2 false t198 t199 t200 t201 1 1 bt214.1 bt214.2.1))))))) else ((score_Compare.f kj10 t210 t211 0 1).bind fun t228 => (if t228 < 0 then (none) else (synopticlaw38_ScoreBounds.j1 kj10 t187 t194 bt214.2.2 false t198 t199 t200 t201 1 1 bt214.1 bt214.2.1)))))) else (none)))))) else (if bt218.2.2 = 0 then ((score_Compare.f kj10 bt218.1 bt218.2.1 1 1).bind fun t229 => (if t229 > 0 then (none) else ((score_Compare.f kj10 bt218.1 bt218.2.1 0 1).bind fun t230 => (if t230 < 0 then (none) else (if t212 = 0 then ((score_Compare.f kj10 t210 t211 0 1).bind fun t231 => (if t231 < 0 then (none) else (synopticlaw38_ScoreBounds.j1 kj10 t187 t194 bt214.2.2 false t198 t199 t200 t201 1 1 bt214.1 bt214.2.1))) else (synopticlaw38_ScoreBounds.j1 kj10 t187 t194 bt214.2.2 false t198 t199 t200 t201 1 1 bt214.1 bt214.2.1)))))) else (if t212 = 0 then ((score_Compare.f kj10 t210 t211 0 1).bind fun t232 => (if t232 < 0 then (none) else (synopticlaw38_ScoreBounds.j1 kj10 t187 t194 bt214.2.2 false t198 t199 t200 t201 1 1 bt214.1 bt214.2.1))) else (synopticlaw38_ScoreBounds.j1 kj10 t187 t194 bt214.2.2 false t198 t199 t200 t201 1 1 bt214.1 bt214.2.1)))))) = some r := H
     have A29 := Aside0.mk A290
     clear A290
     replace H := Option.bind_eq_some_iff.mp H
     obtain ⟨⟨t214, t215, t216⟩, A300, H⟩ := H
     replace H : ((score_FalseAlarm.f t198 t199 t200 t201).bind fun bt218 => (if t208 = 0 then ((score_Compare.f kj10 t206 t207 1 1).bind fun t222 => (if t222 > 0 then (none) else ((score_Compare.f kj10 t206 t207 0 1).bind fun t223 => (if t223 < 0 then (none) else (if t212 = 0 then ((score_Compare.f kj10 t210 t211 t206 t207).bind fun t224 => (if t224 > 0 then (none) else (if bt218.2.2 = 0 then ((score_Compare.f kj10 bt218.1 bt218.2.1 1 1).bind fun t225 => (if t225 > 0 then (none) else ((score_Compare.f kj10 bt218.1 bt218.2.1 0 1).bind fun t226 => (if t226 < 0 then (none) else ((score_Compare.f kj10 t210 t211 0 1).bind fun t227 => (if t227 < 0 then (none) else (synopticlaw38_ScoreBounds.j1 kj10 t187 t194 t216 false t198 t199 t200 t201 1 1 t214 t215))))))) else ((score_Compare.f kj10 t210 t211 0 1).bind fun t228 => (if t228 < 0 then (none) else (synopticlaw38_ScoreBounds.j1 kj10 t187 t194 t216 false t198 t199 t200 t201 1 1 t214 t215)))))) else (none)))))) else (if bt218.2.2 = 0 then ((score_Compare.f kj10 bt218.1 bt218.2.1 1 1).bind fun t229 => (if t229 > 0 then (none) else ((score_Compare.f kj10 bt218.1 bt218.2.1 0 1).bind fun t230 => (if t230 < 0 then (none) else (if t212 = 0 then ((score_Compare.f kj10 t210 t211 0 1).bind fun t231 => (if t231 < 0 then (none) else (synopticlaw38_ScoreBounds.j1 kj10 t187 t194 t216 false t198 t199 t200 t201 1 1 t214 t215))) else (synopticlaw38_ScoreBounds.j1 kj10 t187 t194 t216 false t198 t199 t200 t201 1 1 t214 t215)))))) else (if t212 = 0 then ((score_Compare.f kj10 t210 t211 0 1).bind fun t232 => (if t232 < 0 then (none) else (synopticlaw38_ScoreBounds.j1 kj10 t187 t194 t216 false t198 t199 t200 t201 1 1 t214 t215))) else (synopticlaw38_ScoreBounds.j1 kj10 t187 t194 t216 false t198 t199 t200 t201 1 1 t214 t215))))) = some r := H
     have A30 := Aside0.mk A300
     clear A300
     replace H := Option.bind_eq_some_iff.mp H
     obtain ⟨⟨t218, t219, t220⟩, A310, H⟩ := H
     replace H : (if t208 = 0 then ((score_Compare.f kj10 t206 t207 1 1).bind fun t222 => (if t222 > 0 then (none) else ((score_Compare.f kj10 t206 t207 0 1).bind fun t223 => (if t223 < 0 then (none) else (if t212 = 0 then ((score_Compare.f kj10 t210 t211 t206 t207).bind fun t224 => (if t224 > 0 then (none) else (if t220 = 0 then ((score_Compare.f kj10 t218 t219 1 1).bind fun t225 => (if t225 > 0 then (none) else ((score_Compare.f kj10 t218 t219 0 1).bind fun t226 => (if t226 < 0 then (none) else ((score_Compare.f kj10 t210 t211 0 1).bind fun t227 => (if t227 < 0 then (none) else (synopticlaw38_ScoreBounds.j1 kj10 t187 t194 t216 false t198 t199 t200 t201 1 1 t214 t215))))))) else ((score_Compare.f kj10 t210 t211 0 1).bind fun t228 => (if t228 < 0 then (none) else (synopticlaw38_ScoreBounds.j1 kj10 t187 t194 t216 false t198 t199 t200 t201 1 1 t214 t215)))))) else (none)))))) else (if t220 = 0 then ((score_Compare.f kj10 t218 t219 1 1).bind fun t229 => (if t229 > 0 then (none) else ((score_Compare.f kj10 t218 t219 0 1).bind fun t230 => (if t230 < 0 then (none) else (if t212 = 0 then ((score_Compare.f kj10 t210 t211 0 1).bind fun t231 => (if t231 < 0 then (none) else (synopticlaw38_ScoreBounds.j1 kj10 t187 t194 t216 false t198 t199 t200 t201 1 1 t214 t215))) else (synopticlaw38_ScoreBounds.j1 kj10 t187 t194 t216 false t198 t199 t200 t201 1 1 t214 t215)))))) else (if t212 = 0 then ((score_Compare.f kj10 t210 t211 0 1).bind fun t232 => (if t232 < 0 then (none) else (synopticlaw38_ScoreBounds.j1 kj10 t187 t194 t216 false t198 t199 t200 t201 1 1 t214 t215))) else (synopticlaw38_ScoreBounds.j1 kj10 t187 t194 t216 false t198 t199 t200 t201 1 1 t214 t215)))) = some r := H
     have A31 := Aside0.mk A310
     clear A310
     have HC32 := Aside0.mk H
     clear H
     go_upto_region 12 with (first | ((with_reducible refine gate_dst (N := 11) rfl ?_); (try (refine gate_guard (by rfl) ?_; dsimp only)); refine box_event ?hg (N := 11) ?hd (cs := #[.int .i64 0, .int .i64 0]) (t := 28) ?hr ?_; (case hd => rfl); (case hg => rfl); (case hr => first | (go_simp; done) | (go_simp; rfl)); intro gb204 hg w33 hbox hb; have BK204 := Aside0.mk (hbox); have GW204 := kG HB hg; have GE204 := kG HB hg; have NB203_204 := kN BK203 hg; have NB204_203 := kM BK203 hg; replace HO_7 := kR HO_7 hb; replace HO_8 := kR HO_8 hb; replace BK203 := kB BK203 hb; replace HB := kH HB hb; clear hb hbox hg) | ((with_reducible refine gate_dst (N := 12) rfl ?_); (try (refine gate_guard (by rfl) ?_; dsimp only)); refine box_event ?hg (N := 12) ?hd (cs := #[.int .i64 0, .int .i64 0]) (t := 28) ?hr ?_; (case hd => rfl); (case hg => rfl); (case hr => first | (go_simp; done) | (go_simp; rfl)); intro gb205 hg w34 hbox hb; have BK205 := Aside0.mk (hbox); have GW205 := kG HB hg; have GE205 := kG HB hg; have NB203_205 := kN BK203 hg; have NB205_203 := kM BK203 hg; have NB204_205 := kN BK204 hg; have NB205_204 := kM BK204 hg; replace HO_7 := kR HO_7 hb; replace HO_8 := kR HO_8 hb; replace BK203 := kB BK203 hb; replace BK204 := kB BK204 hb; replace HB := kH HB hb; clear hb hbox hg; have hnb35 := NB204_203.out; have hnc35 := NB203_204.out; have hnb36 := NB204_205.out; have hnc36 := NB205_204.out; have hcz37_0 : w34.cell? ⟨gb204, 0, none⟩ = some (.int .i64 0) := (blk_cell BK204.out 0).trans rfl; have hcz37_1 : w34.cell? ⟨gb204, 1, none⟩ = some (.int .i64 0) := (blk_cell BK204.out 1).trans rfl; have hfz37_0 := blk_frozen BK204.out 0; have hfz37_1 := blk_frozen BK204.out 1) | ((with_reducible refine gate_store (t := 28) (p := 11) rfl ?_); refine store_event (t := 28) (p := 11) (v := ?vo_w38) (w1 := ((w34.setCell ⟨gb204, 0, none⟩ (.int .i64 1)).setCell ⟨gb204, 1, none⟩ (.int .i64 1))) ?hg ?ho ?hn ?hr ?_; (case ho => rfl); (case hg => rfl); (case hn => rfl); (case hr => first | (go_simp; done) | (go_simp; rfl)); intro w38 hw; replace HO_7 := kFR HO_7 BK204 hw (by decide); replace HO_8 := kFR HO_8 BK204 hw (by decide); replace BK203 := kF BK203 NB203_204 hw; replace BK204 : Aside0 (w38.heap[gb204]? = some (.cells #[.int .i64 1, .int .i64 1] 28 (0, 0))) := ⟨(by rw [hw]; exact (by (with_reducible repeat (first | refine blk_drewN ?_ _ | refine blk_drew ?_ | refine blk_alloc ?_ _)); refine blk_put (cs := #[.int .i64 1, .int .i64 0]) ?_ 1 _ rfl; (with_reducible repeat (first | refine blk_drewN ?_ _ | refine blk_drew ?_ | refine blk_alloc ?_ _)); refine blk_put (cs := #[.int .i64 0, .int .i64 0]) ?_ 0 _ rfl; (with_reducible repeat (first | refine blk_drewN ?_ _ | refine blk_drew ?_ | refine blk_alloc ?_ _)); exact BK204.out))⟩; replace BK205 := kF BK205 NB205_204 hw; replace HB := kFH HB GE204 hw; clear hw; have hnb39 := NB205_203.out; have hnc39 := NB203_205.out; have hcz40_0 : w38.cell? ⟨gb205, 0, none⟩ = some (.int .i64 0) := (blk_cell BK205.out 0).trans rfl; have hcz40_1 : w38.cell? ⟨gb205, 1, none⟩ = some (.int .i64 0) := (blk_cell BK205.out 1).trans rfl; have hfz40_0 := blk_frozen BK205.out 0; have hfz40_1 := blk_frozen BK205.out 1) | ((with_reducible refine gate_store (t := 28) (p := 12) rfl ?_); refine store_event (t := 28) (p := 12) (v := ?vo_w41) (w1 := ((w38.setCell ⟨gb205, 0, none⟩ (.int .i64 0)).setCell ⟨gb205, 1, none⟩ (.int .i64 1))) ?hg ?ho ?hn ?hr ?_; (case ho => rfl); (case hg => rfl); (case hn => rfl); (case hr => first | (go_simp; done) | (go_simp; rfl)); intro w41 hw; replace HO_7 := kFR HO_7 BK205 hw (by decide); replace HO_8 := kFR HO_8 BK205 hw (by decide); replace BK203 := kF BK203 NB203_205 hw; replace BK204 := kF BK204 NB204_205 hw; replace BK205 : Aside0 (w41.heap[gb205]? = some (.cells #[.int .i64 0, .int .i64 1] 28 (0, 0))) := ⟨(by rw [hw]; exact (by (with_reducible repeat (first | refine blk_drewN ?_ _ | refine blk_drew ?_ | refine blk_alloc ?_ _)); refine blk_put (cs := #[.int .i64 0, .int .i64 0]) ?_ 1 _ rfl; (with_reducible repeat (first | refine blk_drewN ?_ _ | refine blk_drew ?_ | refine blk_alloc ?_ _)); refine blk_put (cs := #[.int .i64 0, .int .i64 0]) ?_ 0 _ rfl; (with_reducible repeat (first | refine blk_drewN ?_ _ | refine blk_drew ?_ | refine blk_alloc ?_ _)); exact BK205.out))⟩; replace HB := kFH HB GE205 hw; clear hw; have hcz42_0 : w41.cell? ⟨gb203, 0, none⟩ = some (.int .i64 t198) := (blk_cell BK203.out 0).trans rfl; have hcz42_1 : w41.cell? ⟨gb203, 1, none⟩ = some (.int .i64 t199) := (blk_cell BK203.out 1).trans rfl; have hcz42_2 : w41.cell? ⟨gb203, 2, none⟩ = some (.int .i64 t200) := (blk_cell BK203.out 2).trans rfl; have hcz42_3 : w41.cell? ⟨gb203, 3, none⟩ = some (.int .i64 t201) := (blk_cell BK203.out 3).trans rfl; have hfz42_0 := blk_frozen BK203.out 0; have hfz42_1 := blk_frozen BK203.out 1; have hfz42_2 := blk_frozen BK203.out 2; have hfz42_3 := blk_frozen BK203.out 3) | ((with_reducible refine gate_callee (f := 11) rfl ?_); refine goesL_ (some 63) rfl rfl Try.func11 (by kernel_rfl) rfl #[.agg #[.int .i64 t198, .int .i64 t199, .int .i64 t200, .int .i64 t201]] rfl (by (try simp only [List.map_toArray, List.map_cons, List.map_nil]); first | done | rfl | (simp only [List.length_drop, List.length_take]; rfl)) ?_; (with_reducible refine (score_Detection.calls t198 t199 t200 t201 t206 t207 t208 _ A28.out).mono ?_); rintro e w43 ⟨rfl, hb⟩; refine ⟨_, rfl, ?_⟩; replace HO_7 := kR HO_7 hb; replace HO_8 := kR HO_8 hb; replace BK203 := kB BK203 hb; replace BK204 := kB BK204 hb; replace BK205 := kB BK205 hb; replace HB := kH HB hb; (try clear hb); (try clear hb2); (try clear hk); (try clear hi)) | ((with_reducible refine gate_dst (N := 13) rfl ?_); (try (refine gate_guard (by rfl) ?_; dsimp only)); refine box_event ?hg (N := 13) ?hd (cs := #[.int .i64 0, .int .i64 0]) (t := 28) ?hr ?_; (case hd => rfl); (case hg => rfl); (case hr => first | (go_simp; done) | (go_simp; rfl)); intro gb209 hg w44 hbox hb; have BK209 := Aside0.mk (hbox); have GW209 := kG HB hg; have GE209 := kG HB hg; have NB203_209 := kN BK203 hg; have NB209_203 := kM BK203 hg; have NB204_209 := kN BK204 hg; have NB209_204 := kM BK204 hg; have NB205_209 := kN BK205 hg; have NB209_205 := kM BK205 hg; replace HO_7 := kR HO_7 hb; replace HO_8 := kR HO_8 hb; replace BK203 := kB BK203 hb; replace BK204 := kB BK204 hb; replace BK205 := kB BK205 hb; replace HB := kH HB hb; clear hb hbox hg; have hnb45 := NB209_203.out; have hnc45 := NB203_209.out; have hnb46 := NB209_204.out; have hnc46 := NB204_209.out; have hnb47 := NB209_205.out; have hnc47 := NB205_209.out; have hcz48_0 : w44.cell? ⟨gb209, 0, none⟩ = some (.int .i64 0) := (blk_cell BK209.out 0).trans rfl; have hcz48_1 : w44.cell? ⟨gb209, 1, none⟩ = some (.int .i64 0) := (blk_cell BK209.out 1).trans rfl; have hfz48_0 := blk_frozen BK209.out 0; have hfz48_1 := blk_frozen BK209.out 1) | ((with_reducible refine gate_store (t := 28) (p := 13) rfl ?_); refine store_event (t := 28) (p := 13) (v := ?vo_w49) (w1 := ((w44.setCell ⟨gb209, 0, none⟩ (.int .i64 t206)).setCell ⟨gb209, 1, none⟩ (.int .i64 t207))) ?hg ?ho ?hn ?hr ?_; (case ho => rfl); (case hg => rfl); (case hn => rfl); (case hr => first | (go_simp; done) | (go_simp; rfl)); intro w49 hw; replace HO_7 := kFR HO_7 BK209 hw (by decide); replace HO_8 := kFR HO_8 BK209 hw (by decide); replace BK203 := kF BK203 NB203_209 hw; replace BK204 := kF BK204 NB204_209 hw; replace BK205 := kF BK205 NB205_209 hw; replace BK209 : Aside0 (w49.heap[gb209]? = some (.cells #[.int .i64 t206, .int .i64 t207] 28 (0, 0))) := ⟨(by rw [hw]; exact (by (with_reducible repeat (first | refine blk_drewN ?_ _ | refine blk_drew ?_ | refine blk_alloc ?_ _)); refine blk_put (cs := #[.int .i64 t206, .int .i64 0]) ?_ 1 _ rfl; (with_reducible repeat (first | refine blk_drewN ?_ _ | refine blk_drew ?_ | refine blk_alloc ?_ _)); refine blk_put (cs := #[.int .i64 0, .int .i64 0]) ?_ 0 _ rfl; (with_reducible repeat (first | refine blk_drewN ?_ _ | refine blk_drew ?_ | refine blk_alloc ?_ _)); exact BK209.out))⟩; replace HB := kFH HB GE209 hw; clear hw; have hcz50_0 : w49.cell? ⟨gb203, 0, none⟩ = some (.int .i64 t198) := (blk_cell BK203.out 0).trans rfl; have hcz50_1 : w49.cell? ⟨gb203, 1, none⟩ = some (.int .i64 t199) := (blk_cell BK203.out 1).trans rfl; have hcz50_2 : w49.cell? ⟨gb203, 2, none⟩ = some (.int .i64 t200) := (blk_cell BK203.out 2).trans rfl; have hcz50_3 : w49.cell? ⟨gb203, 3, none⟩ = some (.int .i64 t201) := (blk_cell BK203.out 3).trans rfl; have hfz50_0 := blk_frozen BK203.out 0; have hfz50_1 := blk_frozen BK203.out 1; have hfz50_2 := blk_frozen BK203.out 2; have hfz50_3 := blk_frozen BK203.out 3) | ((with_reducible refine gate_callee (f := 15) rfl ?_); refine goesL_ (some 68) rfl rfl Try.func15 (by kernel_rfl) rfl #[.agg #[.int .i64 t198, .int .i64 t199, .int .i64 t200, .int .i64 t201]] rfl (by (try simp only [List.map_toArray, List.map_cons, List.map_nil]); first | done | rfl | (simp only [List.length_drop, List.length_take]; rfl)) ?_; (with_reducible refine (score_Threat.calls t198 t199 t200 t201 t210 t211 t212 _ A29.out).mono ?_); rintro e w51 ⟨rfl, hb⟩; refine ⟨_, rfl, ?_⟩; replace HO_7 := kR HO_7 hb; replace HO_8 := kR HO_8 hb; replace BK203 := kB BK203 hb; replace BK204 := kB BK204 hb; replace BK205 := kB BK205 hb; replace BK209 := kB BK209 hb; replace HB := kH HB hb; (try clear hb); (try clear hb2); (try clear hk); (try clear hi)) | ((with_reducible refine gate_dst (N := 15) rfl ?_); (try (refine gate_guard (by rfl) ?_; dsimp only)); refine box_event ?hg (N := 15) ?hd (cs := #[.int .i64 0, .int .i64 0]) (t := 28) ?hr ?_; (case hd => rfl); (case hg => rfl); (case hr => first | (go_simp; done) | (go_simp; rfl)); intro gb213 hg w52 hbox hb; have BK213 := Aside0.mk (hbox); have GW213 := kG HB hg; have GE213 := kG HB hg; have NB203_213 := kN BK203 hg; have NB213_203 := kM BK203 hg; have NB204_213 := kN BK204 hg; have NB213_204 := kM BK204 hg; have NB205_213 := kN BK205 hg; have NB213_205 := kM BK205 hg; have NB209_213 := kN BK209 hg; have NB213_209 := kM BK209 hg; replace HO_7 := kR HO_7 hb; replace HO_8 := kR HO_8 hb; replace BK203 := kB BK203 hb; replace BK204 := kB BK204 hb; replace BK205 := kB BK205 hb; replace BK209 := kB BK209 hb; replace HB := kH HB hb; clear hb hbox hg; have hnb53 := NB213_203.out; have hnc53 := NB203_213.out; have hnb54 := NB213_204.out; have hnc54 := NB204_213.out; have hnb55 := NB213_205.out; have hnc55 := NB205_213.out; have hnb56 := NB213_209.out; have hnc56 := NB209_213.out; have hcz57_0 : w52.cell? ⟨gb213, 0, none⟩ = some (.int .i64 0) := (blk_cell BK213.out 0).trans rfl; have hcz57_1 : w52.cell? ⟨gb213, 1, none⟩ = some (.int .i64 0) := (blk_cell BK213.out 1).trans rfl; have hfz57_0 := blk_frozen BK213.out 0; have hfz57_1 := blk_frozen BK213.out 1) | ((with_reducible refine gate_store (t := 28) (p := 15) rfl ?_); refine store_event (t := 28) (p := 15) (v := ?vo_w58) (w1 := ((w52.setCell ⟨gb213, 0, none⟩ (.int .i64 t210)).setCell ⟨gb213, 1, none⟩ (.int .i64 t211))) ?hg ?ho ?hn ?hr ?_; (case ho => rfl); (case hg => rfl); (case hn => rfl); (case hr => first | (go_simp; done) | (go_simp; rfl)); intro w58 hw; replace HO_7 := kFR HO_7 BK213 hw (by decide); replace HO_8 := kFR HO_8 BK213 hw (by decide); replace BK203 := kF BK203 NB203_213 hw; replace BK204 := kF BK204 NB204_213 hw; replace BK205 := kF BK205 NB205_213 hw; replace BK209 := kF BK209 NB209_213 hw; replace BK213 : Aside0 (w58.heap[gb213]? = some (.cells #[.int .i64 t210, .int .i64 t211] 28 (0, 0))) := ⟨(by rw [hw]; exact (by (with_reducible repeat (first | refine blk_drewN ?_ _ | refine blk_drew ?_ | refine blk_alloc ?_ _)); refine blk_put (cs := #[.int .i64 t210, .int .i64 0]) ?_ 1 _ rfl; (with_reducible repeat (first | refine blk_drewN ?_ _ | refine blk_drew ?_ | refine blk_alloc ?_ _)); refine blk_put (cs := #[.int .i64 0, .int .i64 0]) ?_ 0 _ rfl; (with_reducible repeat (first | refine blk_drewN ?_ _ | refine blk_drew ?_ | refine blk_alloc ?_ _)); exact BK213.out))⟩; replace HB := kFH HB GE213 hw; clear hw; have hcz59_0 : w58.cell? ⟨gb203, 0, none⟩ = some (.int .i64 t198) := (blk_cell BK203.out 0).trans rfl; have hcz59_1 : w58.cell? ⟨gb203, 1, none⟩ = some (.int .i64 t199) := (blk_cell BK203.out 1).trans rfl; have hcz59_2 : w58.cell? ⟨gb203, 2, none⟩ = some (.int .i64 t200) := (blk_cell BK203.out 2).trans rfl; have hcz59_3 : w58.cell? ⟨gb203, 3, none⟩ = some (.int .i64 t201) := (blk_cell BK203.out 3).trans rfl; have hfz59_0 := blk_frozen BK203.out 0; have hfz59_1 := blk_frozen BK203.out 1; have hfz59_2 := blk_frozen BK203.out 2; have hfz59_3 := blk_frozen BK203.out 3) | ((with_reducible refine gate_callee (f := 17) rfl ?_); refine goesL_ (some 73) rfl rfl Try.func17 (by kernel_rfl) rfl #[.agg #[.int .i64 t198, .int .i64 t199, .int .i64 t200, .int .i64 t201]] rfl (by (try simp only [List.map_toArray, List.map_cons, List.map_nil]); first | done | rfl | (simp only [List.length_drop, List.length_take]; rfl)) ?_; (with_reducible refine (score_Heidke.calls t198 t199 t200 t201 t214 t215 t216 _ A30.out).mono ?_); rintro e w60 ⟨rfl, hb⟩; refine ⟨_, rfl, ?_⟩; replace HO_7 := kR HO_7 hb; replace HO_8 := kR HO_8 hb; replace BK203 := kB BK203 hb; replace BK204 := kB BK204 hb; replace BK205 := kB BK205 hb; replace BK209 := kB BK209 hb; replace BK213 := kB BK213 hb; replace HB := kH HB hb; (try clear hb); (try clear hb2); (try clear hk); (try clear hi)) | ((with_reducible refine gate_dst (N := 17) rfl ?_); (try (refine gate_guard (by rfl) ?_; dsimp only)); refine box_event ?hg (N := 17) ?hd (cs := #[.int .i64 0, .int .i64 0]) (t := 28) ?hr ?_; (case hd => rfl); (case hg => rfl); (case hr => first | (go_simp; done) | (go_simp; rfl)); intro gb217 hg w61 hbox hb; have BK217 := Aside0.mk (hbox); have GW217 := kG HB hg; have GE217 := kG HB hg; have NB203_217 := kN BK203 hg; have NB217_203 := kM BK203 hg; have NB204_217 := kN BK204 hg; have NB217_204 := kM BK204 hg; have NB205_217 := kN BK205 hg; have NB217_205 := kM BK205 hg; have NB209_217 := kN BK209 hg; have NB217_209 := kM BK209 hg; have NB213_217 := kN BK213 hg; have NB217_213 := kM BK213 hg; replace HO_7 := kR HO_7 hb; replace HO_8 := kR HO_8 hb; replace BK203 := kB BK203 hb; replace BK204 := kB BK204 hb; replace BK205 := kB BK205 hb; replace BK209 := kB BK209 hb; replace BK213 := kB BK213 hb; replace HB := kH HB hb; clear hb hbox hg; have hnb62 := NB217_203.out; have hnc62 := NB203_217.out; have hnb63 := NB217_204.out; have hnc63 := NB204_217.out; have hnb64 := NB217_205.out; have hnc64 := NB205_217.out; have hnb65 := NB217_209.out; have hnc65 := NB209_217.out; have hnb66 := NB217_213.out; have hnc66 := NB213_217.out; have hcz67_0 : w61.cell? ⟨gb217, 0, none⟩ = some (.int .i64 0) := (blk_cell BK217.out 0).trans rfl; have hcz67_1 : w61.cell? ⟨gb217, 1, none⟩ = some (.int .i64 0) := (blk_cell BK217.out 1).trans rfl; have hfz67_0 := blk_frozen BK217.out 0; have hfz67_1 := blk_frozen BK217.out 1) | ((with_reducible refine gate_store (t := 28) (p := 17) rfl ?_); refine store_event (t := 28) (p := 17) (v := ?vo_w68) (w1 := ((w61.setCell ⟨gb217, 0, none⟩ (.int .i64 t214)).setCell ⟨gb217, 1, none⟩ (.int .i64 t215))) ?hg ?ho ?hn ?hr ?_; (case ho => rfl); (case hg => rfl); (case hn => rfl); (case hr => first | (go_simp; done) | (go_simp; rfl)); intro w68 hw; replace HO_7 := kFR HO_7 BK217 hw (by decide); replace HO_8 := kFR HO_8 BK217 hw (by decide); replace BK203 := kF BK203 NB203_217 hw; replace BK204 := kF BK204 NB204_217 hw; replace BK205 := kF BK205 NB205_217 hw; replace BK209 := kF BK209 NB209_217 hw; replace BK213 := kF BK213 NB213_217 hw; replace BK217 : Aside0 (w68.heap[gb217]? = some (.cells #[.int .i64 t214, .int .i64 t215] 28 (0, 0))) := ⟨(by rw [hw]; exact (by (with_reducible repeat (first | refine blk_drewN ?_ _ | refine blk_drew ?_ | refine blk_alloc ?_ _)); refine blk_put (cs := #[.int .i64 t214, .int .i64 0]) ?_ 1 _ rfl; (with_reducible repeat (first | refine blk_drewN ?_ _ | refine blk_drew ?_ | refine blk_alloc ?_ _)); refine blk_put (cs := #[.int .i64 0, .int .i64 0]) ?_ 0 _ rfl; (with_reducible repeat (first | refine blk_drewN ?_ _ | refine blk_drew ?_ | refine blk_alloc ?_ _)); exact BK217.out))⟩; replace HB := kFH HB GE217 hw; clear hw; have hcz69_0 : w68.cell? ⟨gb203, 0, none⟩ = some (.int .i64 t198) := (blk_cell BK203.out 0).trans rfl; have hcz69_1 : w68.cell? ⟨gb203, 1, none⟩ = some (.int .i64 t199) := (blk_cell BK203.out 1).trans rfl; have hcz69_2 : w68.cell? ⟨gb203, 2, none⟩ = some (.int .i64 t200) := (blk_cell BK203.out 2).trans rfl; have hcz69_3 : w68.cell? ⟨gb203, 3, none⟩ = some (.int .i64 t201) := (blk_cell BK203.out 3).trans rfl; have hfz69_0 := blk_frozen BK203.out 0; have hfz69_1 := blk_frozen BK203.out 1; have hfz69_2 := blk_frozen BK203.out 2; have hfz69_3 := blk_frozen BK203.out 3) | ((with_reducible refine gate_callee (f := 13) rfl ?_); refine goesL_ (some 78) rfl rfl Try.func13 (by kernel_rfl) rfl #[.agg #[.int .i64 t198, .int .i64 t199, .int .i64 t200, .int .i64 t201]] rfl (by (try simp only [List.map_toArray, List.map_cons, List.map_nil]); first | done | rfl | (simp only [List.length_drop, List.length_take]; rfl)) ?_; (with_reducible refine (score_FalseAlarm.calls t198 t199 t200 t201 t218 t219 t220 _ A31.out).mono ?_); rintro e w70 ⟨rfl, hb⟩; refine ⟨_, rfl, ?_⟩; replace HO_7 := kR HO_7 hb; replace HO_8 := kR HO_8 hb; replace BK203 := kB BK203 hb; replace BK204 := kB BK204 hb; replace BK205 := kB BK205 hb; replace BK209 := kB BK209 hb; replace BK213 := kB BK213 hb; replace BK217 := kB BK217 hb; replace HB := kH HB hb; (try clear hb); (try clear hb2); (try clear hk); (try clear hi)) | ((with_reducible refine gate_dst (N := 19) rfl ?_); (try (refine gate_guard (by rfl) ?_; dsimp only)); refine box_event ?hg (N := 19) ?hd (cs := #[.int .i64 0, .int .i64 0]) (t := 28) ?hr ?_; (case hd => rfl); (case hg => rfl); (case hr => first | (go_simp; done) | (go_simp; rfl)); intro gb221 hg w71 hbox hb; have BK221 := Aside0.mk (hbox); have GW221 := kG HB hg; have GE221 := kG HB hg; have NB203_221 := kN BK203 hg; have NB221_203 := kM BK203 hg; have NB204_221 := kN BK204 hg; have NB221_204 := kM BK204 hg; have NB205_221 := kN BK205 hg; have NB221_205 := kM BK205 hg; have NB209_221 := kN BK209 hg; have NB221_209 := kM BK209 hg; have NB213_221 := kN BK213 hg; have NB221_213 := kM BK213 hg; have NB217_221 := kN BK217 hg; have NB221_217 := kM BK217 hg; replace HO_7 := kR HO_7 hb; replace HO_8 := kR HO_8 hb; replace BK203 := kB BK203 hb; replace BK204 := kB BK204 hb; replace BK205 := kB BK205 hb; replace BK209 := kB BK209 hb; replace BK213 := kB BK213 hb; replace BK217 := kB BK217 hb; replace HB := kH HB hb; clear hb hbox hg; have hnb72 := NB221_203.out; have hnc72 := NB203_221.out; have hnb73 := NB221_204.out; have hnc73 := NB204_221.out; have hnb74 := NB221_205.out; have hnc74 := NB205_221.out; have hnb75 := NB221_209.out; have hnc75 := NB209_221.out; have hnb76 := NB221_213.out; have hnc76 := NB213_221.out; have hnb77 := NB221_217.out; have hnc77 := NB217_221.out; have hcz78_0 : w71.cell? ⟨gb221, 0, none⟩ = some (.int .i64 0) := (blk_cell BK221.out 0).trans rfl; have hcz78_1 : w71.cell? ⟨gb221, 1, none⟩ = some (.int .i64 0) := (blk_cell BK221.out 1).trans rfl; have hfz78_0 := blk_frozen BK221.out 0; have hfz78_1 := blk_frozen BK221.out 1) | ((with_reducible refine gate_store (t := 28) (p := 19) rfl ?_); refine store_event (t := 28) (p := 19) (v := ?vo_w79) (w1 := ((w71.setCell ⟨gb221, 0, none⟩ (.int .i64 t218)).setCell ⟨gb221, 1, none⟩ (.int .i64 t219))) ?hg ?ho ?hn ?hr ?_; (case ho => rfl); (case hg => rfl); (case hn => rfl); (case hr => first | (go_simp; done) | (go_simp; rfl)); intro w79 hw; replace HO_7 := kFR HO_7 BK221 hw (by decide); replace HO_8 := kFR HO_8 BK221 hw (by decide); replace BK203 := kF BK203 NB203_221 hw; replace BK204 := kF BK204 NB204_221 hw; replace BK205 := kF BK205 NB205_221 hw; replace BK209 := kF BK209 NB209_221 hw; replace BK213 := kF BK213 NB213_221 hw; replace BK217 := kF BK217 NB217_221 hw; replace BK221 : Aside0 (w79.heap[gb221]? = some (.cells #[.int .i64 t218, .int .i64 t219] 28 (0, 0))) := ⟨(by rw [hw]; exact (by (with_reducible repeat (first | refine blk_drewN ?_ _ | refine blk_drew ?_ | refine blk_alloc ?_ _)); refine blk_put (cs := #[.int .i64 t218, .int .i64 0]) ?_ 1 _ rfl; (with_reducible repeat (first | refine blk_drewN ?_ _ | refine blk_drew ?_ | refine blk_alloc ?_ _)); refine blk_put (cs := #[.int .i64 0, .int .i64 0]) ?_ 0 _ rfl; (with_reducible repeat (first | refine blk_drewN ?_ _ | refine blk_drew ?_ | refine blk_alloc ?_ _)); exact BK221.out))⟩; replace HB := kFH HB GE221 hw; clear hw))
     (try simp only [Act.put, List.setIfInBounds_toArray, List.set_cons_zero, List.set_cons_succ])
     go_cut [130] (fun v130 wc => ∃ (kq : Nat) (x130_31 : Bool), v130 = .bool x130_31 ∧ Aside0 (synopticlaw38_ScoreBounds.j1 kq t187 t194 t216 x130_31 t198 t199 t200 t201 1 1 t214 t215 = some r) ∧ Aside0 (kq ≤ kj10) ∧ Aside0 (Kd.R k40 40 wc w.heap.size (fun k_ => some k_ ≠ (v195 : Value).ownBlock) (.slice Ao17 t187.length co17) t187) ∧ Aside0 (Kd.R k40 40 wc w.heap.size (fun k_ => some k_ ≠ ((.slice Ao17 t187.length co17) : Value).ownBlock) v195 t194) ∧ Aside0 (wc.heap[gb203]? = some (.cells #[.int .i64 t198, .int .i64 t199, .int .i64 t200, .int .i64 t201] 23 (0, 0))) ∧ Aside0 (wc.heap[gb204]? = some (.cells #[.int .i64 1, .int .i64 1] 28 (0, 0))) ∧ Aside0 (wc.heap[gb205]? = some (.cells #[.int .i64 0, .int .i64 1] 28 (0, 0))) ∧ Aside0 (wc.heap[gb209]? = some (.cells #[.int .i64 t206, .int .i64 t207] 28 (0, 0))) ∧ Aside0 (wc.heap[gb213]? = some (.cells #[.int .i64 t210, .int .i64 t211] 28 (0, 0))) ∧ Aside0 (wc.heap[gb217]? = some (.cells #[.int .i64 t214, .int .i64 t215] 28 (0, 0))) ∧ Aside0 (wc.heap[gb221]? = some (.cells #[.int .i64 t218, .int .i64 t219] 28 (0, 0))) ∧ Aside0 (Below w.heap.size w wc))
     case first => as_aux_lemma =>
      have H := HC32.out
      clear HC32
      by_cases c80 : t208 = 0
      ·rw [if_pos c80] at H
       have c80b0 : (t208 == 0) = true := beq_iff_eq.mpr c80
       have c80b1 : (t208 != 0) = false := bne_eq_false_iff_eq.mpr c80
       clear c80
       (first | rw [c80b0] | (simp only [i64_w, i32_w]; rw [c80b0]) | skip)
       replace H := Option.bind_eq_some_iff.mp H
       obtain ⟨t222, A810, H⟩ := H
       replace H : (if t222 > 0 then (none) else ((score_Compare.f kj10 t206 t207 0 1).bind fun t223 => (if t223 < 0 then (none) else (if t212 = 0 then ((score_Compare.f kj10 t210 t211 t206 t207).bind fun t224 => (if t224 > 0 then (none) else (if t220 = 0 then ((score_Compare.f kj10 t218 t219 1 1).bind fun t225 => (if t225 > 0 then (none) else ((score_Compare.f kj10 t218 t219 0 1).bind fun t226 => (if t226 < 0 then (none) else ((score_Compare.f kj10 t210 t211 0 1).bind fun t227 => (if t227 < 0 then (none) else (synopticlaw38_ScoreBounds.j1 kj10 t187 t194 t216 false t198 t199 t200 t201 1 1 t214 t215))))))) else ((score_Compare.f kj10 t210 t211 0 1).bind fun t228 => (if t228 < 0 then (none) else (synopticlaw38_ScoreBounds.j1 kj10 t187 t194 t216 false t198 t199 t200 t201 1 1 t214 t215)))))) else (none))))) = some r := H
       have A81 := Aside0.mk A810
       clear A810
       by_cases c82 : t222 > 0
       ·rw [if_pos c82] at H
        exact absurd H (by simp)
       ·rw [if_neg c82] at H
        have c82b0 : decide (0 < t222) = false := decide_eq_false c82
        clear c82
        replace H := Option.bind_eq_some_iff.mp H
        obtain ⟨t223, A830, H⟩ := H
        replace H : (if t223 < 0 then (none) else (if t212 = 0 then ((score_Compare.f kj10 t210 t211 t206 t207).bind fun t224 => (if t224 > 0 then (none) else (if t220 = 0 then ((score_Compare.f kj10 t218 t219 1 1).bind fun t225 => (if t225 > 0 then (none) else ((score_Compare.f kj10 t218 t219 0 1).bind fun t226 => (if t226 < 0 then (none) else ((score_Compare.f kj10 t210 t211 0 1).bind fun t227 => (if t227 < 0 then (none) else (synopticlaw38_ScoreBounds.j1 kj10 t187 t194 t216 false t198 t199 t200 t201 1 1 t214 t215))))))) else ((score_Compare.f kj10 t210 t211 0 1).bind fun t228 => (if t228 < 0 then (none) else (synopticlaw38_ScoreBounds.j1 kj10 t187 t194 t216 false t198 t199 t200 t201 1 1 t214 t215)))))) else (none))) = some r := H
        have A83 := Aside0.mk A830
        clear A830
        by_cases c84 : t223 < 0
        ·rw [if_pos c84] at H
         exact absurd H (by simp)
        ·rw [if_neg c84] at H
         have c84b0 : decide (t223 < 0) = false := decide_eq_false c84
         clear c84
         by_cases c85 : t212 = 0
         ·rw [if_pos c85] at H
          have c85b0 : (t212 == 0) = true := beq_iff_eq.mpr c85
          have c85b1 : (t212 != 0) = false := bne_eq_false_iff_eq.mpr c85
          clear c85
          replace H := Option.bind_eq_some_iff.mp H
          obtain ⟨t224, A860, H⟩ := H
          replace H : (if t224 > 0 then (none) else (if t220 = 0 then ((score_Compare.f kj10 t218 t219 1 1).bind fun t225 => (if t225 > 0 then (none) else ((score_Compare.f kj10 t218 t219 0 1).bind fun t226 => (if t226 < 0 then (none) else ((score_Compare.f kj10 t210 t211 0 1).bind fun t227 => (if t227 < 0 then (none) else (synopticlaw38_ScoreBounds.j1 kj10 t187 t194 t216 false t198 t199 t200 t201 1 1 t214 t215))))))) else ((score_Compare.f kj10 t210 t211 0 1).bind fun t228 => (if t228 < 0 then (none) else (synopticlaw38_ScoreBounds.j1 kj10 t187 t194 t216 false t198 t199 t200 t201 1 1 t214 t215))))) = some r := H
          have A86 := Aside0.mk A860
          clear A860
          by_cases c87 : t224 > 0
          ·rw [if_pos c87] at H
           exact absurd H (by simp)
          ·rw [if_neg c87] at H
           have c87b0 : decide (0 < t224) = false := decide_eq_false c87
           clear c87
           by_cases c88 : t220 = 0
           ·rw [if_pos c88] at H
            have c88b0 : (t220 == 0) = true := beq_iff_eq.mpr c88
            have c88b1 : (t220 != 0) = false := bne_eq_false_iff_eq.mpr c88
            clear c88
            replace H := Option.bind_eq_some_iff.mp H
            obtain ⟨t225, A890, H⟩ := H
            replace H : (if t225 > 0 then (none) else ((score_Compare.f kj10 t218 t219 0 1).bind fun t226 => (if t226 < 0 then (none) else ((score_Compare.f kj10 t210 t211 0 1).bind fun t227 => (if t227 < 0 then (none) else (synopticlaw38_ScoreBounds.j1 kj10 t187 t194 t216 false t198 t199 t200 t201 1 1 t214 t215)))))) = some r := H
            have A89 := Aside0.mk A890
            clear A890
            by_cases c90 : t225 > 0
            ·rw [if_pos c90] at H
             exact absurd H (by simp)
            ·rw [if_neg c90] at H
             have c90b0 : decide (0 < t225) = false := decide_eq_false c90
             clear c90
             replace H := Option.bind_eq_some_iff.mp H
             obtain ⟨t226, A910, H⟩ := H
             replace H : (if t226 < 0 then (none) else ((score_Compare.f kj10 t210 t211 0 1).bind fun t227 => (if t227 < 0 then (none) else (synopticlaw38_ScoreBounds.j1 kj10 t187 t194 t216 false t198 t199 t200 t201 1 1 t214 t215)))) = some r := H
             have A91 := Aside0.mk A910
             clear A910
             by_cases c92 : t226 < 0
             ·rw [if_pos c92] at H
              exact absurd H (by simp)
             ·rw [if_neg c92] at H
              have c92b0 : decide (t226 < 0) = false := decide_eq_false c92
              clear c92
              replace H := Option.bind_eq_some_iff.mp H
              obtain ⟨t227, A930, H⟩ := H
              replace H : (if t227 < 0 then (none) else (synopticlaw38_ScoreBounds.j1 kj10 t187 t194 t216 false t198 t199 t200 t201 1 1 t214 t215)) = some r := H
              have A93 := Aside0.mk A930
              clear A930
              by_cases c94 : t227 < 0
              ·rw [if_pos c94] at H
               exact absurd H (by simp)
              ·rw [if_neg c94] at H
               have c94b0 : decide (t227 < 0) = false := decide_eq_false c94
               clear c94
               have H' := Aside0.mk H
               clear H
               have hnb95 := NB209_203.out
               have hnc95 := NB203_209.out
               have hnb96 := NB209_204.out
               have hnc96 := NB204_209.out
               have hnb97 := NB209_205.out
               have hnc97 := NB205_209.out
               have hnb98 := NB209_213.out
               have hnc98 := NB213_209.out
               have hnb99 := NB209_217.out
               have hnc99 := NB217_209.out
               have hnb100 := NB209_221.out
               have hnc100 := NB221_209.out
               have hcz101_0 : w79.cell? ⟨gb209, 0, none⟩ = some (.int .i64 t206) := (blk_cell BK209.out 0).trans rfl
               have hcz101_1 : w79.cell? ⟨gb209, 1, none⟩ = some (.int .i64 t207) := (blk_cell BK209.out 1).trans rfl
               have hfz101_0 := blk_frozen BK209.out 0
               have hfz101_1 := blk_frozen BK209.out 1
               have hnb102 := NB204_203.out
               have hnc102 := NB203_204.out
               have hnb103 := NB204_205.out
               have hnc103 := NB205_204.out
               have hnb104 := NB204_213.out
               have hnc104 := NB213_204.out
               have hnb105 := NB204_217.out
               have hnc105 := NB217_204.out
               have hnb106 := NB204_221.out
               have hnc106 := NB221_204.out
               have hcz107_0 : w79.cell? ⟨gb204, 0, none⟩ = some (.int .i64 1) := (blk_cell BK204.out 0).trans rfl
               have hcz107_1 : w79.cell? ⟨gb204, 1, none⟩ = some (.int .i64 1) := (blk_cell BK204.out 1).trans rfl
               have hfz107_0 := blk_frozen BK204.out 0
               have hfz107_1 := blk_frozen BK204.out 1
               go_wp2_with (first | (go_at_call 38; (with_reducible refine (score_Compare.calls kj10 t206 t207 1 1 t222 _ A81.out).mono ?_); rintro e w108 ⟨rfl, hb⟩; replace HO_7 := kR HO_7 hb; replace HO_8 := kR HO_8 hb; replace BK203 := kB BK203 hb; replace BK204 := kB BK204 hb; replace BK205 := kB BK205 hb; replace BK209 := kB BK209 hb; replace BK213 := kB BK213 hb; replace BK217 := kB BK217 hb; replace BK221 := kB BK221 hb; replace HB := kH HB hb; (try clear hb); (try clear hb2); (try clear hk); (try clear hi); have hcz109_0 : w108.cell? ⟨gb209, 0, none⟩ = some (.int .i64 t206) := (blk_cell BK209.out 0).trans rfl; have hcz109_1 : w108.cell? ⟨gb209, 1, none⟩ = some (.int .i64 t207) := (blk_cell BK209.out 1).trans rfl; have hfz109_0 := blk_frozen BK209.out 0; have hfz109_1 := blk_frozen BK209.out 1; have hnb110 := NB205_203.out; have hnc110 := NB203_205.out; have hnb111 := NB205_213.out; have hnc111 := NB213_205.out; have hnb112 := NB205_217.out; have hnc112 := NB217_205.out; have hnb113 := NB205_221.out; have hnc113 := NB221_205.out; have hcz114_0 : w108.cell? ⟨gb205, 0, none⟩ = some (.int .i64 0) := (blk_cell BK205.out 0).trans rfl; have hcz114_1 : w108.cell? ⟨gb205, 1, none⟩ = some (.int .i64 1) := (blk_cell BK205.out 1).trans rfl; have hfz114_0 := blk_frozen BK205.out 0; have hfz114_1 := blk_frozen BK205.out 1) | (go_at_call 38; (with_reducible refine (score_Compare.calls kj10 t206 t207 0 1 t223 _ A83.out).mono ?_); rintro e w115 ⟨rfl, hb⟩; replace HO_7 := kR HO_7 hb; replace HO_8 := kR HO_8 hb; replace BK203 := kB BK203 hb; replace BK204 := kB BK204 hb; replace BK205 := kB BK205 hb; replace BK209 := kB BK209 hb; replace BK213 := kB BK213 hb; replace BK217 := kB BK217 hb; replace BK221 := kB BK221 hb; replace HB := kH HB hb; (try clear hb); (try clear hb2); (try clear hk); (try clear hi); have hnb116 := NB213_203.out; have hnc116 := NB203_213.out; have hnb117 := NB213_217.out; have hnc117 := NB217_213.out; have hnb118 := NB213_221.out; have hnc118 := NB221_213.out; have hcz119_0 : w115.cell? ⟨gb213, 0, none⟩ = some (.int .i64 t210) := (blk_cell BK213.out 0).trans rfl; have hcz119_1 : w115.cell? ⟨gb213, 1, none⟩ = some (.int .i64 t211) := (blk_cell BK213.out 1).trans rfl; have hfz119_0 := blk_frozen BK213.out 0; have hfz119_1 := blk_frozen BK213.out 1; have hcz120_0 : w115.cell? ⟨gb209, 0, none⟩ = some (.int .i64 t206) := (blk_cell BK209.out 0).trans rfl; have hcz120_1 : w115.cell? ⟨gb209, 1, none⟩ = some (.int .i64 t207) := (blk_cell BK209.out 1).trans rfl; have hfz120_0 := blk_frozen BK209.out 0; have hfz120_1 := blk_frozen BK209.out 1) | (go_at_call 38; (with_reducible refine (score_Compare.calls kj10 t210 t211 t206 t207 t224 _ A86.out).mono ?_); rintro e w121 ⟨rfl, hb⟩; replace HO_7 := kR HO_7 hb; replace HO_8 := kR HO_8 hb; replace BK203 := kB BK203 hb; replace BK204 := kB BK204 hb; replace BK205 := kB BK205 hb; replace BK209 := kB BK209 hb; replace BK213 := kB BK213 hb; replace BK217 := kB BK217 hb; replace BK221 := kB BK221 hb; replace HB := kH HB hb; (try clear hb); (try clear hb2); (try clear hk); (try clear hi); have hnb122 := NB221_203.out; have hnc122 := NB203_221.out; have hnb123 := NB221_217.out; have hnc123 := NB217_221.out; have hcz124_0 : w121.cell? ⟨gb221, 0, none⟩ = some (.int .i64 t218) := (blk_cell BK221.out 0).trans rfl; have hcz124_1 : w121.cell? ⟨gb221, 1, none⟩ = some (.int .i64 t219) := (blk_cell BK221.out 1).trans rfl; have hfz124_0 := blk_frozen BK221.out 0; have hfz124_1 := blk_frozen BK221.out 1; have hcz125_0 : w121.cell? ⟨gb204, 0, none⟩ = some (.int .i64 1) := (blk_cell BK204.out 0).trans rfl; have hcz125_1 : w121.cell? ⟨gb204, 1, none⟩ = some (.int .i64 1) := (blk_cell BK204.out 1).trans rfl; have hfz125_0 := blk_frozen BK204.out 0; have hfz125_1 := blk_frozen BK204.out 1) | (go_at_call 38; (with_reducible refine (score_Compare.calls kj10 t218 t219 1 1 t225 _ A89.out).mono ?_); rintro e w126 ⟨rfl, hb⟩; replace HO_7 := kR HO_7 hb; replace HO_8 := kR HO_8 hb; replace BK203 := kB BK203 hb; replace BK204 := kB BK204 hb; replace BK205 := kB BK205 hb; replace BK209 := kB BK209 hb; replace BK213 := kB BK213 hb; replace BK217 := kB BK217 hb; replace BK221 := kB BK221 hb; replace HB := kH HB hb; (try clear hb); (try clear hb2); (try clear hk); (try clear hi); have hcz127_0 : w126.cell? ⟨gb221, 0, none⟩ = some (.int .i64 t218) := (blk_cell BK221.out 0).trans rfl; have hcz127_1 : w126.cell? ⟨gb221, 1, none⟩ = some (.int .i64 t219) := (blk_cell BK221.out 1).trans rfl; have hfz127_0 := blk_frozen BK221.out 0; have hfz127_1 := blk_frozen BK221.out 1; have hcz128_0 : w126.cell? ⟨gb205, 0, none⟩ = some (.int .i64 0) := (blk_cell BK205.out 0).trans rfl; have hcz128_1 : w126.cell? ⟨gb205, 1, none⟩ = some (.int .i64 1) := (blk_cell BK205.out 1).trans rfl; have hfz128_0 := blk_frozen BK205.out 0; have hfz128_1 := blk_frozen BK205.out 1) | (go_at_call 38; (with_reducible refine (score_Compare.calls kj10 t218 t219 0 1 t226 _ A91.out).mono ?_); rintro e w129 ⟨rfl, hb⟩; replace HO_7 := kR HO_7 hb; replace HO_8 := kR HO_8 hb; replace BK203 := kB BK203 hb; replace BK204 := kB BK204 hb; replace BK205 := kB BK205 hb; replace BK209 := kB BK209 hb; replace BK213 := kB BK213 hb; replace BK217 := kB BK217 hb; replace BK221 := kB BK221 hb; replace HB := kH HB hb; (try clear hb); (try clear hb2); (try clear hk); (try clear hi); have hcz130_0 : w129.cell? ⟨gb213, 0, none⟩ = some (.int .i64 t210) := (blk_cell BK213.out 0).trans rfl; have hcz130_1 : w129.cell? ⟨gb213, 1, none⟩ = some (.int .i64 t211) := (blk_cell BK213.out 1).trans rfl; have hfz130_0 := blk_frozen BK213.out 0; have hfz130_1 := blk_frozen BK213.out 1; have hcz131_0 : w129.cell? ⟨gb205, 0, none⟩ = some (.int .i64 0) := (blk_cell BK205.out 0).trans rfl; have hcz131_1 : w129.cell? ⟨gb205, 1, none⟩ = some (.int .i64 1) := (blk_cell BK205.out 1).trans rfl; have hfz131_0 := blk_frozen BK205.out 0; have hfz131_1 := blk_frozen BK205.out 1) | (go_at_call 38; (with_reducible refine (score_Compare.calls kj10 t210 t211 0 1 t227 _ A93.out).mono ?_); rintro e w132 ⟨rfl, hb⟩; replace HO_7 := kR HO_7 hb; replace HO_8 := kR HO_8 hb; replace BK203 := kB BK203 hb; replace BK204 := kB BK204 hb; replace BK205 := kB BK205 hb; replace BK209 := kB BK209 hb; replace BK213 := kB BK213 hb; replace BK217 := kB BK217 hb; replace BK221 := kB BK221 hb; replace HB := kH HB hb; (try clear hb); (try clear hb2); (try clear hk); (try clear hi)))
               go_meet
               case rel => exact ⟨_, (false), (by first | rfl | (simp; done) | (simp [*]; done)), H', ⟨by have := HJ10.out; first | omega | exact Nat.le_refl _⟩, ⟨by (with_reducible repeat (first | apply Kd.R_alloc | apply Kd.R_drewN | apply Kd.R_drew)); exact HO_7.out⟩, ⟨by (with_reducible repeat (first | apply Kd.R_alloc | apply Kd.R_drewN | apply Kd.R_drew)); exact HO_8.out⟩, ⟨by (with_reducible repeat (first | refine blk_drewN ?_ _ | refine blk_drew ?_ | refine blk_alloc ?_ _)); exact BK203.out⟩, ⟨by (with_reducible repeat (first | refine blk_drewN ?_ _ | refine blk_drew ?_ | refine blk_alloc ?_ _)); exact BK204.out⟩, ⟨by (with_reducible repeat (first | refine blk_drewN ?_ _ | refine blk_drew ?_ | refine blk_alloc ?_ _)); exact BK205.out⟩, ⟨by (with_reducible repeat (first | refine blk_drewN ?_ _ | refine blk_drew ?_ | refine blk_alloc ?_ _)); exact BK209.out⟩, ⟨by (with_reducible repeat (first | refine blk_drewN ?_ _ | refine blk_drew ?_ | refine blk_alloc ?_ _)); exact BK213.out⟩, ⟨by (with_reducible repeat (first | refine blk_drewN ?_ _ | refine blk_drew ?_ | refine blk_alloc ?_ _)); exact BK217.out⟩, ⟨by (with_reducible repeat (first | refine blk_drewN ?_ _ | refine blk_drew ?_ | refine blk_alloc ?_ _)); exact BK221.out⟩, ⟨by repeat (first | (with_reducible first | exact HB.out | apply below_alloc | apply pw_below_drewN | apply below_drew1 | refine below_set ?_ GE203.out | refine below_set ?_ GE204.out | refine below_set ?_ GE205.out | refine below_set ?_ GE209.out | refine below_set ?_ GE213.out | refine below_set ?_ GE217.out | refine below_set ?_ GE221.out) | exact HB.out)⟩⟩
           ·rw [if_neg c88] at H
            have c88b0 : (t220 == 0) = false := beq_eq_false_iff_ne.mpr c88
            have c88b1 : (t220 != 0) = true := bne_iff_ne.mpr c88
            replace H := Option.bind_eq_some_iff.mp H
            obtain ⟨t228, A1330, H⟩ := H
            replace H : (if t228 < 0 then (none) else (synopticlaw38_ScoreBounds.j1 kj10 t187 t194 t216 false t198 t199 t200 t201 1 1 t214 t215)) = some r := H
            have A133 := Aside0.mk A1330
            clear A1330
            by_cases c134 : t228 < 0
            ·rw [if_pos c134] at H
             exact absurd H (by simp)
            ·rw [if_neg c134] at H
             have c134b0 : decide (t228 < 0) = false := decide_eq_false c134
             clear c134
             have H' := Aside0.mk H
             clear H
             have hnb135 := NB209_203.out
             have hnc135 := NB203_209.out
             have hnb136 := NB209_204.out
             have hnc136 := NB204_209.out
             have hnb137 := NB209_205.out
             have hnc137 := NB205_209.out
             have hnb138 := NB209_213.out
             have hnc138 := NB213_209.out
             have hnb139 := NB209_217.out
             have hnc139 := NB217_209.out
             have hnb140 := NB209_221.out
             have hnc140 := NB221_209.out
             have hcz141_0 : w79.cell? ⟨gb209, 0, none⟩ = some (.int .i64 t206) := (blk_cell BK209.out 0).trans rfl
             have hcz141_1 : w79.cell? ⟨gb209, 1, none⟩ = some (.int .i64 t207) := (blk_cell BK209.out 1).trans rfl
             have hfz141_0 := blk_frozen BK209.out 0
             have hfz141_1 := blk_frozen BK209.out 1
             have hnb142 := NB204_203.out
             have hnc142 := NB203_204.out
             have hnb143 := NB204_205.out
             have hnc143 := NB205_204.out
             have hnb144 := NB204_213.out
             have hnc144 := NB213_204.out
             have hnb145 := NB204_217.out
             have hnc145 := NB217_204.out
             have hnb146 := NB204_221.out
             have hnc146 := NB221_204.out
             have hcz147_0 : w79.cell? ⟨gb204, 0, none⟩ = some (.int .i64 1) := (blk_cell BK204.out 0).trans rfl
             have hcz147_1 : w79.cell? ⟨gb204, 1, none⟩ = some (.int .i64 1) := (blk_cell BK204.out 1).trans rfl
             have hfz147_0 := blk_frozen BK204.out 0
             have hfz147_1 := blk_frozen BK204.out 1
             go_wp2_with (first | (go_at_call 38; (with_reducible refine (score_Compare.calls kj10 t206 t207 1 1 t222 _ A81.out).mono ?_); rintro e w148 ⟨rfl, hb⟩; replace HO_7 := kR HO_7 hb; replace HO_8 := kR HO_8 hb; replace BK203 := kB BK203 hb; replace BK204 := kB BK204 hb; replace BK205 := kB BK205 hb; replace BK209 := kB BK209 hb; replace BK213 := kB BK213 hb; replace BK217 := kB BK217 hb; replace BK221 := kB BK221 hb; replace HB := kH HB hb; (try clear hb); (try clear hb2); (try clear hk); (try clear hi); have hcz149_0 : w148.cell? ⟨gb209, 0, none⟩ = some (.int .i64 t206) := (blk_cell BK209.out 0).trans rfl; have hcz149_1 : w148.cell? ⟨gb209, 1, none⟩ = some (.int .i64 t207) := (blk_cell BK209.out 1).trans rfl; have hfz149_0 := blk_frozen BK209.out 0; have hfz149_1 := blk_frozen BK209.out 1; have hnb150 := NB205_203.out; have hnc150 := NB203_205.out; have hnb151 := NB205_213.out; have hnc151 := NB213_205.out; have hnb152 := NB205_217.out; have hnc152 := NB217_205.out; have hnb153 := NB205_221.out; have hnc153 := NB221_205.out; have hcz154_0 : w148.cell? ⟨gb205, 0, none⟩ = some (.int .i64 0) := (blk_cell BK205.out 0).trans rfl; have hcz154_1 : w148.cell? ⟨gb205, 1, none⟩ = some (.int .i64 1) := (blk_cell BK205.out 1).trans rfl; have hfz154_0 := blk_frozen BK205.out 0; have hfz154_1 := blk_frozen BK205.out 1) | (go_at_call 38; (with_reducible refine (score_Compare.calls kj10 t206 t207 0 1 t223 _ A83.out).mono ?_); rintro e w155 ⟨rfl, hb⟩; replace HO_7 := kR HO_7 hb; replace HO_8 := kR HO_8 hb; replace BK203 := kB BK203 hb; replace BK204 := kB BK204 hb; replace BK205 := kB BK205 hb; replace BK209 := kB BK209 hb; replace BK213 := kB BK213 hb; replace BK217 := kB BK217 hb; replace BK221 := kB BK221 hb; replace HB := kH HB hb; (try clear hb); (try clear hb2); (try clear hk); (try clear hi); have hnb156 := NB213_203.out; have hnc156 := NB203_213.out; have hnb157 := NB213_217.out; have hnc157 := NB217_213.out; have hnb158 := NB213_221.out; have hnc158 := NB221_213.out; have hcz159_0 : w155.cell? ⟨gb213, 0, none⟩ = some (.int .i64 t210) := (blk_cell BK213.out 0).trans rfl; have hcz159_1 : w155.cell? ⟨gb213, 1, none⟩ = some (.int .i64 t211) := (blk_cell BK213.out 1).trans rfl; have hfz159_0 := blk_frozen BK213.out 0; have hfz159_1 := blk_frozen BK213.out 1; have hcz160_0 : w155.cell? ⟨gb209, 0, none⟩ = some (.int .i64 t206) := (blk_cell BK209.out 0).trans rfl; have hcz160_1 : w155.cell? ⟨gb209, 1, none⟩ = some (.int .i64 t207) := (blk_cell BK209.out 1).trans rfl; have hfz160_0 := blk_frozen BK209.out 0; have hfz160_1 := blk_frozen BK209.out 1) | (go_at_call 38; (with_reducible refine (score_Compare.calls kj10 t210 t211 t206 t207 t224 _ A86.out).mono ?_); rintro e w161 ⟨rfl, hb⟩; replace HO_7 := kR HO_7 hb; replace HO_8 := kR HO_8 hb; replace BK203 := kB BK203 hb; replace BK204 := kB BK204 hb; replace BK205 := kB BK205 hb; replace BK209 := kB BK209 hb; replace BK213 := kB BK213 hb; replace BK217 := kB BK217 hb; replace BK221 := kB BK221 hb; replace HB := kH HB hb; (try clear hb); (try clear hb2); (try clear hk); (try clear hi); have hcz162_0 : w161.cell? ⟨gb213, 0, none⟩ = some (.int .i64 t210) := (blk_cell BK213.out 0).trans rfl; have hcz162_1 : w161.cell? ⟨gb213, 1, none⟩ = some (.int .i64 t211) := (blk_cell BK213.out 1).trans rfl; have hfz162_0 := blk_frozen BK213.out 0; have hfz162_1 := blk_frozen BK213.out 1; have hcz163_0 : w161.cell? ⟨gb205, 0, none⟩ = some (.int .i64 0) := (blk_cell BK205.out 0).trans rfl; have hcz163_1 : w161.cell? ⟨gb205, 1, none⟩ = some (.int .i64 1) := (blk_cell BK205.out 1).trans rfl; have hfz163_0 := blk_frozen BK205.out 0; have hfz163_1 := blk_frozen BK205.out 1) | (go_at_call 38; (with_reducible refine (score_Compare.calls kj10 t210 t211 0 1 t228 _ A133.out).mono ?_); rintro e w164 ⟨rfl, hb⟩; replace HO_7 := kR HO_7 hb; replace HO_8 := kR HO_8 hb; replace BK203 := kB BK203 hb; replace BK204 := kB BK204 hb; replace BK205 := kB BK205 hb; replace BK209 := kB BK209 hb; replace BK213 := kB BK213 hb; replace BK217 := kB BK217 hb; replace BK221 := kB BK221 hb; replace HB := kH HB hb; (try clear hb); (try clear hb2); (try clear hk); (try clear hi)))
             go_meet
             case rel => exact ⟨_, (false), (by first | rfl | (simp; done) | (simp [*]; done)), H', ⟨by have := HJ10.out; first | omega | exact Nat.le_refl _⟩, ⟨by (with_reducible repeat (first | apply Kd.R_alloc | apply Kd.R_drewN | apply Kd.R_drew)); exact HO_7.out⟩, ⟨by (with_reducible repeat (first | apply Kd.R_alloc | apply Kd.R_drewN | apply Kd.R_drew)); exact HO_8.out⟩, ⟨by (with_reducible repeat (first | refine blk_drewN ?_ _ | refine blk_drew ?_ | refine blk_alloc ?_ _)); exact BK203.out⟩, ⟨by (with_reducible repeat (first | refine blk_drewN ?_ _ | refine blk_drew ?_ | refine blk_alloc ?_ _)); exact BK204.out⟩, ⟨by (with_reducible repeat (first | refine blk_drewN ?_ _ | refine blk_drew ?_ | refine blk_alloc ?_ _)); exact BK205.out⟩, ⟨by (with_reducible repeat (first | refine blk_drewN ?_ _ | refine blk_drew ?_ | refine blk_alloc ?_ _)); exact BK209.out⟩, ⟨by (with_reducible repeat (first | refine blk_drewN ?_ _ | refine blk_drew ?_ | refine blk_alloc ?_ _)); exact BK213.out⟩, ⟨by (with_reducible repeat (first | refine blk_drewN ?_ _ | refine blk_drew ?_ | refine blk_alloc ?_ _)); exact BK217.out⟩, ⟨by (with_reducible repeat (first | refine blk_drewN ?_ _ | refine blk_drew ?_ | refine blk_alloc ?_ _)); exact BK221.out⟩, ⟨by repeat (first | (with_reducible first | exact HB.out | apply below_alloc | apply pw_below_drewN | apply below_drew1 | refine below_set ?_ GE203.out | refine below_set ?_ GE204.out | refine below_set ?_ GE205.out | refine below_set ?_ GE209.out | refine below_set ?_ GE213.out | refine below_set ?_ GE217.out | refine below_set ?_ GE221.out) | exact HB.out)⟩⟩
         ·rw [if_neg c85] at H
          exact absurd H (by simp)
      ·rw [if_neg c80] at H
       have c80b0 : (t208 == 0) = false := beq_eq_false_iff_ne.mpr c80
       have c80b1 : (t208 != 0) = true := bne_iff_ne.mpr c80
       (first | rw [c80b0] | (simp only [i64_w, i32_w]; rw [c80b0]) | skip)
       by_cases c165 : t220 = 0
       ·rw [if_pos c165] at H
        have c165b0 : (t220 == 0) = true := beq_iff_eq.mpr c165
        have c165b1 : (t220 != 0) = false := bne_eq_false_iff_eq.mpr c165
        clear c165
        replace H := Option.bind_eq_some_iff.mp H
        obtain ⟨t229, A1660, H⟩ := H
        replace H : (if t229 > 0 then (none) else ((score_Compare.f kj10 t218 t219 0 1).bind fun t230 => (if t230 < 0 then (none) else (if t212 = 0 then ((score_Compare.f kj10 t210 t211 0 1).bind fun t231 => (if t231 < 0 then (none) else (synopticlaw38_ScoreBounds.j1 kj10 t187 t194 t216 false t198 t199 t200 t201 1 1 t214 t215))) else (synopticlaw38_ScoreBounds.j1 kj10 t187 t194 t216 false t198 t199 t200 t201 1 1 t214 t215))))) = some r := H
        have A166 := Aside0.mk A1660
        clear A1660
        by_cases c167 : t229 > 0
        ·rw [if_pos c167] at H
         exact absurd H (by simp)
        ·rw [if_neg c167] at H
         have c167b0 : decide (0 < t229) = false := decide_eq_false c167
         clear c167
         replace H := Option.bind_eq_some_iff.mp H
         obtain ⟨t230, A1680, H⟩ := H
         replace H : (if t230 < 0 then (none) else (if t212 = 0 then ((score_Compare.f kj10 t210 t211 0 1).bind fun t231 => (if t231 < 0 then (none) else (synopticlaw38_ScoreBounds.j1 kj10 t187 t194 t216 false t198 t199 t200 t201 1 1 t214 t215))) else (synopticlaw38_ScoreBounds.j1 kj10 t187 t194 t216 false t198 t199 t200 t201 1 1 t214 t215))) = some r := H
         have A168 := Aside0.mk A1680
         clear A1680
         by_cases c169 : t230 < 0
         ·rw [if_pos c169] at H
          exact absurd H (by simp)
         ·rw [if_neg c169] at H
          have c169b0 : decide (t230 < 0) = false := decide_eq_false c169
          clear c169
          by_cases c170 : t212 = 0
          ·rw [if_pos c170] at H
           have c170b0 : (t212 == 0) = true := beq_iff_eq.mpr c170
           have c170b1 : (t212 != 0) = false := bne_eq_false_iff_eq.mpr c170
           clear c170
           replace H := Option.bind_eq_some_iff.mp H
           obtain ⟨t231, A1710, H⟩ := H
           replace H : (if t231 < 0 then (none) else (synopticlaw38_ScoreBounds.j1 kj10 t187 t194 t216 false t198 t199 t200 t201 1 1 t214 t215)) = some r := H
           have A171 := Aside0.mk A1710
           clear A1710
           by_cases c172 : t231 < 0
           ·rw [if_pos c172] at H
            exact absurd H (by simp)
           ·rw [if_neg c172] at H
            have c172b0 : decide (t231 < 0) = false := decide_eq_false c172
            clear c172
            have H' := Aside0.mk H
            clear H
            have hnb173 := NB221_203.out
            have hnc173 := NB203_221.out
            have hnb174 := NB221_204.out
            have hnc174 := NB204_221.out
            have hnb175 := NB221_205.out
            have hnc175 := NB205_221.out
            have hnb176 := NB221_209.out
            have hnc176 := NB209_221.out
            have hnb177 := NB221_213.out
            have hnc177 := NB213_221.out
            have hnb178 := NB221_217.out
            have hnc178 := NB217_221.out
            have hcz179_0 : w79.cell? ⟨gb221, 0, none⟩ = some (.int .i64 t218) := (blk_cell BK221.out 0).trans rfl
            have hcz179_1 : w79.cell? ⟨gb221, 1, none⟩ = some (.int .i64 t219) := (blk_cell BK221.out 1).trans rfl
            have hfz179_0 := blk_frozen BK221.out 0
            have hfz179_1 := blk_frozen BK221.out 1
            have hnb180 := NB204_203.out
            have hnc180 := NB203_204.out
            have hnb181 := NB204_205.out
            have hnc181 := NB205_204.out
            have hnb182 := NB204_209.out
            have hnc182 := NB209_204.out
            have hnb183 := NB204_213.out
            have hnc183 := NB213_204.out
            have hnb184 := NB204_217.out
            have hnc184 := NB217_204.out
            have hcz185_0 : w79.cell? ⟨gb204, 0, none⟩ = some (.int .i64 1) := (blk_cell BK204.out 0).trans rfl
            have hcz185_1 : w79.cell? ⟨gb204, 1, none⟩ = some (.int .i64 1) := (blk_cell BK204.out 1).trans rfl
            have hfz185_0 := blk_frozen BK204.out 0
            have hfz185_1 := blk_frozen BK204.out 1
            go_wp2_with (first | (go_at_call 38; (with_reducible refine (score_Compare.calls kj10 t218 t219 1 1 t229 _ A166.out).mono ?_); rintro e w186 ⟨rfl, hb⟩; replace HO_7 := kR HO_7 hb; replace HO_8 := kR HO_8 hb; replace BK203 := kB BK203 hb; replace BK204 := kB BK204 hb; replace BK205 := kB BK205 hb; replace BK209 := kB BK209 hb; replace BK213 := kB BK213 hb; replace BK217 := kB BK217 hb; replace BK221 := kB BK221 hb; replace HB := kH HB hb; (try clear hb); (try clear hb2); (try clear hk); (try clear hi); have hcz187_0 : w186.cell? ⟨gb221, 0, none⟩ = some (.int .i64 t218) := (blk_cell BK221.out 0).trans rfl; have hcz187_1 : w186.cell? ⟨gb221, 1, none⟩ = some (.int .i64 t219) := (blk_cell BK221.out 1).trans rfl; have hfz187_0 := blk_frozen BK221.out 0; have hfz187_1 := blk_frozen BK221.out 1; have hnb188 := NB205_203.out; have hnc188 := NB203_205.out; have hnb189 := NB205_209.out; have hnc189 := NB209_205.out; have hnb190 := NB205_213.out; have hnc190 := NB213_205.out; have hnb191 := NB205_217.out; have hnc191 := NB217_205.out; have hcz192_0 : w186.cell? ⟨gb205, 0, none⟩ = some (.int .i64 0) := (blk_cell BK205.out 0).trans rfl; have hcz192_1 : w186.cell? ⟨gb205, 1, none⟩ = some (.int .i64 1) := (blk_cell BK205.out 1).trans rfl; have hfz192_0 := blk_frozen BK205.out 0; have hfz192_1 := blk_frozen BK205.out 1) | (go_at_call 38; (with_reducible refine (score_Compare.calls kj10 t218 t219 0 1 t230 _ A168.out).mono ?_); rintro e w193 ⟨rfl, hb⟩; replace HO_7 := kR HO_7 hb; replace HO_8 := kR HO_8 hb; replace BK203 := kB BK203 hb; replace BK204 := kB BK204 hb; replace BK205 := kB BK205 hb; replace BK209 := kB BK209 hb; replace BK213 := kB BK213 hb; replace BK217 := kB BK217 hb; replace BK221 := kB BK221 hb; replace HB := kH HB hb; (try clear hb); (try clear hb2); (try clear hk); (try clear hi); have hnb194 := NB213_203.out; have hnc194 := NB203_213.out; have hnb195 := NB213_209.out; have hnc195 := NB209_213.out; have hnb196 := NB213_217.out; have hnc196 := NB217_213.out; have hcz197_0 : w193.cell? ⟨gb213, 0, none⟩ = some (.int .i64 t210) := (blk_cell BK213.out 0).trans rfl; have hcz197_1 : w193.cell? ⟨gb213, 1, none⟩ = some (.int .i64 t211) := (blk_cell BK213.out 1).trans rfl; have hfz197_0 := blk_frozen BK213.out 0; have hfz197_1 := blk_frozen BK213.out 1; have hcz198_0 : w193.cell? ⟨gb205, 0, none⟩ = some (.int .i64 0) := (blk_cell BK205.out 0).trans rfl; have hcz198_1 : w193.cell? ⟨gb205, 1, none⟩ = some (.int .i64 1) := (blk_cell BK205.out 1).trans rfl; have hfz198_0 := blk_frozen BK205.out 0; have hfz198_1 := blk_frozen BK205.out 1) | (go_at_call 38; (with_reducible refine (score_Compare.calls kj10 t210 t211 0 1 t231 _ A171.out).mono ?_); rintro e w199 ⟨rfl, hb⟩; replace HO_7 := kR HO_7 hb; replace HO_8 := kR HO_8 hb; replace BK203 := kB BK203 hb; replace BK204 := kB BK204 hb; replace BK205 := kB BK205 hb; replace BK209 := kB BK209 hb; replace BK213 := kB BK213 hb; replace BK217 := kB BK217 hb; replace BK221 := kB BK221 hb; replace HB := kH HB hb; (try clear hb); (try clear hb2); (try clear hk); (try clear hi)))
            go_meet
            case rel => exact ⟨_, (false), (by first | rfl | (simp; done) | (simp [*]; done)), H', ⟨by have := HJ10.out; first | omega | exact Nat.le_refl _⟩, ⟨by (with_reducible repeat (first | apply Kd.R_alloc | apply Kd.R_drewN | apply Kd.R_drew)); exact HO_7.out⟩, ⟨by (with_reducible repeat (first | apply Kd.R_alloc | apply Kd.R_drewN | apply Kd.R_drew)); exact HO_8.out⟩, ⟨by (with_reducible repeat (first | refine blk_drewN ?_ _ | refine blk_drew ?_ | refine blk_alloc ?_ _)); exact BK203.out⟩, ⟨by (with_reducible repeat (first | refine blk_drewN ?_ _ | refine blk_drew ?_ | refine blk_alloc ?_ _)); exact BK204.out⟩, ⟨by (with_reducible repeat (first | refine blk_drewN ?_ _ | refine blk_drew ?_ | refine blk_alloc ?_ _)); exact BK205.out⟩, ⟨by (with_reducible repeat (first | refine blk_drewN ?_ _ | refine blk_drew ?_ | refine blk_alloc ?_ _)); exact BK209.out⟩, ⟨by (with_reducible repeat (first | refine blk_drewN ?_ _ | refine blk_drew ?_ | refine blk_alloc ?_ _)); exact BK213.out⟩, ⟨by (with_reducible repeat (first | refine blk_drewN ?_ _ | refine blk_drew ?_ | refine blk_alloc ?_ _)); exact BK217.out⟩, ⟨by (with_reducible repeat (first | refine blk_drewN ?_ _ | refine blk_drew ?_ | refine blk_alloc ?_ _)); exact BK221.out⟩, ⟨by repeat (first | (with_reducible first | exact HB.out | apply below_alloc | apply pw_below_drewN | apply below_drew1 | refine below_set ?_ GE203.out | refine below_set ?_ GE204.out | refine below_set ?_ GE205.out | refine below_set ?_ GE209.out | refine below_set ?_ GE213.out | refine below_set ?_ GE217.out | refine below_set ?_ GE221.out) | exact HB.out)⟩⟩
          ·rw [if_neg c170] at H
           have c170b0 : (t212 == 0) = false := beq_eq_false_iff_ne.mpr c170
           have c170b1 : (t212 != 0) = true := bne_iff_ne.mpr c170
           have H' := Aside0.mk H
           clear H
           have hnb200 := NB221_203.out
           have hnc200 := NB203_221.out
           have hnb201 := NB221_204.out
           have hnc201 := NB204_221.out
           have hnb202 := NB221_205.out
           have hnc202 := NB205_221.out
           have hnb203 := NB221_209.out
           have hnc203 := NB209_221.out
           have hnb204 := NB221_213.out
           have hnc204 := NB213_221.out
           have hnb205 := NB221_217.out
           have hnc205 := NB217_221.out
           have hcz206_0 : w79.cell? ⟨gb221, 0, none⟩ = some (.int .i64 t218) := (blk_cell BK221.out 0).trans rfl
           have hcz206_1 : w79.cell? ⟨gb221, 1, none⟩ = some (.int .i64 t219) := (blk_cell BK221.out 1).trans rfl
           have hfz206_0 := blk_frozen BK221.out 0
           have hfz206_1 := blk_frozen BK221.out 1
           have hnb207 := NB204_203.out
           have hnc207 := NB203_204.out
           have hnb208 := NB204_205.out
           have hnc208 := NB205_204.out
           have hnb209 := NB204_209.out
           have hnc209 := NB209_204.out
           have hnb210 := NB204_213.out
           have hnc210 := NB213_204.out
           have hnb211 := NB204_217.out
           have hnc211 := NB217_204.out
           have hcz212_0 : w79.cell? ⟨gb204, 0, none⟩ = some (.int .i64 1) := (blk_cell BK204.out 0).trans rfl
           have hcz212_1 : w79.cell? ⟨gb204, 1, none⟩ = some (.int .i64 1) := (blk_cell BK204.out 1).trans rfl
           have hfz212_0 := blk_frozen BK204.out 0
           have hfz212_1 := blk_frozen BK204.out 1
           go_wp2_with (first | (go_at_call 38; (with_reducible refine (score_Compare.calls kj10 t218 t219 1 1 t229 _ A166.out).mono ?_); rintro e w213 ⟨rfl, hb⟩; replace HO_7 := kR HO_7 hb; replace HO_8 := kR HO_8 hb; replace BK203 := kB BK203 hb; replace BK204 := kB BK204 hb; replace BK205 := kB BK205 hb; replace BK209 := kB BK209 hb; replace BK213 := kB BK213 hb; replace BK217 := kB BK217 hb; replace BK221 := kB BK221 hb; replace HB := kH HB hb; (try clear hb); (try clear hb2); (try clear hk); (try clear hi); have hcz214_0 : w213.cell? ⟨gb221, 0, none⟩ = some (.int .i64 t218) := (blk_cell BK221.out 0).trans rfl; have hcz214_1 : w213.cell? ⟨gb221, 1, none⟩ = some (.int .i64 t219) := (blk_cell BK221.out 1).trans rfl; have hfz214_0 := blk_frozen BK221.out 0; have hfz214_1 := blk_frozen BK221.out 1; have hnb215 := NB205_203.out; have hnc215 := NB203_205.out; have hnb216 := NB205_209.out; have hnc216 := NB209_205.out; have hnb217 := NB205_213.out; have hnc217 := NB213_205.out; have hnb218 := NB205_217.out; have hnc218 := NB217_205.out; have hcz219_0 : w213.cell? ⟨gb205, 0, none⟩ = some (.int .i64 0) := (blk_cell BK205.out 0).trans rfl; have hcz219_1 : w213.cell? ⟨gb205, 1, none⟩ = some (.int .i64 1) := (blk_cell BK205.out 1).trans rfl; have hfz219_0 := blk_frozen BK205.out 0; have hfz219_1 := blk_frozen BK205.out 1) | (go_at_call 38; (with_reducible refine (score_Compare.calls kj10 t218 t219 0 1 t230 _ A168.out).mono ?_); rintro e w220 ⟨rfl, hb⟩; replace HO_7 := kR HO_7 hb; replace HO_8 := kR HO_8 hb; replace BK203 := kB BK203 hb; replace BK204 := kB BK204 hb; replace BK205 := kB BK205 hb; replace BK209 := kB BK209 hb; replace BK213 := kB BK213 hb; replace BK217 := kB BK217 hb; replace BK221 := kB BK221 hb; replace HB := kH HB hb; (try clear hb); (try clear hb2); (try clear hk); (try clear hi)))
           go_meet
           case rel => exact ⟨_, (false), (by first | rfl | (simp; done) | (simp [*]; done)), H', ⟨by have := HJ10.out; first | omega | exact Nat.le_refl _⟩, ⟨by (with_reducible repeat (first | apply Kd.R_alloc | apply Kd.R_drewN | apply Kd.R_drew)); exact HO_7.out⟩, ⟨by (with_reducible repeat (first | apply Kd.R_alloc | apply Kd.R_drewN | apply Kd.R_drew)); exact HO_8.out⟩, ⟨by (with_reducible repeat (first | refine blk_drewN ?_ _ | refine blk_drew ?_ | refine blk_alloc ?_ _)); exact BK203.out⟩, ⟨by (with_reducible repeat (first | refine blk_drewN ?_ _ | refine blk_drew ?_ | refine blk_alloc ?_ _)); exact BK204.out⟩, ⟨by (with_reducible repeat (first | refine blk_drewN ?_ _ | refine blk_drew ?_ | refine blk_alloc ?_ _)); exact BK205.out⟩, ⟨by (with_reducible repeat (first | refine blk_drewN ?_ _ | refine blk_drew ?_ | refine blk_alloc ?_ _)); exact BK209.out⟩, ⟨by (with_reducible repeat (first | refine blk_drewN ?_ _ | refine blk_drew ?_ | refine blk_alloc ?_ _)); exact BK213.out⟩, ⟨by (with_reducible repeat (first | refine blk_drewN ?_ _ | refine blk_drew ?_ | refine blk_alloc ?_ _)); exact BK217.out⟩, ⟨by (with_reducible repeat (first | refine blk_drewN ?_ _ | refine blk_drew ?_ | refine blk_alloc ?_ _)); exact BK221.out⟩, ⟨by repeat (first | (with_reducible first | exact HB.out | apply below_alloc | apply pw_below_drewN | apply below_drew1 | refine below_set ?_ GE203.out | refine below_set ?_ GE204.out | refine below_set ?_ GE205.out | refine below_set ?_ GE209.out | refine below_set ?_ GE213.out | refine below_set ?_ GE217.out | refine below_set ?_ GE221.out) | exact HB.out)⟩⟩
       ·rw [if_neg c165] at H
        have c165b0 : (t220 == 0) = false := beq_eq_false_iff_ne.mpr c165
        have c165b1 : (t220 != 0) = true := bne_iff_ne.mpr c165
        by_cases c221 : t212 = 0
        ·rw [if_pos c221] at H
         have c221b0 : (t212 == 0) = true := beq_iff_eq.mpr c221
         have c221b1 : (t212 != 0) = false := bne_eq_false_iff_eq.mpr c221
         clear c221
         replace H := Option.bind_eq_some_iff.mp H
         obtain ⟨t232, A2220, H⟩ := H
         replace H : (if t232 < 0 then (none) else (synopticlaw38_ScoreBounds.j1 kj10 t187 t194 t216 false t198 t199 t200 t201 1 1 t214 t215)) = some r := H
         have A222 := Aside0.mk A2220
         clear A2220
         by_cases c223 : t232 < 0
         ·rw [if_pos c223] at H
          exact absurd H (by simp)
         ·rw [if_neg c223] at H
          have c223b0 : decide (t232 < 0) = false := decide_eq_false c223
          clear c223
          have H' := Aside0.mk H
          clear H
          have hnb224 := NB213_203.out
          have hnc224 := NB203_213.out
          have hnb225 := NB213_204.out
          have hnc225 := NB204_213.out
          have hnb226 := NB213_205.out
          have hnc226 := NB205_213.out
          have hnb227 := NB213_209.out
          have hnc227 := NB209_213.out
          have hnb228 := NB213_217.out
          have hnc228 := NB217_213.out
          have hnb229 := NB213_221.out
          have hnc229 := NB221_213.out
          have hcz230_0 : w79.cell? ⟨gb213, 0, none⟩ = some (.int .i64 t210) := (blk_cell BK213.out 0).trans rfl
          have hcz230_1 : w79.cell? ⟨gb213, 1, none⟩ = some (.int .i64 t211) := (blk_cell BK213.out 1).trans rfl
          have hfz230_0 := blk_frozen BK213.out 0
          have hfz230_1 := blk_frozen BK213.out 1
          have hnb231 := NB205_203.out
          have hnc231 := NB203_205.out
          have hnb232 := NB205_204.out
          have hnc232 := NB204_205.out
          have hnb233 := NB205_209.out
          have hnc233 := NB209_205.out
          have hnb234 := NB205_217.out
          have hnc234 := NB217_205.out
          have hnb235 := NB205_221.out
          have hnc235 := NB221_205.out
          have hcz236_0 : w79.cell? ⟨gb205, 0, none⟩ = some (.int .i64 0) := (blk_cell BK205.out 0).trans rfl
          have hcz236_1 : w79.cell? ⟨gb205, 1, none⟩ = some (.int .i64 1) := (blk_cell BK205.out 1).trans rfl
          have hfz236_0 := blk_frozen BK205.out 0
          have hfz236_1 := blk_frozen BK205.out 1
          go_wp2_with (first | (go_at_call 38; (with_reducible refine (score_Compare.calls kj10 t210 t211 0 1 t232 _ A222.out).mono ?_); rintro e w237 ⟨rfl, hb⟩; replace HO_7 := kR HO_7 hb; replace HO_8 := kR HO_8 hb; replace BK203 := kB BK203 hb; replace BK204 := kB BK204 hb; replace BK205 := kB BK205 hb; replace BK209 := kB BK209 hb; replace BK213 := kB BK213 hb; replace BK217 := kB BK217 hb; replace BK221 := kB BK221 hb; replace HB := kH HB hb; (try clear hb); (try clear hb2); (try clear hk); (try clear hi)))
          go_meet
          case rel => exact ⟨_, (false), (by first | rfl | (simp; done) | (simp [*]; done)), H', ⟨by have := HJ10.out; first | omega | exact Nat.le_refl _⟩, ⟨by (with_reducible repeat (first | apply Kd.R_alloc | apply Kd.R_drewN | apply Kd.R_drew)); exact HO_7.out⟩, ⟨by (with_reducible repeat (first | apply Kd.R_alloc | apply Kd.R_drewN | apply Kd.R_drew)); exact HO_8.out⟩, ⟨by (with_reducible repeat (first | refine blk_drewN ?_ _ | refine blk_drew ?_ | refine blk_alloc ?_ _)); exact BK203.out⟩, ⟨by (with_reducible repeat (first | refine blk_drewN ?_ _ | refine blk_drew ?_ | refine blk_alloc ?_ _)); exact BK204.out⟩, ⟨by (with_reducible repeat (first | refine blk_drewN ?_ _ | refine blk_drew ?_ | refine blk_alloc ?_ _)); exact BK205.out⟩, ⟨by (with_reducible repeat (first | refine blk_drewN ?_ _ | refine blk_drew ?_ | refine blk_alloc ?_ _)); exact BK209.out⟩, ⟨by (with_reducible repeat (first | refine blk_drewN ?_ _ | refine blk_drew ?_ | refine blk_alloc ?_ _)); exact BK213.out⟩, ⟨by (with_reducible repeat (first | refine blk_drewN ?_ _ | refine blk_drew ?_ | refine blk_alloc ?_ _)); exact BK217.out⟩, ⟨by (with_reducible repeat (first | refine blk_drewN ?_ _ | refine blk_drew ?_ | refine blk_alloc ?_ _)); exact BK221.out⟩, ⟨by repeat (first | (with_reducible first | exact HB.out | apply below_alloc | apply pw_below_drewN | apply below_drew1 | refine below_set ?_ GE203.out | refine below_set ?_ GE204.out | refine below_set ?_ GE205.out | refine below_set ?_ GE209.out | refine below_set ?_ GE213.out | refine below_set ?_ GE217.out | refine below_set ?_ GE221.out) | exact HB.out)⟩⟩
        ·rw [if_neg c221] at H
         have c221b0 : (t212 == 0) = false := beq_eq_false_iff_ne.mpr c221
         have c221b1 : (t212 != 0) = true := bne_iff_ne.mpr c221
         have H' := Aside0.mk H
         clear H
         go_wp2
         go_meet
         case rel => exact ⟨_, (false), (by first | rfl | (simp; done) | (simp [*]; done)), H', ⟨by have := HJ10.out; first | omega | exact Nat.le_refl _⟩, ⟨by (with_reducible repeat (first | apply Kd.R_alloc | apply Kd.R_drewN | apply Kd.R_drew)); exact HO_7.out⟩, ⟨by (with_reducible repeat (first | apply Kd.R_alloc | apply Kd.R_drewN | apply Kd.R_drew)); exact HO_8.out⟩, ⟨by (with_reducible repeat (first | refine blk_drewN ?_ _ | refine blk_drew ?_ | refine blk_alloc ?_ _)); exact BK203.out⟩, ⟨by (with_reducible repeat (first | refine blk_drewN ?_ _ | refine blk_drew ?_ | refine blk_alloc ?_ _)); exact BK204.out⟩, ⟨by (with_reducible repeat (first | refine blk_drewN ?_ _ | refine blk_drew ?_ | refine blk_alloc ?_ _)); exact BK205.out⟩, ⟨by (with_reducible repeat (first | refine blk_drewN ?_ _ | refine blk_drew ?_ | refine blk_alloc ?_ _)); exact BK209.out⟩, ⟨by (with_reducible repeat (first | refine blk_drewN ?_ _ | refine blk_drew ?_ | refine blk_alloc ?_ _)); exact BK213.out⟩, ⟨by (with_reducible repeat (first | refine blk_drewN ?_ _ | refine blk_drew ?_ | refine blk_alloc ?_ _)); exact BK217.out⟩, ⟨by (with_reducible repeat (first | refine blk_drewN ?_ _ | refine blk_drew ?_ | refine blk_alloc ?_ _)); exact BK221.out⟩, ⟨by repeat (first | (with_reducible first | exact HB.out | apply below_alloc | apply pw_below_drewN | apply below_drew1 | refine below_set ?_ GE203.out | refine below_set ?_ GE204.out | refine below_set ?_ GE205.out | refine below_set ?_ GE209.out | refine below_set ?_ GE213.out | refine below_set ?_ GE217.out | refine below_set ?_ GE221.out) | exact HB.out)⟩⟩
     case rest => as_aux_lemma =>
      clear HC32
      (try clear c1); (try clear c2); (try clear p2); (try clear c3); (try clear c4); (try clear c5); (try clear c6); (try clear p6); (try clear c7); (try clear c8); (try clear c9); (try clear c10); (try clear c11); (try clear c12); (try clear c13); (try clear c14); (try clear c15); (try clear c16); (try clear c17); (try clear c18); (try clear c19); (try clear c20); (try clear c21); (try clear c22)
      (try clear c23); (try clear c23b0); (try clear c23b1); (try clear c24); (try clear c24b0); (try clear c24b1); (try clear c24b2); (try clear c25); (try clear c27); (try clear c35); (try clear c36); (try clear c39); (try clear c45); (try clear c46); (try clear c47); (try clear c53); (try clear c54); (try clear c55); (try clear c56); (try clear c62); (try clear c63); (try clear c64); (try clear p64)
      (try clear c65); (try clear c66); (try clear c72); (try clear c73); (try clear c74); (try clear c75); (try clear c76); (try clear c77); (try clear c80); (try clear c80b0); (try clear c80b1); (try clear c82); (try clear c82b0); (try clear c84); (try clear c84b0); (try clear c85); (try clear c85b0); (try clear c85b1); (try clear c87); (try clear c87b0); (try clear c88); (try clear c88b0)
      (try clear c88b1); (try clear c90); (try clear c90b0); (try clear c92); (try clear c92b0); (try clear c94); (try clear c94b0); (try clear c95); (try clear c96); (try clear c97); (try clear c98); (try clear c99); (try clear c100); (try clear c102); (try clear c103); (try clear c104); (try clear c105); (try clear c106); (try clear c110); (try clear c111); (try clear c112); (try clear c113)
      (try clear c116); (try clear c117); (try clear c118); (try clear c122); (try clear c123); (try clear c134); (try clear c134b0); (try clear c135); (try clear c136); (try clear c137); (try clear c138); (try clear c139); (try clear c140); (try clear c142); (try clear c143); (try clear c144); (try clear c145); (try clear c146); (try clear c150); (try clear c151); (try clear c152); (try clear c153)
      (try clear c156); (try clear c157); (try clear c158); (try clear c165); (try clear c165b0); (try clear c165b1); (try clear c167); (try clear c167b0); (try clear c169); (try clear c169b0); (try clear c170); (try clear c170b0); (try clear c170b1); (try clear c172); (try clear c172b0); (try clear c173); (try clear c174); (try clear c175); (try clear c176); (try clear c177); (try clear c178)
      (try clear c180); (try clear c181); (try clear c182); (try clear c183); (try clear c184); (try clear c188); (try clear c189); (try clear c190); (try clear c191); (try clear c194); (try clear c195); (try clear c196); (try clear c200); (try clear c201); (try clear c202); (try clear c203); (try clear c204); (try clear c205); (try clear c207); (try clear c208); (try clear c209); (try clear c210)
      (try clear c211); (try clear c215); (try clear c216); (try clear c217); (try clear c218); (try clear c221); (try clear c221b0); (try clear c221b1); (try clear c223); (try clear c223b0); (try clear c224); (try clear c225); (try clear c226); (try clear c227); (try clear c228); (try clear c229); (try clear c231); (try clear c232); (try clear c233); (try clear c234); (try clear c235); (try clear hcz101_0)
      (try clear hcz101_1); (try clear hcz107_0); (try clear hcz107_1); (try clear hcz109_0); (try clear hcz109_1); (try clear hcz114_0); (try clear hcz114_1); (try clear hcz119_0); (try clear hcz119_1); (try clear hcz120_0); (try clear hcz120_1); (try clear hcz124_0); (try clear hcz124_1); (try clear hcz125_0); (try clear hcz125_1); (try clear hcz127_0); (try clear hcz127_1); (try clear hcz128_0)
      (try clear hcz128_1); (try clear hcz130_0); (try clear hcz130_1); (try clear hcz131_0); (try clear hcz131_1); (try clear hcz141_0); (try clear hcz141_1); (try clear hcz147_0); (try clear hcz147_1); (try clear hcz149_0); (try clear hcz149_1); (try clear hcz154_0); (try clear hcz154_1); (try clear hcz159_0); (try clear hcz159_1); (try clear hcz160_0); (try clear hcz160_1); (try clear hcz162_0)
      (try clear hcz162_1); (try clear hcz163_0); (try clear hcz163_1); (try clear hcz179_0); (try clear hcz179_1); (try clear hcz185_0); (try clear hcz185_1); (try clear hcz187_0); (try clear hcz187_1); (try clear hcz192_0); (try clear hcz192_1); (try clear hcz197_0); (try clear hcz197_1); (try clear hcz198_0); (try clear hcz198_1); (try clear hcz206_0); (try clear hcz206_1); (try clear hcz212_0)
      (try clear hcz212_1); (try clear hcz214_0); (try clear hcz214_1); (try clear hcz219_0); (try clear hcz219_1); (try clear hcz21_0); (try clear hcz21_1); (try clear hcz21_2); (try clear hcz21_3); (try clear hcz230_0); (try clear hcz230_1); (try clear hcz236_0); (try clear hcz236_1); (try clear hcz26_0); (try clear hcz26_1); (try clear hcz26_2); (try clear hcz26_3); (try clear hcz37_0); (try clear hcz37_1)
      (try clear hcz40_0); (try clear hcz40_1); (try clear hcz42_0); (try clear hcz42_1); (try clear hcz42_2); (try clear hcz42_3); (try clear hcz48_0); (try clear hcz48_1); (try clear hcz50_0); (try clear hcz50_1); (try clear hcz50_2); (try clear hcz50_3); (try clear hcz57_0); (try clear hcz57_1); (try clear hcz59_0); (try clear hcz59_1); (try clear hcz59_2); (try clear hcz59_3); (try clear hcz67_0)
      (try clear hcz67_1); (try clear hcz69_0); (try clear hcz69_1); (try clear hcz69_2); (try clear hcz69_3); (try clear hcz78_0); (try clear hcz78_1); (try clear hfz101_0); (try clear hfz101_1); (try clear hfz107_0); (try clear hfz107_1); (try clear hfz109_0); (try clear hfz109_1); (try clear hfz114_0); (try clear hfz114_1); (try clear hfz119_0); (try clear hfz119_1); (try clear hfz120_0); (try clear hfz120_1)
      (try clear hfz124_0); (try clear hfz124_1); (try clear hfz125_0); (try clear hfz125_1); (try clear hfz127_0); (try clear hfz127_1); (try clear hfz128_0); (try clear hfz128_1); (try clear hfz130_0); (try clear hfz130_1); (try clear hfz131_0); (try clear hfz131_1); (try clear hfz141_0); (try clear hfz141_1); (try clear hfz147_0); (try clear hfz147_1); (try clear hfz149_0); (try clear hfz149_1)
      (try clear hfz154_0); (try clear hfz154_1); (try clear hfz159_0); (try clear hfz159_1); (try clear hfz160_0); (try clear hfz160_1); (try clear hfz162_0); (try clear hfz162_1); (try clear hfz163_0); (try clear hfz163_1); (try clear hfz179_0); (try clear hfz179_1); (try clear hfz185_0); (try clear hfz185_1); (try clear hfz187_0); (try clear hfz187_1); (try clear hfz192_0); (try clear hfz192_1)
      (try clear hfz197_0); (try clear hfz197_1); (try clear hfz198_0); (try clear hfz198_1); (try clear hfz206_0); (try clear hfz206_1); (try clear hfz212_0); (try clear hfz212_1); (try clear hfz214_0); (try clear hfz214_1); (try clear hfz219_0); (try clear hfz219_1); (try clear hfz21_0); (try clear hfz21_1); (try clear hfz21_2); (try clear hfz21_3); (try clear hfz230_0); (try clear hfz230_1)
      (try clear hfz236_0); (try clear hfz236_1); (try clear hfz26_0); (try clear hfz26_1); (try clear hfz26_2); (try clear hfz26_3); (try clear hfz37_0); (try clear hfz37_1); (try clear hfz40_0); (try clear hfz40_1); (try clear hfz42_0); (try clear hfz42_1); (try clear hfz42_2); (try clear hfz42_3); (try clear hfz48_0); (try clear hfz48_1); (try clear hfz50_0); (try clear hfz50_1); (try clear hfz50_2)
      (try clear hfz50_3); (try clear hfz57_0); (try clear hfz57_1); (try clear hfz59_0); (try clear hfz59_1); (try clear hfz59_2); (try clear hfz59_3); (try clear hfz67_0); (try clear hfz67_1); (try clear hfz69_0); (try clear hfz69_1); (try clear hfz69_2); (try clear hfz69_3); (try clear hfz78_0); (try clear hfz78_1); (try clear p2); (try clear p6)
      obtain ⟨kq, x130_31, rfl, HA, HJ31, HO_7, HO_8, BK203, BK204, BK205, BK209, BK213, BK217, BK221, HB⟩ := hcut
      cases kq with
      | zero => exact absurd HA.out (by simp [synopticlaw38_ScoreBounds.j1])
      | succ kj31 =>
       have H := HA.out
       clear HA
       simp only [synopticlaw38_ScoreBounds.j1] at H
       by_cases c238 : x130_31 = true
       ·subst c238
        have H1 : (none) = some r := by rw [if_pos rfl] at H; exact H
        clear H
        have H := H1
        clear H1
        exact absurd H (by simp)
       ·replace c238 := Bool.eq_false_iff.mpr c238
        subst c238
        have H1 : (if t216 = 0 then ((score_Compare.f kj31 t214 t215 1 1).bind fun t233 => (if t233 > 0 then (none) else ((score_Compare.f kj31 t214 t215 (-1) 1).bind fun t234 => (if t234 < 0 then (none) else (if t199 = 0 then (if ((t214 == 1 && (t215 == 1)) != (t200 == 0)) = true then (none) else (synopticlaw38_ScoreBounds.j2 kj31 t187 t194 false 1 1)) else (if ((t214 == 1 && (t215 == 1)) != false) = true then (none) else (synopticlaw38_ScoreBounds.j2 kj31 t187 t194 false 1 1))))))) else (synopticlaw38_ScoreBounds.j2 kj31 t187 t194 false 1 1)) = some r := by rw [if_neg (show ¬ (false = true) by decide)] at H; exact H
        clear H
        have H := H1
        clear H1
        have HC239 := Aside0.mk H
        clear H
        go_upto_region 14 with (fail)
        go_cut [158] (fun v158 wc => ∃ (kq : Nat) (x158_238 : Bool), v158 = .bool x158_238 ∧ Aside0 (synopticlaw38_ScoreBounds.j2 kq t187 t194 x158_238 1 1 = some r) ∧ Aside0 (kq ≤ kj31) ∧ Aside0 (Kd.R k40 40 wc w.heap.size (fun k_ => some k_ ≠ (v195 : Value).ownBlock) (.slice Ao17 t187.length co17) t187) ∧ Aside0 (Kd.R k40 40 wc w.heap.size (fun k_ => some k_ ≠ ((.slice Ao17 t187.length co17) : Value).ownBlock) v195 t194) ∧ Aside0 (wc.heap[gb203]? = some (.cells #[.int .i64 t198, .int .i64 t199, .int .i64 t200, .int .i64 t201] 23 (0, 0))) ∧ Aside0 (wc.heap[gb204]? = some (.cells #[.int .i64 1, .int .i64 1] 28 (0, 0))) ∧ Aside0 (wc.heap[gb205]? = some (.cells #[.int .i64 0, .int .i64 1] 28 (0, 0))) ∧ Aside0 (wc.heap[gb209]? = some (.cells #[.int .i64 t206, .int .i64 t207] 28 (0, 0))) ∧ Aside0 (wc.heap[gb213]? = some (.cells #[.int .i64 t210, .int .i64 t211] 28 (0, 0))) ∧ Aside0 (wc.heap[gb217]? = some (.cells #[.int .i64 t214, .int .i64 t215] 28 (0, 0))) ∧ Aside0 (wc.heap[gb221]? = some (.cells #[.int .i64 t218, .int .i64 t219] 28 (0, 0))) ∧ Aside0 (Below w.heap.size w wc))
        case first => as_aux_lemma =>
         have H := HC239.out
         clear HC239
         by_cases c240 : t216 = 0
         ·rw [if_pos c240] at H
          have c240b0 : (t216 == 0) = true := beq_iff_eq.mpr c240
          have c240b1 : (t216 != 0) = false := bne_eq_false_iff_eq.mpr c240
          clear c240
          (first | rw [c240b0] | (simp only [i64_w, i32_w]; rw [c240b0]) | skip)
          replace H := Option.bind_eq_some_iff.mp H
          obtain ⟨t233, A2410, H⟩ := H
          replace H : (if t233 > 0 then (none) else ((score_Compare.f kj31 t214 t215 (-1) 1).bind fun t234 => (if t234 < 0 then (none) else (if t199 = 0 then (if ((t214 == 1 && (t215 == 1)) != (t200 == 0)) = true then (none) else (synopticlaw38_ScoreBounds.j2 kj31 t187 t194 false 1 1)) else (if ((t214 == 1 && (t215 == 1)) != false) = true then (none) else (synopticlaw38_ScoreBounds.j2 kj31 t187 t194 false 1 1)))))) = some r := H
          have A241 := Aside0.mk A2410
          clear A2410
          by_cases c242 : t233 > 0
          ·rw [if_pos c242] at H
           have c242b0 : decide (0 < t233) = true := decide_eq_true c242
           clear c242
           exact absurd H (by simp)
          ·rw [if_neg c242] at H
           have c242b0 : decide (0 < t233) = false := decide_eq_false c242
           clear c242
           replace H := Option.bind_eq_some_iff.mp H
           obtain ⟨t234, A2430, H⟩ := H
           replace H : (if t234 < 0 then (none) else (if t199 = 0 then (if ((t214 == 1 && (t215 == 1)) != (t200 == 0)) = true then (none) else (synopticlaw38_ScoreBounds.j2 kj31 t187 t194 false 1 1)) else (if ((t214 == 1 && (t215 == 1)) != false) = true then (none) else (synopticlaw38_ScoreBounds.j2 kj31 t187 t194 false 1 1)))) = some r := H
           have A243 := Aside0.mk A2430
           clear A2430
           by_cases c244 : t234 < 0
           ·rw [if_pos c244] at H
            have c244b0 : decide (t234 < 0) = true := decide_eq_true c244
            clear c244
            exact absurd H (by simp)
           ·rw [if_neg c244] at H
            have c244b0 : decide (t234 < 0) = false := decide_eq_false c244
            clear c244
            by_cases c245 : t199 = 0
            ·rw [if_pos c245] at H
             have c245b0 : (t199 == 0) = true := beq_iff_eq.mpr c245
             have c245b1 : (t199 != 0) = false := bne_eq_false_iff_eq.mpr c245
             clear c245
             by_cases c246 : ((t214 == 1 && (t215 == 1)) != (t200 == 0)) = true
             ·rw [if_pos c246] at H
              exact absurd H (by simp)
             ·rw [if_neg c246] at H
              have c246b0 : ((t214 == 1 && (t215 == 1)) != (t200 == 0)) = false := by simpa using c246
              (try (have c246b1 : decide ((t214 == 1 && (t215 == 1)) = (t200 == 0)) = true := by simpa using c246))
              (try (have c246b2 : ((t214 == 1 && (t215 == 1)) == (t200 == 0)) = true := by simpa using c246))
              clear c246
              have H' := Aside0.mk H
              clear H
              try go_wp2
              replace HO_7 := Aside0.mk (Kd.R_drew HO_7.out); replace HO_8 := Aside0.mk (Kd.R_drew HO_8.out); replace BK203 := Aside0.mk (blk_drew BK203.out); replace BK204 := Aside0.mk (blk_drew BK204.out); replace BK205 := Aside0.mk (blk_drew BK205.out); replace BK209 := Aside0.mk (blk_drew BK209.out); replace BK213 := Aside0.mk (blk_drew BK213.out); replace BK217 := Aside0.mk (blk_drew BK217.out); replace BK221 := Aside0.mk (blk_drew BK221.out); replace HB := Aside0.mk (below_drew1 HB.out)
              refine start_ (n := 28) (S := fun w' => w'.cell? ⟨gb217, 0, none⟩ = some (.int .i64 t214) ∧ w'.cell? ⟨gb217, 1, none⟩ = some (.int .i64 t215) ∧ w'.cell? ⟨gb204, 0, none⟩ = some (.int .i64 1) ∧ w'.cell? ⟨gb204, 1, none⟩ = some (.int .i64 1) ∧ w'.cell? ⟨gb203, 0, none⟩ = some (.int .i64 t198) ∧ w'.cell? ⟨gb203, 1, none⟩ = some (.int .i64 t199) ∧ w'.cell? ⟨gb203, 2, none⟩ = some (.int .i64 t200) ∧ w'.cell? ⟨gb203, 3, none⟩ = some (.int .i64 t201)) (ds := []) mB0 (by kernel_rfl) rfl rfl ⟨(blk_cell BK217.out 0).trans rfl, (blk_cell BK217.out 1).trans rfl, (blk_cell BK204.out 0).trans rfl, (blk_cell BK204.out 1).trans rfl, (blk_cell BK203.out 0).trans rfl, (blk_cell BK203.out 1).trans rfl, (blk_cell BK203.out 2).trans rfl, (blk_cell BK203.out 3).trans rfl⟩ (fun hHeld => ?_); refine with_tabW synopticlaw38_ScoreBounds.tab14 synopticlaw38_ScoreBounds.bits14 (fun HT_ HW_ => ?_)
              generalize wc.drew = w247 at HO_7 HO_8 BK203 BK204 BK205 BK209 BK213 BK217 BK221 HB hHeld ⊢
              refine pure_ (i := 0) (N := some 131) (v := ?_) (a' := ?_) mB1 rfl rfl (any_of HT_.out (by kernel_rfl)) (fun _ _ _ h => h) (Or.inl ⟨by rfl, ?_⟩) ?_ ?_; rotate_left; (intro w'; go_simp; with_reducible rfl); rotate_left; (simp only [Act.put, List.setIfInBounds_toArray, List.set_cons_zero, List.set_cons_succ, i64_w, i32_w]; rfl)
              refine pure_ (i := 1) (N := some 132) (v := ?_) (a' := ?_) mB2 rfl rfl (any_of HT_.out (by kernel_rfl)) (fun _ _ _ h => h) (Or.inl ⟨by rfl, ?_⟩) ?_ ?_; rotate_left; (intro w'; go_simp; with_reducible rfl); rotate_left; (simp only [Act.put, List.setIfInBounds_toArray, List.set_cons_zero, List.set_cons_succ, i64_w, i32_w]; rfl)
              refine pure_ (i := 2) (N := some 133) (v := ?_) (a' := ?_) mB3 rfl rfl (any_of HT_.out (by kernel_rfl)) (fun _ _ _ h => h) (Or.inl ⟨by rfl, ?_⟩) ?_ ?_; rotate_left; (intro w'; go_simp; with_reducible rfl); rotate_left; (simp only [Act.put, List.setIfInBounds_toArray, List.set_cons_zero, List.set_cons_succ, i64_w, i32_w]; rfl)
              refine take_ (i := 3) (N := some 134) (v := ?_) (a' := ?_) mB4 rfl rfl (take_ofW HT_.out HW_.out (by kernel_rfl)) (fun _ _ _ h => h) (Or.inl ⟨by rfl, ?_⟩) hHeld ?_ ?_; rotate_left; (rintro w' ⟨s0, s1, s2, s3, s4, s5, s6, s7⟩; go_simp; with_reducible rfl); rotate_left; (simp only [Act.put, List.setIfInBounds_toArray, List.set_cons_zero, List.set_cons_succ, i64_w, i32_w]; rfl)
              refine take_ (i := 4) (N := some 135) (v := ?_) (a' := ?_) mB5 rfl rfl (take_ofW HT_.out HW_.out (by kernel_rfl)) (fun _ _ _ h => h) (Or.inl ⟨by rfl, ?_⟩) hHeld ?_ ?_; rotate_left; (rintro w' ⟨s0, s1, s2, s3, s4, s5, s6, s7⟩; go_simp; with_reducible rfl); rotate_left; (simp only [Act.put, List.setIfInBounds_toArray, List.set_cons_zero, List.set_cons_succ, i64_w, i32_w]; rfl)
              refine one_ (i := 5) (N := some 136) mB6 rfl rfl (one_of HT_.out (by kernel_rfl)) (by decide) (fun K hK => ?_)
              refine goes_ Try.func38 (by kernel_rfl) rfl #[.agg #[.int .i64 t214, .int .i64 t215], .agg #[.int .i64 1, .int .i64 1]] (by rfl) rfl rfl (by (try simp only [List.map_toArray, List.map_cons, List.map_nil]); first | done | rfl | (simp only [List.length_drop, List.length_take]; rfl)) ?_
              with_reducible refine (score_Compare.calls kj31 t214 t215 1 1 t233 _ A241.out).mono ?_
              rintro e w248 ⟨rfl, hb⟩
              refine ⟨_, rfl, ?_⟩
              replace HO_7 := kR HO_7 hb; replace HO_8 := kR HO_8 hb; replace BK203 := kB BK203 hb; replace BK204 := kB BK204 hb; replace BK205 := kB BK205 hb; replace BK209 := kB BK209 hb; replace BK213 := kB BK213 hb; replace BK217 := kB BK217 hb; replace BK221 := kB BK221 hb; replace HB := kH HB hb
              (try clear hb)
              (try clear hb2)
              (try clear hk)
              (try clear hi)
              refine hK.out _ _ ⟨(blk_cell BK217.out 0).trans rfl, (blk_cell BK217.out 1).trans rfl, (blk_cell BK204.out 0).trans rfl, (blk_cell BK204.out 1).trans rfl, (blk_cell BK203.out 0).trans rfl, (blk_cell BK203.out 1).trans rfl, (blk_cell BK203.out 2).trans rfl, (blk_cell BK203.out 3).trans rfl⟩ (fun hHeld => ?_)
              clear hK K
              refine norm_ (a' := ?_) ?_ ?_
              rotate_left
              ·show Act.put _ (some 136) _ = _
               simp only [Act.put, List.setIfInBounds_toArray, List.set_cons_zero, List.set_cons_succ, i64_w, i32_w]
               rfl
              refine pure_ (i := 6) (N := some 137) (v := ?_) (a' := ?_) mB7 rfl rfl (any_of HT_.out (by kernel_rfl)) (fun _ _ _ h => h) (Or.inl ⟨by rfl, ?_⟩) ?_ ?_; rotate_left; (intro w'; go_simp; with_reducible rfl); rotate_left; (simp only [Act.put, List.setIfInBounds_toArray, List.set_cons_zero, List.set_cons_succ, i64_w, i32_w]; rfl)
              refine pure_ (i := 7) (N := some 138) (v := ?_) (a' := ?_) mB8 rfl rfl (any_of HT_.out (by kernel_rfl)) (fun _ _ _ h => h) (Or.inl ⟨by rfl, ?_⟩) ?_ ?_; rotate_left; (intro w'; go_simp; with_reducible rfl); rotate_left; (simp only [Act.put, List.setIfInBounds_toArray, List.set_cons_zero, List.set_cons_succ, i64_w, i32_w]; rfl)
              refine pure_ (i := 9) (N := some 140) (v := ?_) (a' := ?_) mB9 rfl rfl (any_of HT_.out (by kernel_rfl)) (fun _ _ _ h => h) (Or.inl ⟨by rfl, ?_⟩) ?_ ?_; rotate_left; (intro w'; go_simp; with_reducible rfl); rotate_left; (simp only [Act.put, List.setIfInBounds_toArray, List.set_cons_zero, List.set_cons_succ, i64_w, i32_w]; rfl)
              refine take_ (i := 8) (N := some 139) (v := ?_) (a' := ?_) mB10 rfl rfl (take_ofW HT_.out HW_.out (by kernel_rfl)) (fun _ _ _ h => h) (Or.inl ⟨by rfl, ?_⟩) hHeld ?_ ?_; rotate_left; (rintro w' ⟨s0, s1, s2, s3, s4, s5, s6, s7⟩; go_simp; with_reducible rfl); rotate_left; (simp only [Act.put, List.setIfInBounds_toArray, List.set_cons_zero, List.set_cons_succ, i64_w, i32_w]; rfl)
              refine one_ (i := 10) (N := some 141) mB11 rfl rfl (one_of HT_.out (by kernel_rfl)) (by decide) (fun K hK => ?_)
              refine goes_ Try.func38 (by kernel_rfl) rfl #[.agg #[.int .i64 t214, .int .i64 t215], .agg #[.int .i64 (-1), .int .i64 1]] (by rfl) rfl rfl (by (try simp only [List.map_toArray, List.map_cons, List.map_nil]); first | done | rfl | (simp only [List.length_drop, List.length_take]; rfl)) ?_
              with_reducible refine (score_Compare.calls kj31 t214 t215 (-1) 1 t234 _ A243.out).mono ?_
              rintro e w249 ⟨rfl, hb⟩
              refine ⟨_, rfl, ?_⟩
              replace HO_7 := kR HO_7 hb; replace HO_8 := kR HO_8 hb; replace BK203 := kB BK203 hb; replace BK204 := kB BK204 hb; replace BK205 := kB BK205 hb; replace BK209 := kB BK209 hb; replace BK213 := kB BK213 hb; replace BK217 := kB BK217 hb; replace BK221 := kB BK221 hb; replace HB := kH HB hb
              (try clear hb)
              (try clear hb2)
              (try clear hk)
              (try clear hi)
              refine hK.out _ _ ⟨(blk_cell BK217.out 0).trans rfl, (blk_cell BK217.out 1).trans rfl, (blk_cell BK204.out 0).trans rfl, (blk_cell BK204.out 1).trans rfl, (blk_cell BK203.out 0).trans rfl, (blk_cell BK203.out 1).trans rfl, (blk_cell BK203.out 2).trans rfl, (blk_cell BK203.out 3).trans rfl⟩ (fun hHeld => ?_)
              clear hK K
              refine norm_ (a' := ?_) ?_ ?_
              rotate_left
              ·show Act.put _ (some 141) _ = _
               simp only [Act.put, List.setIfInBounds_toArray, List.set_cons_zero, List.set_cons_succ, i64_w, i32_w]
               rfl
              refine pure_ (i := 11) (N := some 142) (v := ?_) (a' := ?_) mB12 rfl rfl (any_of HT_.out (by kernel_rfl)) (fun _ _ _ h => h) (Or.inl ⟨by rfl, ?_⟩) ?_ ?_; rotate_left; (intro w'; go_simp; with_reducible rfl); rotate_left; (simp only [Act.put, List.setIfInBounds_toArray, List.set_cons_zero, List.set_cons_succ, i64_w, i32_w]; rfl)
              refine pure_ (i := 12) (N := some 143) (v := ?_) (a' := ?_) mB13 rfl rfl (any_of HT_.out (by kernel_rfl)) (fun _ _ _ h => h) (Or.inl ⟨by rfl, ?_⟩) ?_ ?_; rotate_left; (intro w'; go_simp; with_reducible rfl); rotate_left; (simp only [Act.put, List.setIfInBounds_toArray, List.set_cons_zero, List.set_cons_succ, i64_w, i32_w]; rfl)
              refine pure_ (i := 13) (N := some 144) (v := ?_) (a' := ?_) mB14 rfl rfl (any_of HT_.out (by kernel_rfl)) (fun _ _ _ h => h) (Or.inl ⟨by rfl, ?_⟩) ?_ ?_; rotate_left; (intro w'; go_simp; with_reducible rfl); rotate_left; (simp only [Act.put, List.setIfInBounds_toArray, List.set_cons_zero, List.set_cons_succ, i64_w, i32_w]; rfl)
              refine pure_ (i := 17) (N := some 148) (v := ?_) (a' := ?_) mB15 rfl rfl (any_of HT_.out (by kernel_rfl)) (fun _ _ _ h => h) (Or.inl ⟨by rfl, ?_⟩) ?_ ?_; rotate_left; (intro w'; go_simp; with_reducible rfl); rotate_left; (simp only [Act.put, List.setIfInBounds_toArray, List.set_cons_zero, List.set_cons_succ, i64_w, i32_w]; rfl)
              refine take_ (i := 14) (N := some 145) (v := ?_) (a' := ?_) mB16 rfl rfl (take_ofW HT_.out HW_.out (by kernel_rfl)) (fun _ _ _ h => h) (Or.inl ⟨by rfl, ?_⟩) hHeld ?_ ?_; rotate_left; (rintro w' ⟨s0, s1, s2, s3, s4, s5, s6, s7⟩; go_simp; with_reducible rfl); rotate_left; (simp only [Act.put, List.setIfInBounds_toArray, List.set_cons_zero, List.set_cons_succ, i64_w, i32_w]; rfl)
              refine take_ (i := 15) (N := some 146) (v := ?_) (a' := ?_) mB17 rfl rfl (take_ofW HT_.out HW_.out (by kernel_rfl)) (fun _ _ _ h => h) (Or.inl ⟨by rfl, ?_⟩) hHeld ?_ ?_; rotate_left; (rintro w' ⟨s0, s1, s2, s3, s4, s5, s6, s7⟩; go_simp; with_reducible rfl); rotate_left; (simp only [Act.put, List.setIfInBounds_toArray, List.set_cons_zero, List.set_cons_succ, i64_w, i32_w]; rfl)
              refine pure_ (i := 16) (N := some 147) (v := ?_) (a' := ?_) mB18 rfl rfl (any_of HT_.out (by kernel_rfl)) (fun _ _ _ h => h) (Or.inl ⟨by rfl, ?_⟩) ?_ ?_; rotate_left; (intro w'; go_simp; with_reducible rfl); rotate_left; (simp only [Act.put, List.setIfInBounds_toArray, List.set_cons_zero, List.set_cons_succ, i64_w, i32_w]; rfl)
              refine take_ (i := 18) (N := some 149) (v := ?_) (a' := ?_) mB19 rfl rfl (take_ofW HT_.out HW_.out (by kernel_rfl)) (fun _ _ _ h => h) (Or.inl ⟨by rfl, ?_⟩) hHeld ?_ ?_; rotate_left; (rintro w' ⟨s0, s1, s2, s3, s4, s5, s6, s7⟩; go_simp; with_reducible rfl); rotate_left; (simp only [Act.put, List.setIfInBounds_toArray, List.set_cons_zero, List.set_cons_succ, i64_w, i32_w]; rfl)
              refine pure_ (i := 19) (N := some 150) (v := ?_) (a' := ?_) mB20 rfl rfl (any_of HT_.out (by kernel_rfl)) (fun _ _ _ h => h) (Or.inl ⟨by rfl, ?_⟩) ?_ ?_; rotate_left; (intro w'; go_simp; with_reducible rfl); rotate_left; (simp only [Act.put, List.setIfInBounds_toArray, List.set_cons_zero, List.set_cons_succ, i64_w, i32_w]; rfl)
              refine pure_ (i := 20) (N := some 151) (v := ?_) (a' := ?_) mB21 rfl rfl (any_of HT_.out (by kernel_rfl)) (fun _ _ _ h => h) (Or.inl ⟨by rfl, ?_⟩) ?_ ?_; rotate_left; (intro w'; go_simp; with_reducible rfl); rotate_left; (simp only [Act.put, List.setIfInBounds_toArray, List.set_cons_zero, List.set_cons_succ, i64_w, i32_w]; rfl)
              refine pure_ (i := 21) (N := some 152) (v := ?_) (a' := ?_) mB22 rfl rfl (any_of HT_.out (by kernel_rfl)) (fun _ _ _ h => h) (Or.inl ⟨by rfl, ?_⟩) ?_ ?_; rotate_left; (intro w'; go_simp; with_reducible rfl); rotate_left; (simp only [Act.put, List.setIfInBounds_toArray, List.set_cons_zero, List.set_cons_succ, i64_w, i32_w]; rfl)
              refine take_ (i := 22) (N := some 153) (v := ?_) (a' := ?_) mB23 rfl rfl (take_ofW HT_.out HW_.out (by kernel_rfl)) (fun _ _ _ h => h) (Or.inl ⟨by rfl, ?_⟩) hHeld ?_ ?_; rotate_left; (rintro w' ⟨s0, s1, s2, s3, s4, s5, s6, s7⟩; go_simp; with_reducible rfl); rotate_left; (simp only [Act.put, List.setIfInBounds_toArray, List.set_cons_zero, List.set_cons_succ, i64_w, i32_w]; rfl)
              refine pure_ (i := 23) (N := some 154) (v := ?_) (a' := ?_) mB24 rfl rfl (any_of HT_.out (by kernel_rfl)) (fun _ _ _ h => h) (Or.inl ⟨by rfl, ?_⟩) ?_ ?_; rotate_left; (intro w'; go_simp; with_reducible rfl); rotate_left; (simp only [Act.put, List.setIfInBounds_toArray, List.set_cons_zero, List.set_cons_succ, i64_w, i32_w]; rfl)
              refine pure_ (i := 24) (N := some 155) (v := ?_) (a' := ?_) mB25 rfl rfl (any_of HT_.out (by kernel_rfl)) (fun _ _ _ h => h) (Or.inl ⟨by rfl, ?_⟩) ?_ ?_; rotate_left; (intro w'; go_simp; with_reducible rfl); rotate_left; (simp only [Act.put, List.setIfInBounds_toArray, List.set_cons_zero, List.set_cons_succ, i64_w, i32_w]; rfl)
              refine pure_ (i := 25) (N := some 156) (v := ?_) (a' := ?_) mB26 rfl rfl (any_of HT_.out (by kernel_rfl)) (fun _ _ _ h => h) (Or.inl ⟨by rfl, ?_⟩) ?_ ?_; rotate_left; (intro w'; go_simp; with_reducible rfl); rotate_left; (simp only [Act.put, List.setIfInBounds_toArray, List.set_cons_zero, List.set_cons_succ, i64_w, i32_w]; rfl)
              refine pure_ (i := 26) (N := some 157) (v := ?_) (a' := ?_) mB27 rfl rfl (any_of HT_.out (by kernel_rfl)) (fun _ _ _ h => h) (Or.inl ⟨by rfl, ?_⟩) ?_ ?_; rotate_left; (intro w'; go_simp; with_reducible rfl); rotate_left; (simp only [Act.put, List.setIfInBounds_toArray, List.set_cons_zero, List.set_cons_succ, i64_w, i32_w]; rfl)
              refine pure_ (i := 27) (N := some 158) (v := ?_) (a' := ?_) mB28 rfl rfl (any_of HT_.out (by kernel_rfl)) (fun _ _ _ h => h) (Or.inl ⟨by rfl, ?_⟩) ?_ ?_; rotate_left; (intro w'; go_simp; with_reducible rfl); rotate_left; (simp only [Act.put, List.setIfInBounds_toArray, List.set_cons_zero, List.set_cons_succ, i64_w, i32_w]; rfl)
              refine done_ (done_of HT_.out (by kernel_rfl)) ?_
              try go_wp2
              go_meet
              case rel => exact ⟨_, (false), (by first | rfl | (simp; done) | (simp [*]; done)), H', ⟨by have := HJ10.out; have := HJ31.out; first | omega | exact Nat.le_refl _⟩, ⟨by (with_reducible repeat (first | apply Kd.R_alloc | apply Kd.R_drewN | apply Kd.R_drew)); exact HO_7.out⟩, ⟨by (with_reducible repeat (first | apply Kd.R_alloc | apply Kd.R_drewN | apply Kd.R_drew)); exact HO_8.out⟩, ⟨by (with_reducible repeat (first | refine blk_drewN ?_ _ | refine blk_drew ?_ | refine blk_alloc ?_ _)); exact BK203.out⟩, ⟨by (with_reducible repeat (first | refine blk_drewN ?_ _ | refine blk_drew ?_ | refine blk_alloc ?_ _)); exact BK204.out⟩, ⟨by (with_reducible repeat (first | refine blk_drewN ?_ _ | refine blk_drew ?_ | refine blk_alloc ?_ _)); exact BK205.out⟩, ⟨by (with_reducible repeat (first | refine blk_drewN ?_ _ | refine blk_drew ?_ | refine blk_alloc ?_ _)); exact BK209.out⟩, ⟨by (with_reducible repeat (first | refine blk_drewN ?_ _ | refine blk_drew ?_ | refine blk_alloc ?_ _)); exact BK213.out⟩, ⟨by (with_reducible repeat (first | refine blk_drewN ?_ _ | refine blk_drew ?_ | refine blk_alloc ?_ _)); exact BK217.out⟩, ⟨by (with_reducible repeat (first | refine blk_drewN ?_ _ | refine blk_drew ?_ | refine blk_alloc ?_ _)); exact BK221.out⟩, ⟨by repeat (first | (with_reducible first | exact HB.out | apply below_alloc | apply pw_below_drewN | apply below_drew1 | refine below_set ?_ GE203.out | refine below_set ?_ GE204.out | refine below_set ?_ GE205.out | refine below_set ?_ GE209.out | refine below_set ?_ GE213.out | refine below_set ?_ GE217.out | refine below_set ?_ GE221.out) | exact HB.out)⟩⟩
            ·rw [if_neg c245] at H
             have c245b0 : (t199 == 0) = false := beq_eq_false_iff_ne.mpr c245
             have c245b1 : (t199 != 0) = true := bne_iff_ne.mpr c245
             by_cases c250 : ((t214 == 1 && (t215 == 1)) != false) = true
             ·rw [if_pos c250] at H
              exact absurd H (by simp)
             ·rw [if_neg c250] at H
              have c250b0 : ((t214 == 1 && (t215 == 1)) != false) = false := by simpa using c250
              (try (have c250b1 : decide ((t214 == 1 && (t215 == 1)) = false) = true := by simpa using c250))
              (try (have c250b2 : ((t214 == 1 && (t215 == 1)) == false) = true := by simpa using c250))
              clear c250
              have H' := Aside0.mk H
              clear H
              try go_wp2
              replace HO_7 := Aside0.mk (Kd.R_drew HO_7.out); replace HO_8 := Aside0.mk (Kd.R_drew HO_8.out); replace BK203 := Aside0.mk (blk_drew BK203.out); replace BK204 := Aside0.mk (blk_drew BK204.out); replace BK205 := Aside0.mk (blk_drew BK205.out); replace BK209 := Aside0.mk (blk_drew BK209.out); replace BK213 := Aside0.mk (blk_drew BK213.out); replace BK217 := Aside0.mk (blk_drew BK217.out); replace BK221 := Aside0.mk (blk_drew BK221.out); replace HB := Aside0.mk (below_drew1 HB.out)
              refine start_ (n := 28) (S := fun w' => w'.cell? ⟨gb217, 0, none⟩ = some (.int .i64 t214) ∧ w'.cell? ⟨gb217, 1, none⟩ = some (.int .i64 t215) ∧ w'.cell? ⟨gb204, 0, none⟩ = some (.int .i64 1) ∧ w'.cell? ⟨gb204, 1, none⟩ = some (.int .i64 1) ∧ w'.cell? ⟨gb203, 0, none⟩ = some (.int .i64 t198) ∧ w'.cell? ⟨gb203, 1, none⟩ = some (.int .i64 t199) ∧ w'.cell? ⟨gb203, 2, none⟩ = some (.int .i64 t200) ∧ w'.cell? ⟨gb203, 3, none⟩ = some (.int .i64 t201)) (ds := []) mB0 (by kernel_rfl) rfl rfl ⟨(blk_cell BK217.out 0).trans rfl, (blk_cell BK217.out 1).trans rfl, (blk_cell BK204.out 0).trans rfl, (blk_cell BK204.out 1).trans rfl, (blk_cell BK203.out 0).trans rfl, (blk_cell BK203.out 1).trans rfl, (blk_cell BK203.out 2).trans rfl, (blk_cell BK203.out 3).trans rfl⟩ (fun hHeld => ?_); refine with_tabW synopticlaw38_ScoreBounds.tab14 synopticlaw38_ScoreBounds.bits14 (fun HT_ HW_ => ?_)
              generalize wc.drew = w251 at HO_7 HO_8 BK203 BK204 BK205 BK209 BK213 BK217 BK221 HB hHeld ⊢
              refine pure_ (i := 0) (N := some 131) (v := ?_) (a' := ?_) mB1 rfl rfl (any_of HT_.out (by kernel_rfl)) (fun _ _ _ h => h) (Or.inl ⟨by rfl, ?_⟩) ?_ ?_; rotate_left; (intro w'; go_simp; with_reducible rfl); rotate_left; (simp only [Act.put, List.setIfInBounds_toArray, List.set_cons_zero, List.set_cons_succ, i64_w, i32_w]; rfl)
              refine pure_ (i := 1) (N := some 132) (v := ?_) (a' := ?_) mB2 rfl rfl (any_of HT_.out (by kernel_rfl)) (fun _ _ _ h => h) (Or.inl ⟨by rfl, ?_⟩) ?_ ?_; rotate_left; (intro w'; go_simp; with_reducible rfl); rotate_left; (simp only [Act.put, List.setIfInBounds_toArray, List.set_cons_zero, List.set_cons_succ, i64_w, i32_w]; rfl)
              refine pure_ (i := 2) (N := some 133) (v := ?_) (a' := ?_) mB3 rfl rfl (any_of HT_.out (by kernel_rfl)) (fun _ _ _ h => h) (Or.inl ⟨by rfl, ?_⟩) ?_ ?_; rotate_left; (intro w'; go_simp; with_reducible rfl); rotate_left; (simp only [Act.put, List.setIfInBounds_toArray, List.set_cons_zero, List.set_cons_succ, i64_w, i32_w]; rfl)
              refine take_ (i := 3) (N := some 134) (v := ?_) (a' := ?_) mB4 rfl rfl (take_ofW HT_.out HW_.out (by kernel_rfl)) (fun _ _ _ h => h) (Or.inl ⟨by rfl, ?_⟩) hHeld ?_ ?_; rotate_left; (rintro w' ⟨s0, s1, s2, s3, s4, s5, s6, s7⟩; go_simp; with_reducible rfl); rotate_left; (simp only [Act.put, List.setIfInBounds_toArray, List.set_cons_zero, List.set_cons_succ, i64_w, i32_w]; rfl)
              refine take_ (i := 4) (N := some 135) (v := ?_) (a' := ?_) mB5 rfl rfl (take_ofW HT_.out HW_.out (by kernel_rfl)) (fun _ _ _ h => h) (Or.inl ⟨by rfl, ?_⟩) hHeld ?_ ?_; rotate_left; (rintro w' ⟨s0, s1, s2, s3, s4, s5, s6, s7⟩; go_simp; with_reducible rfl); rotate_left; (simp only [Act.put, List.setIfInBounds_toArray, List.set_cons_zero, List.set_cons_succ, i64_w, i32_w]; rfl)
              refine one_ (i := 5) (N := some 136) mB6 rfl rfl (one_of HT_.out (by kernel_rfl)) (by decide) (fun K hK => ?_)
              refine goes_ Try.func38 (by kernel_rfl) rfl #[.agg #[.int .i64 t214, .int .i64 t215], .agg #[.int .i64 1, .int .i64 1]] (by rfl) rfl rfl (by (try simp only [List.map_toArray, List.map_cons, List.map_nil]); first | done | rfl | (simp only [List.length_drop, List.length_take]; rfl)) ?_
              with_reducible refine (score_Compare.calls kj31 t214 t215 1 1 t233 _ A241.out).mono ?_
              rintro e w252 ⟨rfl, hb⟩
              refine ⟨_, rfl, ?_⟩
              replace HO_7 := kR HO_7 hb; replace HO_8 := kR HO_8 hb; replace BK203 := kB BK203 hb; replace BK204 := kB BK204 hb; replace BK205 := kB BK205 hb; replace BK209 := kB BK209 hb; replace BK213 := kB BK213 hb; replace BK217 := kB BK217 hb; replace BK221 := kB BK221 hb; replace HB := kH HB hb
              (try clear hb)
              (try clear hb2)
              (try clear hk)
              (try clear hi)
              refine hK.out _ _ ⟨(blk_cell BK217.out 0).trans rfl, (blk_cell BK217.out 1).trans rfl, (blk_cell BK204.out 0).trans rfl, (blk_cell BK204.out 1).trans rfl, (blk_cell BK203.out 0).trans rfl, (blk_cell BK203.out 1).trans rfl, (blk_cell BK203.out 2).trans rfl, (blk_cell BK203.out 3).trans rfl⟩ (fun hHeld => ?_)
              clear hK K
              refine norm_ (a' := ?_) ?_ ?_
              rotate_left
              ·show Act.put _ (some 136) _ = _
               simp only [Act.put, List.setIfInBounds_toArray, List.set_cons_zero, List.set_cons_succ, i64_w, i32_w]
               rfl
              refine pure_ (i := 6) (N := some 137) (v := ?_) (a' := ?_) mB7 rfl rfl (any_of HT_.out (by kernel_rfl)) (fun _ _ _ h => h) (Or.inl ⟨by rfl, ?_⟩) ?_ ?_; rotate_left; (intro w'; go_simp; with_reducible rfl); rotate_left; (simp only [Act.put, List.setIfInBounds_toArray, List.set_cons_zero, List.set_cons_succ, i64_w, i32_w]; rfl)
              refine pure_ (i := 7) (N := some 138) (v := ?_) (a' := ?_) mB8 rfl rfl (any_of HT_.out (by kernel_rfl)) (fun _ _ _ h => h) (Or.inl ⟨by rfl, ?_⟩) ?_ ?_; rotate_left; (intro w'; go_simp; with_reducible rfl); rotate_left; (simp only [Act.put, List.setIfInBounds_toArray, List.set_cons_zero, List.set_cons_succ, i64_w, i32_w]; rfl)
              refine pure_ (i := 9) (N := some 140) (v := ?_) (a' := ?_) mB9 rfl rfl (any_of HT_.out (by kernel_rfl)) (fun _ _ _ h => h) (Or.inl ⟨by rfl, ?_⟩) ?_ ?_; rotate_left; (intro w'; go_simp; with_reducible rfl); rotate_left; (simp only [Act.put, List.setIfInBounds_toArray, List.set_cons_zero, List.set_cons_succ, i64_w, i32_w]; rfl)
              refine take_ (i := 8) (N := some 139) (v := ?_) (a' := ?_) mB10 rfl rfl (take_ofW HT_.out HW_.out (by kernel_rfl)) (fun _ _ _ h => h) (Or.inl ⟨by rfl, ?_⟩) hHeld ?_ ?_; rotate_left; (rintro w' ⟨s0, s1, s2, s3, s4, s5, s6, s7⟩; go_simp; with_reducible rfl); rotate_left; (simp only [Act.put, List.setIfInBounds_toArray, List.set_cons_zero, List.set_cons_succ, i64_w, i32_w]; rfl)
              refine one_ (i := 10) (N := some 141) mB11 rfl rfl (one_of HT_.out (by kernel_rfl)) (by decide) (fun K hK => ?_)
              refine goes_ Try.func38 (by kernel_rfl) rfl #[.agg #[.int .i64 t214, .int .i64 t215], .agg #[.int .i64 (-1), .int .i64 1]] (by rfl) rfl rfl (by (try simp only [List.map_toArray, List.map_cons, List.map_nil]); first | done | rfl | (simp only [List.length_drop, List.length_take]; rfl)) ?_
              with_reducible refine (score_Compare.calls kj31 t214 t215 (-1) 1 t234 _ A243.out).mono ?_
              rintro e w253 ⟨rfl, hb⟩
              refine ⟨_, rfl, ?_⟩
              replace HO_7 := kR HO_7 hb; replace HO_8 := kR HO_8 hb; replace BK203 := kB BK203 hb; replace BK204 := kB BK204 hb; replace BK205 := kB BK205 hb; replace BK209 := kB BK209 hb; replace BK213 := kB BK213 hb; replace BK217 := kB BK217 hb; replace BK221 := kB BK221 hb; replace HB := kH HB hb
              (try clear hb)
              (try clear hb2)
              (try clear hk)
              (try clear hi)
              refine hK.out _ _ ⟨(blk_cell BK217.out 0).trans rfl, (blk_cell BK217.out 1).trans rfl, (blk_cell BK204.out 0).trans rfl, (blk_cell BK204.out 1).trans rfl, (blk_cell BK203.out 0).trans rfl, (blk_cell BK203.out 1).trans rfl, (blk_cell BK203.out 2).trans rfl, (blk_cell BK203.out 3).trans rfl⟩ (fun hHeld => ?_)
              clear hK K
              refine norm_ (a' := ?_) ?_ ?_
              rotate_left
              ·show Act.put _ (some 141) _ = _
               simp only [Act.put, List.setIfInBounds_toArray, List.set_cons_zero, List.set_cons_succ, i64_w, i32_w]
               rfl
              refine pure_ (i := 11) (N := some 142) (v := ?_) (a' := ?_) mB12 rfl rfl (any_of HT_.out (by kernel_rfl)) (fun _ _ _ h => h) (Or.inl ⟨by rfl, ?_⟩) ?_ ?_; rotate_left; (intro w'; go_simp; with_reducible rfl); rotate_left; (simp only [Act.put, List.setIfInBounds_toArray, List.set_cons_zero, List.set_cons_succ, i64_w, i32_w]; rfl)
              refine pure_ (i := 12) (N := some 143) (v := ?_) (a' := ?_) mB13 rfl rfl (any_of HT_.out (by kernel_rfl)) (fun _ _ _ h => h) (Or.inl ⟨by rfl, ?_⟩) ?_ ?_; rotate_left; (intro w'; go_simp; with_reducible rfl); rotate_left; (simp only [Act.put, List.setIfInBounds_toArray, List.set_cons_zero, List.set_cons_succ, i64_w, i32_w]; rfl)
              refine pure_ (i := 13) (N := some 144) (v := ?_) (a' := ?_) mB14 rfl rfl (any_of HT_.out (by kernel_rfl)) (fun _ _ _ h => h) (Or.inl ⟨by rfl, ?_⟩) ?_ ?_; rotate_left; (intro w'; go_simp; with_reducible rfl); rotate_left; (simp only [Act.put, List.setIfInBounds_toArray, List.set_cons_zero, List.set_cons_succ, i64_w, i32_w]; rfl)
              refine pure_ (i := 17) (N := some 148) (v := ?_) (a' := ?_) mB15 rfl rfl (any_of HT_.out (by kernel_rfl)) (fun _ _ _ h => h) (Or.inl ⟨by rfl, ?_⟩) ?_ ?_; rotate_left; (intro w'; go_simp; with_reducible rfl); rotate_left; (simp only [Act.put, List.setIfInBounds_toArray, List.set_cons_zero, List.set_cons_succ, i64_w, i32_w]; rfl)
              refine take_ (i := 14) (N := some 145) (v := ?_) (a' := ?_) mB16 rfl rfl (take_ofW HT_.out HW_.out (by kernel_rfl)) (fun _ _ _ h => h) (Or.inl ⟨by rfl, ?_⟩) hHeld ?_ ?_; rotate_left; (rintro w' ⟨s0, s1, s2, s3, s4, s5, s6, s7⟩; go_simp; with_reducible rfl); rotate_left; (simp only [Act.put, List.setIfInBounds_toArray, List.set_cons_zero, List.set_cons_succ, i64_w, i32_w]; rfl)
              refine take_ (i := 15) (N := some 146) (v := ?_) (a' := ?_) mB17 rfl rfl (take_ofW HT_.out HW_.out (by kernel_rfl)) (fun _ _ _ h => h) (Or.inl ⟨by rfl, ?_⟩) hHeld ?_ ?_; rotate_left; (rintro w' ⟨s0, s1, s2, s3, s4, s5, s6, s7⟩; go_simp; with_reducible rfl); rotate_left; (simp only [Act.put, List.setIfInBounds_toArray, List.set_cons_zero, List.set_cons_succ, i64_w, i32_w]; rfl)
              refine pure_ (i := 16) (N := some 147) (v := ?_) (a' := ?_) mB18 rfl rfl (any_of HT_.out (by kernel_rfl)) (fun _ _ _ h => h) (Or.inl ⟨by rfl, ?_⟩) ?_ ?_; rotate_left; (intro w'; go_simp; with_reducible rfl); rotate_left; (simp only [Act.put, List.setIfInBounds_toArray, List.set_cons_zero, List.set_cons_succ, i64_w, i32_w]; rfl)
              refine take_ (i := 18) (N := some 149) (v := ?_) (a' := ?_) mB19 rfl rfl (take_ofW HT_.out HW_.out (by kernel_rfl)) (fun _ _ _ h => h) (Or.inl ⟨by rfl, ?_⟩) hHeld ?_ ?_; rotate_left; (rintro w' ⟨s0, s1, s2, s3, s4, s5, s6, s7⟩; go_simp; with_reducible rfl); rotate_left; (simp only [Act.put, List.setIfInBounds_toArray, List.set_cons_zero, List.set_cons_succ, i64_w, i32_w]; rfl)
              refine pure_ (i := 19) (N := some 150) (v := ?_) (a' := ?_) mB20 rfl rfl (any_of HT_.out (by kernel_rfl)) (fun _ _ _ h => h) (Or.inl ⟨by rfl, ?_⟩) ?_ ?_; rotate_left; (intro w'; go_simp; with_reducible rfl); rotate_left; (simp only [Act.put, List.setIfInBounds_toArray, List.set_cons_zero, List.set_cons_succ, i64_w, i32_w]; rfl)
              refine pure_ (i := 20) (N := some 151) (v := ?_) (a' := ?_) mB21 rfl rfl (any_of HT_.out (by kernel_rfl)) (fun _ _ _ h => h) (Or.inl ⟨by rfl, ?_⟩) ?_ ?_; rotate_left; (intro w'; go_simp; with_reducible rfl); rotate_left; (simp only [Act.put, List.setIfInBounds_toArray, List.set_cons_zero, List.set_cons_succ, i64_w, i32_w]; rfl)
              refine pure_ (i := 21) (N := some 152) (v := undef) (a' := ?_) mB22 rfl rfl (any_of HT_.out (by kernel_rfl)) (fun _ _ _ h => h) (Or.inr ⟨by rfl, rfl⟩) ?_ ?_
              rotate_left
              ·simp only [Act.put, List.setIfInBounds_toArray, List.set_cons_zero, List.set_cons_succ, i64_w, i32_w]
               rfl
              refine pure_ (i := 22) (N := some 153) (v := undef) (a' := ?_) mB23 rfl rfl (any_of HT_.out (by kernel_rfl)) (fun _ _ _ h => h) (Or.inr ⟨by rfl, rfl⟩) ?_ ?_
              rotate_left
              ·simp only [Act.put, List.setIfInBounds_toArray, List.set_cons_zero, List.set_cons_succ, i64_w, i32_w]
               rfl
              refine pure_ (i := 23) (N := some 154) (v := undef) (a' := ?_) mB24 rfl rfl (any_of HT_.out (by kernel_rfl)) (fun _ _ _ h => h) (Or.inr ⟨by rfl, rfl⟩) ?_ ?_
              rotate_left
              ·simp only [Act.put, List.setIfInBounds_toArray, List.set_cons_zero, List.set_cons_succ, i64_w, i32_w]
               rfl
              refine pure_ (i := 24) (N := some 155) (v := ?_) (a' := ?_) mB25 rfl rfl (any_of HT_.out (by kernel_rfl)) (fun _ _ _ h => h) (Or.inl ⟨by rfl, ?_⟩) ?_ ?_; rotate_left; (intro w'; go_simp; with_reducible rfl); rotate_left; (simp only [Act.put, List.setIfInBounds_toArray, List.set_cons_zero, List.set_cons_succ, i64_w, i32_w]; rfl)
              refine pure_ (i := 25) (N := some 156) (v := ?_) (a' := ?_) mB26 rfl rfl (any_of HT_.out (by kernel_rfl)) (fun _ _ _ h => h) (Or.inl ⟨by rfl, ?_⟩) ?_ ?_; rotate_left; (intro w'; go_simp; with_reducible rfl); rotate_left; (simp only [Act.put, List.setIfInBounds_toArray, List.set_cons_zero, List.set_cons_succ, i64_w, i32_w]; rfl)
              refine pure_ (i := 26) (N := some 157) (v := ?_) (a' := ?_) mB27 rfl rfl (any_of HT_.out (by kernel_rfl)) (fun _ _ _ h => h) (Or.inl ⟨by rfl, ?_⟩) ?_ ?_; rotate_left; (intro w'; go_simp; with_reducible rfl); rotate_left; (simp only [Act.put, List.setIfInBounds_toArray, List.set_cons_zero, List.set_cons_succ, i64_w, i32_w]; rfl)
              refine pure_ (i := 27) (N := some 158) (v := ?_) (a' := ?_) mB28 rfl rfl (any_of HT_.out (by kernel_rfl)) (fun _ _ _ h => h) (Or.inl ⟨by rfl, ?_⟩) ?_ ?_; rotate_left; (intro w'; go_simp; with_reducible rfl); rotate_left; (simp only [Act.put, List.setIfInBounds_toArray, List.set_cons_zero, List.set_cons_succ, i64_w, i32_w]; rfl)
              refine done_ (done_of HT_.out (by kernel_rfl)) ?_
              try go_wp2
              go_meet
              case rel => exact ⟨_, (false), (by first | rfl | (simpa using c250b0) | (simp; done) | (simp [*]; done)), H', ⟨by have := HJ10.out; have := HJ31.out; first | omega | exact Nat.le_refl _⟩, ⟨by (with_reducible repeat (first | apply Kd.R_alloc | apply Kd.R_drewN | apply Kd.R_drew)); exact HO_7.out⟩, ⟨by (with_reducible repeat (first | apply Kd.R_alloc | apply Kd.R_drewN | apply Kd.R_drew)); exact HO_8.out⟩, ⟨by (with_reducible repeat (first | refine blk_drewN ?_ _ | refine blk_drew ?_ | refine blk_alloc ?_ _)); exact BK203.out⟩, ⟨by (with_reducible repeat (first | refine blk_drewN ?_ _ | refine blk_drew ?_ | refine blk_alloc ?_ _)); exact BK204.out⟩, ⟨by (with_reducible repeat (first | refine blk_drewN ?_ _ | refine blk_drew ?_ | refine blk_alloc ?_ _)); exact BK205.out⟩, ⟨by (with_reducible repeat (first | refine blk_drewN ?_ _ | refine blk_drew ?_ | refine blk_alloc ?_ _)); exact BK209.out⟩, ⟨by (with_reducible repeat (first | refine blk_drewN ?_ _ | refine blk_drew ?_ | refine blk_alloc ?_ _)); exact BK213.out⟩, ⟨by (with_reducible repeat (first | refine blk_drewN ?_ _ | refine blk_drew ?_ | refine blk_alloc ?_ _)); exact BK217.out⟩, ⟨by (with_reducible repeat (first | refine blk_drewN ?_ _ | refine blk_drew ?_ | refine blk_alloc ?_ _)); exact BK221.out⟩, ⟨by repeat (first | (with_reducible first | exact HB.out | apply below_alloc | apply pw_below_drewN | apply below_drew1 | refine below_set ?_ GE203.out | refine below_set ?_ GE204.out | refine below_set ?_ GE205.out | refine below_set ?_ GE209.out | refine below_set ?_ GE213.out | refine below_set ?_ GE217.out | refine below_set ?_ GE221.out) | exact HB.out)⟩⟩
         ·rw [if_neg c240] at H
          have c240b0 : (t216 == 0) = false := beq_eq_false_iff_ne.mpr c240
          have c240b1 : (t216 != 0) = true := bne_iff_ne.mpr c240
          (first | rw [c240b0] | (simp only [i64_w, i32_w]; rw [c240b0]) | skip)
          have H' := Aside0.mk H
          clear H
          try go_wp2
          replace HO_7 := Aside0.mk (Kd.R_drew HO_7.out); replace HO_8 := Aside0.mk (Kd.R_drew HO_8.out); replace BK203 := Aside0.mk (blk_drew BK203.out); replace BK204 := Aside0.mk (blk_drew BK204.out); replace BK205 := Aside0.mk (blk_drew BK205.out); replace BK209 := Aside0.mk (blk_drew BK209.out); replace BK213 := Aside0.mk (blk_drew BK213.out); replace BK217 := Aside0.mk (blk_drew BK217.out); replace BK221 := Aside0.mk (blk_drew BK221.out); replace HB := Aside0.mk (below_drew1 HB.out)
          refine start_ (n := 28) (S := fun w' => True) (ds := []) mB0 (by kernel_rfl) rfl rfl trivial (fun hHeld => ?_); refine with_tabW synopticlaw38_ScoreBounds.tab14 synopticlaw38_ScoreBounds.bits14 (fun HT_ HW_ => ?_)
          generalize wc.drew = w254 at HO_7 HO_8 BK203 BK204 BK205 BK209 BK213 BK217 BK221 HB hHeld ⊢
          refine pure_ (i := 0) (N := some 131) (v := ?_) (a' := ?_) mB1 rfl rfl (any_of HT_.out (by kernel_rfl)) (fun _ _ _ h => h) (Or.inl ⟨by rfl, ?_⟩) ?_ ?_; rotate_left; (intro w'; go_simp; with_reducible rfl); rotate_left; (simp only [Act.put, List.setIfInBounds_toArray, List.set_cons_zero, List.set_cons_succ, i64_w, i32_w]; rfl)
          refine pure_ (i := 1) (N := some 132) (v := ?_) (a' := ?_) mB2 rfl rfl (any_of HT_.out (by kernel_rfl)) (fun _ _ _ h => h) (Or.inl ⟨by rfl, ?_⟩) ?_ ?_; rotate_left; (intro w'; go_simp; with_reducible rfl); rotate_left; (simp only [Act.put, List.setIfInBounds_toArray, List.set_cons_zero, List.set_cons_succ, i64_w, i32_w]; rfl)
          refine pure_ (i := 2) (N := some 133) (v := ?_) (a' := ?_) mB3 rfl rfl (any_of HT_.out (by kernel_rfl)) (fun _ _ _ h => h) (Or.inl ⟨by rfl, ?_⟩) ?_ ?_; rotate_left; (intro w'; go_simp; with_reducible rfl); rotate_left; (simp only [Act.put, List.setIfInBounds_toArray, List.set_cons_zero, List.set_cons_succ, i64_w, i32_w]; rfl)
          refine pure_ (i := 3) (N := some 134) (v := undef) (a' := ?_) mB4 rfl rfl (any_of HT_.out (by kernel_rfl)) (fun _ _ _ h => h) (Or.inr ⟨by rfl, rfl⟩) ?_ ?_
          rotate_left
          ·simp only [Act.put, List.setIfInBounds_toArray, List.set_cons_zero, List.set_cons_succ, i64_w, i32_w]
           rfl
          refine pure_ (i := 4) (N := some 135) (v := undef) (a' := ?_) mB5 rfl rfl (any_of HT_.out (by kernel_rfl)) (fun _ _ _ h => h) (Or.inr ⟨by rfl, rfl⟩) ?_ ?_
          rotate_left
          ·simp only [Act.put, List.setIfInBounds_toArray, List.set_cons_zero, List.set_cons_succ, i64_w, i32_w]
           rfl
          refine pure_ (i := 5) (N := some 136) (v := undef) (a' := ?_) mB6 rfl rfl (any_of HT_.out (by kernel_rfl)) (fun _ _ _ h => h) (Or.inr ⟨by rfl, rfl⟩) ?_ ?_
          rotate_left
          ·simp only [Act.put, List.setIfInBounds_toArray, List.set_cons_zero, List.set_cons_succ, i64_w, i32_w]
           rfl
          refine pure_ (i := 6) (N := some 137) (v := undef) (a' := ?_) mB7 rfl rfl (any_of HT_.out (by kernel_rfl)) (fun _ _ _ h => h) (Or.inr ⟨by rfl, rfl⟩) ?_ ?_
          rotate_left
          ·simp only [Act.put, List.setIfInBounds_toArray, List.set_cons_zero, List.set_cons_succ, i64_w, i32_w]
           rfl
          refine pure_ (i := 7) (N := some 138) (v := undef) (a' := ?_) mB8 rfl rfl (any_of HT_.out (by kernel_rfl)) (fun _ _ _ h => h) (Or.inr ⟨by rfl, rfl⟩) ?_ ?_
          rotate_left
          ·simp only [Act.put, List.setIfInBounds_toArray, List.set_cons_zero, List.set_cons_succ, i64_w, i32_w]
           rfl
          refine pure_ (i := 8) (N := some 139) (v := undef) (a' := ?_) mB29 rfl rfl (any_of HT_.out (by kernel_rfl)) (fun _ _ _ h => h) (Or.inr ⟨by rfl, rfl⟩) ?_ ?_
          rotate_left
          ·simp only [Act.put, List.setIfInBounds_toArray, List.set_cons_zero, List.set_cons_succ, i64_w, i32_w]
           rfl
          refine pure_ (i := 9) (N := some 140) (v := undef) (a' := ?_) mB10 rfl rfl (any_of HT_.out (by kernel_rfl)) (fun _ _ _ h => h) (Or.inr ⟨by rfl, rfl⟩) ?_ ?_
          rotate_left
          ·simp only [Act.put, List.setIfInBounds_toArray, List.set_cons_zero, List.set_cons_succ, i64_w, i32_w]
           rfl
          refine pure_ (i := 10) (N := some 141) (v := undef) (a' := ?_) mB11 rfl rfl (any_of HT_.out (by kernel_rfl)) (fun _ _ _ h => h) (Or.inr ⟨by rfl, rfl⟩) ?_ ?_
          rotate_left
          ·simp only [Act.put, List.setIfInBounds_toArray, List.set_cons_zero, List.set_cons_succ, i64_w, i32_w]
           rfl
          refine pure_ (i := 11) (N := some 142) (v := undef) (a' := ?_) mB12 rfl rfl (any_of HT_.out (by kernel_rfl)) (fun _ _ _ h => h) (Or.inr ⟨by rfl, rfl⟩) ?_ ?_
          rotate_left
          ·simp only [Act.put, List.setIfInBounds_toArray, List.set_cons_zero, List.set_cons_succ, i64_w, i32_w]
           rfl
          refine pure_ (i := 12) (N := some 143) (v := undef) (a' := ?_) mB13 rfl rfl (any_of HT_.out (by kernel_rfl)) (fun _ _ _ h => h) (Or.inr ⟨by rfl, rfl⟩) ?_ ?_
          rotate_left
          ·simp only [Act.put, List.setIfInBounds_toArray, List.set_cons_zero, List.set_cons_succ, i64_w, i32_w]
           rfl
          refine pure_ (i := 13) (N := some 144) (v := undef) (a' := ?_) mB14 rfl rfl (any_of HT_.out (by kernel_rfl)) (fun _ _ _ h => h) (Or.inr ⟨by rfl, rfl⟩) ?_ ?_
          rotate_left
          ·simp only [Act.put, List.setIfInBounds_toArray, List.set_cons_zero, List.set_cons_succ, i64_w, i32_w]
           rfl
          refine pure_ (i := 14) (N := some 145) (v := undef) (a' := ?_) mB30 rfl rfl (any_of HT_.out (by kernel_rfl)) (fun _ _ _ h => h) (Or.inr ⟨by rfl, rfl⟩) ?_ ?_
          rotate_left
          ·simp only [Act.put, List.setIfInBounds_toArray, List.set_cons_zero, List.set_cons_succ, i64_w, i32_w]
           rfl
          refine pure_ (i := 15) (N := some 146) (v := undef) (a' := ?_) mB31 rfl rfl (any_of HT_.out (by kernel_rfl)) (fun _ _ _ h => h) (Or.inr ⟨by rfl, rfl⟩) ?_ ?_
          rotate_left
          ·simp only [Act.put, List.setIfInBounds_toArray, List.set_cons_zero, List.set_cons_succ, i64_w, i32_w]
           rfl
          refine pure_ (i := 16) (N := some 147) (v := undef) (a' := ?_) mB32 rfl rfl (any_of HT_.out (by kernel_rfl)) (fun _ _ _ h => h) (Or.inr ⟨by rfl, rfl⟩) ?_ ?_
          rotate_left
          ·simp only [Act.put, List.setIfInBounds_toArray, List.set_cons_zero, List.set_cons_succ, i64_w, i32_w]
           rfl
          refine pure_ (i := 17) (N := some 148) (v := undef) (a' := ?_) mB18 rfl rfl (any_of HT_.out (by kernel_rfl)) (fun _ _ _ h => h) (Or.inr ⟨by rfl, rfl⟩) ?_ ?_
          rotate_left
          ·simp only [Act.put, List.setIfInBounds_toArray, List.set_cons_zero, List.set_cons_succ, i64_w, i32_w]
           rfl
          refine pure_ (i := 18) (N := some 149) (v := undef) (a' := ?_) mB19 rfl rfl (any_of HT_.out (by kernel_rfl)) (fun _ _ _ h => h) (Or.inr ⟨by rfl, rfl⟩) ?_ ?_
          rotate_left
          ·simp only [Act.put, List.setIfInBounds_toArray, List.set_cons_zero, List.set_cons_succ, i64_w, i32_w]
           rfl
          refine pure_ (i := 19) (N := some 150) (v := undef) (a' := ?_) mB20 rfl rfl (any_of HT_.out (by kernel_rfl)) (fun _ _ _ h => h) (Or.inr ⟨by rfl, rfl⟩) ?_ ?_
          rotate_left
          ·simp only [Act.put, List.setIfInBounds_toArray, List.set_cons_zero, List.set_cons_succ, i64_w, i32_w]
           rfl
          refine pure_ (i := 20) (N := some 151) (v := undef) (a' := ?_) mB21 rfl rfl (any_of HT_.out (by kernel_rfl)) (fun _ _ _ h => h) (Or.inr ⟨by rfl, rfl⟩) ?_ ?_
          rotate_left
          ·simp only [Act.put, List.setIfInBounds_toArray, List.set_cons_zero, List.set_cons_succ, i64_w, i32_w]
           rfl
          refine pure_ (i := 21) (N := some 152) (v := undef) (a' := ?_) mB22 rfl rfl (any_of HT_.out (by kernel_rfl)) (fun _ _ _ h => h) (Or.inr ⟨by rfl, rfl⟩) ?_ ?_
          rotate_left
          ·simp only [Act.put, List.setIfInBounds_toArray, List.set_cons_zero, List.set_cons_succ, i64_w, i32_w]
           rfl
          refine pure_ (i := 22) (N := some 153) (v := undef) (a' := ?_) mB23 rfl rfl (any_of HT_.out (by kernel_rfl)) (fun _ _ _ h => h) (Or.inr ⟨by rfl, rfl⟩) ?_ ?_
          rotate_left
          ·simp only [Act.put, List.setIfInBounds_toArray, List.set_cons_zero, List.set_cons_succ, i64_w, i32_w]
           rfl
          refine pure_ (i := 23) (N := some 154) (v := undef) (a' := ?_) mB24 rfl rfl (any_of HT_.out (by kernel_rfl)) (fun _ _ _ h => h) (Or.inr ⟨by rfl, rfl⟩) ?_ ?_
          rotate_left
          ·simp only [Act.put, List.setIfInBounds_toArray, List.set_cons_zero, List.set_cons_succ, i64_w, i32_w]
           rfl
          refine pure_ (i := 24) (N := some 155) (v := undef) (a' := ?_) mB25 rfl rfl (any_of HT_.out (by kernel_rfl)) (fun _ _ _ h => h) (Or.inr ⟨by rfl, rfl⟩) ?_ ?_
          rotate_left
          ·simp only [Act.put, List.setIfInBounds_toArray, List.set_cons_zero, List.set_cons_succ, i64_w, i32_w]
           rfl
          refine pure_ (i := 25) (N := some 156) (v := undef) (a' := ?_) mB26 rfl rfl (any_of HT_.out (by kernel_rfl)) (fun _ _ _ h => h) (Or.inr ⟨by rfl, rfl⟩) ?_ ?_
          rotate_left
          ·simp only [Act.put, List.setIfInBounds_toArray, List.set_cons_zero, List.set_cons_succ, i64_w, i32_w]
           rfl
          refine pure_ (i := 26) (N := some 157) (v := undef) (a' := ?_) mB27 rfl rfl (any_of HT_.out (by kernel_rfl)) (fun _ _ _ h => h) (Or.inr ⟨by rfl, rfl⟩) ?_ ?_
          rotate_left
          ·simp only [Act.put, List.setIfInBounds_toArray, List.set_cons_zero, List.set_cons_succ, i64_w, i32_w]
           rfl
          refine pure_ (i := 27) (N := some 158) (v := ?_) (a' := ?_) mB28 rfl rfl (any_of HT_.out (by kernel_rfl)) (fun _ _ _ h => h) (Or.inl ⟨by rfl, ?_⟩) ?_ ?_; rotate_left; (intro w'; go_simp; with_reducible rfl); rotate_left; (simp only [Act.put, List.setIfInBounds_toArray, List.set_cons_zero, List.set_cons_succ, i64_w, i32_w]; rfl)
          refine done_ (done_of HT_.out (by kernel_rfl)) ?_
          try go_wp2
          go_meet
          case rel => exact ⟨_, (false), (by first | rfl | (simp; done) | (simp [*]; done)), H', ⟨by have := HJ10.out; have := HJ31.out; first | omega | exact Nat.le_refl _⟩, ⟨by (with_reducible repeat (first | apply Kd.R_alloc | apply Kd.R_drewN | apply Kd.R_drew)); exact HO_7.out⟩, ⟨by (with_reducible repeat (first | apply Kd.R_alloc | apply Kd.R_drewN | apply Kd.R_drew)); exact HO_8.out⟩, ⟨by (with_reducible repeat (first | refine blk_drewN ?_ _ | refine blk_drew ?_ | refine blk_alloc ?_ _)); exact BK203.out⟩, ⟨by (with_reducible repeat (first | refine blk_drewN ?_ _ | refine blk_drew ?_ | refine blk_alloc ?_ _)); exact BK204.out⟩, ⟨by (with_reducible repeat (first | refine blk_drewN ?_ _ | refine blk_drew ?_ | refine blk_alloc ?_ _)); exact BK205.out⟩, ⟨by (with_reducible repeat (first | refine blk_drewN ?_ _ | refine blk_drew ?_ | refine blk_alloc ?_ _)); exact BK209.out⟩, ⟨by (with_reducible repeat (first | refine blk_drewN ?_ _ | refine blk_drew ?_ | refine blk_alloc ?_ _)); exact BK213.out⟩, ⟨by (with_reducible repeat (first | refine blk_drewN ?_ _ | refine blk_drew ?_ | refine blk_alloc ?_ _)); exact BK217.out⟩, ⟨by (with_reducible repeat (first | refine blk_drewN ?_ _ | refine blk_drew ?_ | refine blk_alloc ?_ _)); exact BK221.out⟩, ⟨by repeat (first | (with_reducible first | exact HB.out | apply below_alloc | apply pw_below_drewN | apply below_drew1 | refine below_set ?_ GE203.out | refine below_set ?_ GE204.out | refine below_set ?_ GE205.out | refine below_set ?_ GE209.out | refine below_set ?_ GE213.out | refine below_set ?_ GE217.out | refine below_set ?_ GE221.out) | exact HB.out)⟩⟩
        case rest => as_aux_lemma =>
         clear HC239
         (try clear c2); (try clear p2); (try clear c3); (try clear c24); (try clear c25); (try clear c38); (try clear c240); (try clear c240b0); (try clear c240b1); (try clear c245); (try clear c245b0); (try clear c245b1); (try clear c250); (try clear c250b0); (try clear c250b1); (try clear c250b2)
         obtain ⟨kq, x158_238, rfl, HA, HJ238, HO_7, HO_8, BK203, BK204, BK205, BK209, BK213, BK217, BK221, HB⟩ := hcut
         cases kq with
         | zero => exact absurd HA.out (by simp [synopticlaw38_ScoreBounds.j2])
         | succ kj238 =>
          have H := HA.out
          clear HA
          simp only [synopticlaw38_ScoreBounds.j2] at H
          by_cases c255 : x158_238 = true
          ·subst c255
           have H1 : (none) = some r := by rw [if_pos rfl] at H; exact H
           clear H
           have H := H1
           clear H1
           exact absurd H (by simp)
          ·replace c255 := Bool.eq_false_iff.mpr c255
           subst c255
           have H1 : (if 0 ≤ (mn (t187.length : Int) (t194.length : Int)) then (if (mn (t187.length : Int) (t194.length : Int)) ≤ (t187.length : Int) then ((score_Of.f kj238 (t187.take ((mn (t187.length : Int) (t194.length : Int)) : Int).toNat)).bind fun bt239 => (if (mn (t187.length : Int) (t194.length : Int)) ≤ (t194.length : Int) then ((score_Of.f kj238 (t194.take ((mn (t187.length : Int) (t194.length : Int)) : Int).toNat)).bind fun bt249 => ((score_Skill.f kj238 bt239.1 bt239.2.1 bt239.2.2.1 bt239.2.2.2.1 bt249.1 bt249.2.1 bt249.2.2.1 bt249.2.2.2.1).bind fun bt255 => (if bt239.2.2.2.2 = 0 then (if bt249.2.2.2.2 = 0 then (if bt255.2.2 = 0 then ((score_Compare.f kj238 bt255.1 bt255.2.1 1 1).bind fun t259 => (if t259 ≤ 0 then (some ((bt255.1 == 1 && (bt255.2.1 == 1)) == (bt239.2.2.2.1 == 0))) else (none))) else (if (mn (t187.length : Int) (t194.length : Int)) = 0 then (some true) else (if bt249.2.2.2.1 = 0 then (some true) else (none)))) else (none)) else (none)))) else (none))) else (none)) else (none)) = some r := by rw [if_neg (show ¬ (false = true) by decide)] at H; exact H
           clear H
           have H := H1
           clear H1
           obtain ⟨ji256, hji256⟩ : ∃ j_ : Int, (mn (t187.length : Int) (t194.length : Int)) = j_ := ⟨_, rfl⟩
           replace H : (if 0 ≤ (ji256) then (if (ji256) ≤ (t187.length : Int) then ((score_Of.f kj238 (t187.take ((ji256) : Int).toNat)).bind fun bt239 => (if (ji256) ≤ (t194.length : Int) then ((score_Of.f kj238 (t194.take ((ji256) : Int).toNat)).bind fun bt249 => ((score_Skill.f kj238 bt239.1 bt239.2.1 bt239.2.2.1 bt239.2.2.2.1 bt249.1 bt249.2.1 bt249.2.2.1 bt249.2.2.2.1).bind fun bt255 => (if bt239.2.2.2.2 = 0 then (if bt249.2.2.2.2 = 0 then (if bt255.2.2 = 0 then ((score_Compare.f kj238 bt255.1 bt255.2.1 1 1).bind fun t259 => (if t259 ≤ 0 then (some ((bt255.1 == 1 && (bt255.2.1 == 1)) == (bt239.2.2.2.1 == 0))) else (none))) else (if (ji256) = 0 then (some true) else (if bt249.2.2.2.1 = 0 then (some true) else (none)))) else (none)) else (none)))) else (none))) else (none)) else (none)) = some r := by first | (rw [hji256] at H; exact H) | (simp only [hji256] at H ⊢; exact H)
           have hji256_ : (if (t194.length : Int) < (t187.length : Int) then (t194.length : Int) else (t187.length : Int)) = ji256 := hji256
           have hji256n : (if t194.length < t187.length then (t194.length : Int) else (t187.length : Int)) = ji256 := by rw [← hji256_]; simp only [Int.ofNat_lt]
           by_cases c257 : 0 ≤ (ji256)
           ·rw [if_pos c257] at H
            have c257b0 := eq_true c257
            have c257b1 : decide (0 ≤ (ji256)) = true := decide_eq_true c257
            clear c257
            by_cases c258 : (ji256) ≤ (t187.length : Int)
            ·rw [if_pos c258] at H
             have c258b0 := eq_true c258
             have c258b1 : decide ((ji256) ≤ (t187.length : Int)) = true := decide_eq_true c258
             clear c258
             obtain ⟨y235, hy235⟩ : ∃ y_ : List (S40), y_ = (t187.take ((ji256) : Int).toNat) := ⟨_, rfl⟩
             replace H : ((score_Of.f kj238 y235).bind fun bt239 => (if (ji256) ≤ (t194.length : Int) then ((score_Of.f kj238 (t194.take ((ji256) : Int).toNat)).bind fun bt249 => ((score_Skill.f kj238 bt239.1 bt239.2.1 bt239.2.2.1 bt239.2.2.2.1 bt249.1 bt249.2.1 bt249.2.2.1 bt249.2.2.2.1).bind fun bt255 => (if bt239.2.2.2.2 = 0 then (if bt249.2.2.2.2 = 0 then (if bt255.2.2 = 0 then ((score_Compare.f kj238 bt255.1 bt255.2.1 1 1).bind fun t259 => (if t259 ≤ 0 then (some ((bt255.1 == 1 && (bt255.2.1 == 1)) == (bt239.2.2.2.1 == 0))) else (none))) else (if (ji256) = 0 then (some true) else (if bt249.2.2.2.1 = 0 then (some true) else (none)))) else (none)) else (none)))) else (none))) = some r := by first | (rw [hy235]; with_reducible exact H) | (have H2_ := (Option.bind_some _ _).symm.trans H; rw [hy235]; with_reducible exact H2_) | (have H2_ := (Option.bind_some _ _).symm.trans H; with_reducible exact H2_) | with_reducible exact H | (rw [hy235]; exact H) | exact H
             have Ny235 := Aside0.mk hy235
             clear hy235
             replace H := Option.bind_eq_some_iff.mp H
             obtain ⟨⟨t239, t240, t241, t242, t243⟩, A2590, H⟩ := H
             replace H : (if (ji256) ≤ (t194.length : Int) then ((score_Of.f kj238 (t194.take ((ji256) : Int).toNat)).bind fun bt249 => ((score_Skill.f kj238 t239 t240 t241 t242 bt249.1 bt249.2.1 bt249.2.2.1 bt249.2.2.2.1).bind fun bt255 => (if t243 = 0 then (if bt249.2.2.2.2 = 0 then (if bt255.2.2 = 0 then ((score_Compare.f kj238 bt255.1 bt255.2.1 1 1).bind fun t259 => (if t259 ≤ 0 then (some ((bt255.1 == 1 && (bt255.2.1 == 1)) == (t242 == 0))) else (none))) else (if (ji256) = 0 then (some true) else (if bt249.2.2.2.1 = 0 then (some true) else (none)))) else (none)) else (none)))) else (none)) = some r := H
             have A259 := Aside0.mk A2590
             clear A2590
             have c260b0 := eq_true (of_decide_eq_true (by first | (with_reducible assumption) | assumption) : 0 ≤ (ji256))
             by_cases c261 : (ji256) ≤ (t194.length : Int)
             ·rw [if_pos c261] at H
              have c261b0 := eq_true c261
              have c261b1 : decide ((ji256) ≤ (t194.length : Int)) = true := decide_eq_true c261
              clear c261
              obtain ⟨y245, hy245⟩ : ∃ y_ : List (S40), y_ = (t194.take ((ji256) : Int).toNat) := ⟨_, rfl⟩
              replace H : ((score_Of.f kj238 y245).bind fun bt249 => ((score_Skill.f kj238 t239 t240 t241 t242 bt249.1 bt249.2.1 bt249.2.2.1 bt249.2.2.2.1).bind fun bt255 => (if t243 = 0 then (if bt249.2.2.2.2 = 0 then (if bt255.2.2 = 0 then ((score_Compare.f kj238 bt255.1 bt255.2.1 1 1).bind fun t259 => (if t259 ≤ 0 then (some ((bt255.1 == 1 && (bt255.2.1 == 1)) == (t242 == 0))) else (none))) else (if (ji256) = 0 then (some true) else (if bt249.2.2.2.1 = 0 then (some true) else (none)))) else (none)) else (none)))) = some r := by first | (rw [hy245]; with_reducible exact H) | (have H2_ := (Option.bind_some _ _).symm.trans H; rw [hy245]; with_reducible exact H2_) | (have H2_ := (Option.bind_some _ _).symm.trans H; with_reducible exact H2_) | with_reducible exact H | (rw [hy245]; exact H) | exact H
              have Ny245 := Aside0.mk hy245
              clear hy245
              replace H := Option.bind_eq_some_iff.mp H
              obtain ⟨⟨t249, t250, t251, t252, t253⟩, A2620, H⟩ := H
              replace H : ((score_Skill.f kj238 t239 t240 t241 t242 t249 t250 t251 t252).bind fun bt255 => (if t243 = 0 then (if t253 = 0 then (if bt255.2.2 = 0 then ((score_Compare.f kj238 bt255.1 bt255.2.1 1 1).bind fun t259 => (if t259 ≤ 0 then (some ((bt255.1 == 1 && (bt255.2.1 == 1)) == (t242 == 0))) else (none))) else (if (ji256) = 0 then (some true) else (if t252 = 0 then (some true) else (none)))) else (none)) else (none))) = some r := H
              have A262 := Aside0.mk A2620
              clear A2620
              replace H := Option.bind_eq_some_iff.mp H
              obtain ⟨⟨t255, t256, t257⟩, A2630, H⟩ := H
              replace H : (if t243 = 0 then (if t253 = 0 then (if t257 = 0 then ((score_Compare.f kj238 t255 t256 1 1).bind fun t259 => (if t259 ≤ 0 then (some ((t255 == 1 && (t256 == 1)) == (t242 == 0))) else (none))) else (if (ji256) = 0 then (some true) else (if t252 = 0 then (some true) else (none)))) else (none)) else (none)) = some r := H
              have A263 := Aside0.mk A2630
              clear A2630
              obtain ⟨Ao269, co269, eo269⟩ := Kd.R_slice HO_8.out
              subst eo269
              have q270 : ((ji256) : Int) ≤ ((t187.length : Int) : Int) := of_decide_eq_true (by first | (with_reducible assumption) | assumption)
              obtain ⟨i0270, hi0270, _, hsz270, _⟩ := info_parts info40
              have hroom270 : t187.length ≤ co17 := (Kd.R_reads' HO_7.out).2.1
              have hC270 : Kd.C k40 _ Ao17 t187.length t187 := (Kd.R_reads' HO_7.out).2.2
              have hcut270 := cut_to (P := Try.prog) 35 40 .i64 Try.underlying35 hi0270 Ao17 t187.length co17 (ji256) (of_decide_eq_true (by first | (with_reducible assumption) | assumption)) q270 hroom270
              have hr270 := Kd.C_take (m := ((ji256) : Int).toNat) hC270 (by omega)
              have hy270 : y235.length = ((ji256) : Int).toNat := (by rw [Ny235.out, List.length_take]; omega)
              rw [← Ny235.out] at hr270
              rw [← hy270] at hcut270
              have HR238 := Aside0.mk hr270
              have HC238 := Aside0.mk (show y235.length ≤ co17 from by omega)
              clear hr270 hC270 hroom270 hi0270 hsz270
              have KY270 := Aside0.mk hy270
              clear hy270
              have KL270 := Aside0.mk (show ((ji256) : Int).toNat ≤ t187.length from by omega)
              replace q270 := eq_true q270
              try go_wp2_with (first | ((with_reducible refine gate_callee (f := 21) rfl ?_); refine goesL_ (some 168) rfl rfl Try.func21 (by kernel_rfl) rfl #[.slice Ao17 y235.length co17] rfl (by (try simp only [List.map_toArray, List.map_cons, List.map_nil]); first | done | rfl | (simp only [List.length_drop, List.length_take]; rfl)) ?_; (with_reducible refine (score_Of.calls kj238 _ _ y235 t239 t240 t241 t242 t243 _ ?side1 ?side2 A259.out).mono ?_); (case side1 => repeat (first | exact (by repeat (first | (with_reducible exact HR238.out) | (with_reducible refine Kd.C_alloc ?_ _) | (with_reducible refine Kd.C_drewN ?_ _) | (with_reducible refine Kd.C_drew ?_) | exact HR238.out)) | (with_reducible refine Kd.C_alloc ?_ _) | (with_reducible refine Kd.C_drewN ?_ _) | (with_reducible refine Kd.C_drew ?_))); (case side2 => exact HC238.out); rintro e w271 ⟨rfl, hb⟩; refine ⟨_, rfl, ?_⟩; replace HO_7 := kR HO_7 hb; replace HO_8 := kR HO_8 hb; replace BK203 := kB BK203 hb; replace BK204 := kB BK204 hb; replace BK205 := kB BK205 hb; replace BK209 := kB BK209 hb; replace BK213 := kB BK213 hb; replace BK217 := kB BK217 hb; replace BK221 := kB BK221 hb; replace HR238 := kC HR238 hb; replace HB := kH HB hb; (try clear hb); (try clear hb2); (try clear hk); (try clear hi)) | ((with_reducible refine gate_dst (N := 22) rfl ?_); (try (refine gate_guard (by rfl) ?_; dsimp only)); refine box_event ?hg (N := 22) ?hd (cs := #[.int .i64 0, .int .i64 0, .int .i64 0, .int .i64 0]) (t := 42) ?hr ?_; (case hd => rfl); (case hg => rfl); (case hr => first | (go_simp; done) | (go_simp; rfl)); intro gb244 hg w272 hbox hb; have BK244 := Aside0.mk (hbox); have GW244 := kG HB hg; have GE244 := kG HB hg; have NB203_244 := kN BK203 hg; have NB244_203 := kM BK203 hg; have NB204_244 := kN BK204 hg; have NB244_204 := kM BK204 hg; have NB205_244 := kN BK205 hg; have NB244_205 := kM BK205 hg; have NB209_244 := kN BK209 hg; have NB244_209 := kM BK209 hg; have NB213_244 := kN BK213 hg; have NB244_213 := kM BK213 hg; have NB217_244 := kN BK217 hg; have NB244_217 := kM BK217 hg; have NB221_244 := kN BK221 hg; have NB244_221 := kM BK221 hg; replace HO_7 := kR HO_7 hb; replace HO_8 := kR HO_8 hb; replace BK203 := kB BK203 hb; replace BK204 := kB BK204 hb; replace BK205 := kB BK205 hb; replace BK209 := kB BK209 hb; replace BK213 := kB BK213 hb; replace BK217 := kB BK217 hb; replace BK221 := kB BK221 hb; replace HR238 := kC HR238 hb; replace HB := kH HB hb; clear hb hbox hg; have hnb273 := NB244_203.out; have hnc273 := NB203_244.out; have hnb274 := NB244_204.out; have hnc274 := NB204_244.out; have hnb275 := NB244_205.out; have hnc275 := NB205_244.out; have hnb276 := NB244_209.out; have hnc276 := NB209_244.out; have hnb277 := NB244_213.out; have hnc277 := NB213_244.out; have hnb278 := NB244_217.out; have hnc278 := NB217_244.out; have hnb279 := NB244_221.out; have hnc279 := NB221_244.out; have hcz280_0 : w272.cell? ⟨gb244, 0, none⟩ = some (.int .i64 0) := (blk_cell BK244.out 0).trans rfl; have hcz280_1 : w272.cell? ⟨gb244, 1, none⟩ = some (.int .i64 0) := (blk_cell BK244.out 1).trans rfl; have hcz280_2 : w272.cell? ⟨gb244, 2, none⟩ = some (.int .i64 0) := (blk_cell BK244.out 2).trans rfl; have hcz280_3 : w272.cell? ⟨gb244, 3, none⟩ = some (.int .i64 0) := (blk_cell BK244.out 3).trans rfl; have hfz280_0 := blk_frozen BK244.out 0; have hfz280_1 := blk_frozen BK244.out 1; have hfz280_2 := blk_frozen BK244.out 2; have hfz280_3 := blk_frozen BK244.out 3) | ((with_reducible refine gate_store (t := 42) (p := 22) rfl ?_); refine store_event (t := 42) (p := 22) (v := ?vo_w281) (w1 := ((((w272.setCell ⟨gb244, 0, none⟩ (.int .i64 t239)).setCell ⟨gb244, 1, none⟩ (.int .i64 t240)).setCell ⟨gb244, 2, none⟩ (.int .i64 t241)).setCell ⟨gb244, 3, none⟩ (.int .i64 t242))) ?hg ?ho ?hn ?hr ?_; (case ho => rfl); (case hg => rfl); (case hn => rfl); (case hr => first | (go_simp; done) | (go_simp; rfl)); intro w281 hw; replace HO_7 := kFR HO_7 BK244 hw (by decide); replace HO_8 := kFR HO_8 BK244 hw (by decide); replace BK203 := kF BK203 NB203_244 hw; replace BK204 := kF BK204 NB204_244 hw; replace BK205 := kF BK205 NB205_244 hw; replace BK209 := kF BK209 NB209_244 hw; replace BK213 := kF BK213 NB213_244 hw; replace BK217 := kF BK217 NB217_244 hw; replace BK221 := kF BK221 NB221_244 hw; replace BK244 : Aside0 (w281.heap[gb244]? = some (.cells #[.int .i64 t239, .int .i64 t240, .int .i64 t241, .int .i64 t242] 42 (0, 0))) := ⟨(by rw [hw]; exact (by (with_reducible repeat (first | refine blk_drewN ?_ _ | refine blk_drew ?_ | refine blk_alloc ?_ _)); refine blk_put (cs := #[.int .i64 t239, .int .i64 t240, .int .i64 t241, .int .i64 0]) ?_ 3 _ rfl; (with_reducible repeat (first | refine blk_drewN ?_ _ | refine blk_drew ?_ | refine blk_alloc ?_ _)); refine blk_put (cs := #[.int .i64 t239, .int .i64 t240, .int .i64 0, .int .i64 0]) ?_ 2 _ rfl; (with_reducible repeat (first | refine blk_drewN ?_ _ | refine blk_drew ?_ | refine blk_alloc ?_ _)); refine blk_put (cs := #[.int .i64 t239, .int .i64 0, .int .i64 0, .int .i64 0]) ?_ 1 _ rfl; (with_reducible repeat (first | refine blk_drewN ?_ _ | refine blk_drew ?_ | refine blk_alloc ?_ _)); refine blk_put (cs := #[.int .i64 0, .int .i64 0, .int .i64 0, .int .i64 0]) ?_ 0 _ rfl; (with_reducible repeat (first | refine blk_drewN ?_ _ | refine blk_drew ?_ | refine blk_alloc ?_ _)); exact BK244.out))⟩; replace HB := kFH HB GE244 hw; clear hw; have q282 : ((ji256) : Int) ≤ ((t194.length : Int) : Int) := of_decide_eq_true (by first | (with_reducible assumption) | assumption); obtain ⟨i0282, hi0282, _, hsz282, _⟩ := info_parts info40; have hroom282 : t194.length ≤ co269 := (Kd.R_reads' HO_8.out).2.1; have hC282 : Kd.C k40 _ Ao269 t194.length t194 := (Kd.R_reads' HO_8.out).2.2; have hcut282 := cut_to (P := Try.prog) 35 40 .i64 Try.underlying35 hi0282 Ao269 t194.length co269 (ji256) (of_decide_eq_true (by first | (with_reducible assumption) | assumption)) q282 hroom282; have hr282 := Kd.C_take (m := ((ji256) : Int).toNat) hC282 (by omega); have hy282 : y245.length = ((ji256) : Int).toNat := (by rw [Ny245.out, List.length_take]; omega); rw [← Ny245.out] at hr282; rw [← hy282] at hcut282; have HR248 := Aside0.mk hr282; have HC248 := Aside0.mk (show y245.length ≤ co269 from by omega); clear hr282 hC282 hroom282 hi0282 hsz282; have KY282 := Aside0.mk hy282; clear hy282; have KL282 := Aside0.mk (show ((ji256) : Int).toNat ≤ t194.length from by omega); replace q282 := eq_true q282) | ((with_reducible refine gate_callee (f := 21) rfl ?_); refine goesL_ (some 175) rfl rfl Try.func21 (by kernel_rfl) rfl #[.slice Ao269 y245.length co269] rfl (by (try simp only [List.map_toArray, List.map_cons, List.map_nil]); first | done | rfl | (simp only [List.length_drop, List.length_take]; rfl)) ?_; (with_reducible refine (score_Of.calls kj238 _ _ y245 t249 t250 t251 t252 t253 _ ?side1 ?side2 A262.out).mono ?_); (case side1 => repeat (first | exact (by repeat (first | (with_reducible exact HR248.out) | (with_reducible refine Kd.C_alloc ?_ _) | (with_reducible refine Kd.C_drewN ?_ _) | (with_reducible refine Kd.C_drew ?_) | exact HR248.out)) | (with_reducible refine Kd.C_alloc ?_ _) | (with_reducible refine Kd.C_drewN ?_ _) | (with_reducible refine Kd.C_drew ?_))); (case side2 => exact HC248.out); rintro e w283 ⟨rfl, hb⟩; refine ⟨_, rfl, ?_⟩; replace HO_7 := kR HO_7 hb; replace HO_8 := kR HO_8 hb; replace BK203 := kB BK203 hb; replace BK204 := kB BK204 hb; replace BK205 := kB BK205 hb; replace BK209 := kB BK209 hb; replace BK213 := kB BK213 hb; replace BK217 := kB BK217 hb; replace BK221 := kB BK221 hb; replace BK244 := kB BK244 hb; replace HR248 := kC HR248 hb; replace HB := kH HB hb; (try clear hb); (try clear hb2); (try clear hk); (try clear hi)) | ((with_reducible refine gate_dst (N := 23) rfl ?_); (try (refine gate_guard (by rfl) ?_; dsimp only)); refine box_event ?hg (N := 23) ?hd (cs := #[.int .i64 0, .int .i64 0, .int .i64 0, .int .i64 0]) (t := 42) ?hr ?_; (case hd => rfl); (case hg => rfl); (case hr => first | (go_simp; done) | (go_simp; rfl)); intro gb254 hg w284 hbox hb; have BK254 := Aside0.mk (hbox); have GW254 := kG HB hg; have GE254 := kG HB hg; have NB203_254 := kN BK203 hg; have NB254_203 := kM BK203 hg; have NB204_254 := kN BK204 hg; have NB254_204 := kM BK204 hg; have NB205_254 := kN BK205 hg; have NB254_205 := kM BK205 hg; have NB209_254 := kN BK209 hg; have NB254_209 := kM BK209 hg; have NB213_254 := kN BK213 hg; have NB254_213 := kM BK213 hg; have NB217_254 := kN BK217 hg; have NB254_217 := kM BK217 hg; have NB221_254 := kN BK221 hg; have NB254_221 := kM BK221 hg; have NB244_254 := kN BK244 hg; have NB254_244 := kM BK244 hg; replace HO_7 := kR HO_7 hb; replace HO_8 := kR HO_8 hb; replace BK203 := kB BK203 hb; replace BK204 := kB BK204 hb; replace BK205 := kB BK205 hb; replace BK209 := kB BK209 hb; replace BK213 := kB BK213 hb; replace BK217 := kB BK217 hb; replace BK221 := kB BK221 hb; replace BK244 := kB BK244 hb; replace HR248 := kC HR248 hb; replace HB := kH HB hb; clear hb hbox hg; have hnb285 := NB254_203.out; have hnc285 := NB203_254.out; have hnb286 := NB254_204.out; have hnc286 := NB204_254.out; have hnb287 := NB254_205.out; have hnc287 := NB205_254.out; have hnb288 := NB254_209.out; have hnc288 := NB209_254.out; have hnb289 := NB254_213.out; have hnc289 := NB213_254.out; have hnb290 := NB254_217.out; have hnc290 := NB217_254.out; have hnb291 := NB254_221.out; have hnc291 := NB221_254.out; have hnb292 := NB254_244.out; have hnc292 := NB244_254.out; have hcz293_0 : w284.cell? ⟨gb254, 0, none⟩ = some (.int .i64 0) := (blk_cell BK254.out 0).trans rfl; have hcz293_1 : w284.cell? ⟨gb254, 1, none⟩ = some (.int .i64 0) := (blk_cell BK254.out 1).trans rfl; have hcz293_2 : w284.cell? ⟨gb254, 2, none⟩ = some (.int .i64 0) := (blk_cell BK254.out 2).trans rfl; have hcz293_3 : w284.cell? ⟨gb254, 3, none⟩ = some (.int .i64 0) := (blk_cell BK254.out 3).trans rfl; have hfz293_0 := blk_frozen BK254.out 0; have hfz293_1 := blk_frozen BK254.out 1; have hfz293_2 := blk_frozen BK254.out 2; have hfz293_3 := blk_frozen BK254.out 3) | ((with_reducible refine gate_store (t := 42) (p := 23) rfl ?_); refine store_event (t := 42) (p := 23) (v := ?vo_w294) (w1 := ((((w284.setCell ⟨gb254, 0, none⟩ (.int .i64 t249)).setCell ⟨gb254, 1, none⟩ (.int .i64 t250)).setCell ⟨gb254, 2, none⟩ (.int .i64 t251)).setCell ⟨gb254, 3, none⟩ (.int .i64 t252))) ?hg ?ho ?hn ?hr ?_; (case ho => rfl); (case hg => rfl); (case hn => rfl); (case hr => first | (go_simp; done) | (go_simp; rfl)); intro w294 hw; replace HO_7 := kFR HO_7 BK254 hw (by decide); replace HO_8 := kFR HO_8 BK254 hw (by decide); replace BK203 := kF BK203 NB203_254 hw; replace BK204 := kF BK204 NB204_254 hw; replace BK205 := kF BK205 NB205_254 hw; replace BK209 := kF BK209 NB209_254 hw; replace BK213 := kF BK213 NB213_254 hw; replace BK217 := kF BK217 NB217_254 hw; replace BK221 := kF BK221 NB221_254 hw; replace BK244 := kF BK244 NB244_254 hw; replace BK254 : Aside0 (w294.heap[gb254]? = some (.cells #[.int .i64 t249, .int .i64 t250, .int .i64 t251, .int .i64 t252] 42 (0, 0))) := ⟨(by rw [hw]; exact (by (with_reducible repeat (first | refine blk_drewN ?_ _ | refine blk_drew ?_ | refine blk_alloc ?_ _)); refine blk_put (cs := #[.int .i64 t249, .int .i64 t250, .int .i64 t251, .int .i64 0]) ?_ 3 _ rfl; (with_reducible repeat (first | refine blk_drewN ?_ _ | refine blk_drew ?_ | refine blk_alloc ?_ _)); refine blk_put (cs := #[.int .i64 t249, .int .i64 t250, .int .i64 0, .int .i64 0]) ?_ 2 _ rfl; (with_reducible repeat (first | refine blk_drewN ?_ _ | refine blk_drew ?_ | refine blk_alloc ?_ _)); refine blk_put (cs := #[.int .i64 t249, .int .i64 0, .int .i64 0, .int .i64 0]) ?_ 1 _ rfl; (with_reducible repeat (first | refine blk_drewN ?_ _ | refine blk_drew ?_ | refine blk_alloc ?_ _)); refine blk_put (cs := #[.int .i64 0, .int .i64 0, .int .i64 0, .int .i64 0]) ?_ 0 _ rfl; (with_reducible repeat (first | refine blk_drewN ?_ _ | refine blk_drew ?_ | refine blk_alloc ?_ _)); exact BK254.out))⟩; replace HB := kFH HB GE254 hw; clear hw; have hcz295_0 : w294.cell? ⟨gb244, 0, none⟩ = some (.int .i64 t239) := (blk_cell BK244.out 0).trans rfl; have hcz295_1 : w294.cell? ⟨gb244, 1, none⟩ = some (.int .i64 t240) := (blk_cell BK244.out 1).trans rfl; have hcz295_2 : w294.cell? ⟨gb244, 2, none⟩ = some (.int .i64 t241) := (blk_cell BK244.out 2).trans rfl; have hcz295_3 : w294.cell? ⟨gb244, 3, none⟩ = some (.int .i64 t242) := (blk_cell BK244.out 3).trans rfl; have hfz295_0 := blk_frozen BK244.out 0; have hfz295_1 := blk_frozen BK244.out 1; have hfz295_2 := blk_frozen BK244.out 2; have hfz295_3 := blk_frozen BK244.out 3; have hcz296_0 : w294.cell? ⟨gb254, 0, none⟩ = some (.int .i64 t249) := (blk_cell BK254.out 0).trans rfl; have hcz296_1 : w294.cell? ⟨gb254, 1, none⟩ = some (.int .i64 t250) := (blk_cell BK254.out 1).trans rfl; have hcz296_2 : w294.cell? ⟨gb254, 2, none⟩ = some (.int .i64 t251) := (blk_cell BK254.out 2).trans rfl; have hcz296_3 : w294.cell? ⟨gb254, 3, none⟩ = some (.int .i64 t252) := (blk_cell BK254.out 3).trans rfl; have hfz296_0 := blk_frozen BK254.out 0; have hfz296_1 := blk_frozen BK254.out 1; have hfz296_2 := blk_frozen BK254.out 2; have hfz296_3 := blk_frozen BK254.out 3) | ((with_reducible refine gate_callee (f := 25) rfl ?_); refine goesL_ (some 181) rfl rfl Try.func25 (by kernel_rfl) rfl #[.agg #[.int .i64 t239, .int .i64 t240, .int .i64 t241, .int .i64 t242], .agg #[.int .i64 t249, .int .i64 t250, .int .i64 t251, .int .i64 t252]] rfl (by (try simp only [List.map_toArray, List.map_cons, List.map_nil]); first | done | rfl | (simp only [List.length_drop, List.length_take]; rfl)) ?_; (with_reducible refine (score_Skill.calls kj238 t239 t240 t241 t242 t249 t250 t251 t252 t255 t256 t257 _ A263.out).mono ?_); rintro e w297 ⟨rfl, hb⟩; refine ⟨_, rfl, ?_⟩; replace HO_7 := kR HO_7 hb; replace HO_8 := kR HO_8 hb; replace BK203 := kB BK203 hb; replace BK204 := kB BK204 hb; replace BK205 := kB BK205 hb; replace BK209 := kB BK209 hb; replace BK213 := kB BK213 hb; replace BK217 := kB BK217 hb; replace BK221 := kB BK221 hb; replace BK244 := kB BK244 hb; replace BK254 := kB BK254 hb; replace HB := kH HB hb; (try clear hb); (try clear hb2); (try clear hk); (try clear hi)) | ((with_reducible refine gate_dst (N := 24) rfl ?_); (try (refine gate_guard (by rfl) ?_; dsimp only)); refine box_event ?hg (N := 24) ?hd (cs := #[.int .i64 0, .int .i64 0]) (t := 28) ?hr ?_; (case hd => rfl); (case hg => rfl); (case hr => first | (go_simp; done) | (go_simp; rfl)); intro gb258 hg w298 hbox hb; have BK258 := Aside0.mk (hbox); have GW258 := kG HB hg; have GE258 := kG HB hg; have NB203_258 := kN BK203 hg; have NB258_203 := kM BK203 hg; have NB204_258 := kN BK204 hg; have NB258_204 := kM BK204 hg; have NB205_258 := kN BK205 hg; have NB258_205 := kM BK205 hg; have NB209_258 := kN BK209 hg; have NB258_209 := kM BK209 hg; have NB213_258 := kN BK213 hg; have NB258_213 := kM BK213 hg; have NB217_258 := kN BK217 hg; have NB258_217 := kM BK217 hg; have NB221_258 := kN BK221 hg; have NB258_221 := kM BK221 hg; have NB244_258 := kN BK244 hg; have NB258_244 := kM BK244 hg; have NB254_258 := kN BK254 hg; have NB258_254 := kM BK254 hg; replace HO_7 := kR HO_7 hb; replace HO_8 := kR HO_8 hb; replace BK203 := kB BK203 hb; replace BK204 := kB BK204 hb; replace BK205 := kB BK205 hb; replace BK209 := kB BK209 hb; replace BK213 := kB BK213 hb; replace BK217 := kB BK217 hb; replace BK221 := kB BK221 hb; replace BK244 := kB BK244 hb; replace BK254 := kB BK254 hb; replace HB := kH HB hb; clear hb hbox hg; have hnb299 := NB258_203.out; have hnc299 := NB203_258.out; have hnb300 := NB258_204.out; have hnc300 := NB204_258.out; have hnb301 := NB258_205.out; have hnc301 := NB205_258.out; have hnb302 := NB258_209.out; have hnc302 := NB209_258.out; have hnb303 := NB258_213.out; have hnc303 := NB213_258.out; have hnb304 := NB258_217.out; have hnc304 := NB217_258.out; have hnb305 := NB258_221.out; have hnc305 := NB221_258.out; have hnb306 := NB258_244.out; have hnc306 := NB244_258.out; have hnb307 := NB258_254.out; have hnc307 := NB254_258.out; have hcz308_0 : w298.cell? ⟨gb258, 0, none⟩ = some (.int .i64 0) := (blk_cell BK258.out 0).trans rfl; have hcz308_1 : w298.cell? ⟨gb258, 1, none⟩ = some (.int .i64 0) := (blk_cell BK258.out 1).trans rfl; have hfz308_0 := blk_frozen BK258.out 0; have hfz308_1 := blk_frozen BK258.out 1) | ((with_reducible refine gate_store (t := 28) (p := 24) rfl ?_); refine store_event (t := 28) (p := 24) (v := ?vo_w309) (w1 := ((w298.setCell ⟨gb258, 0, none⟩ (.int .i64 t255)).setCell ⟨gb258, 1, none⟩ (.int .i64 t256))) ?hg ?ho ?hn ?hr ?_; (case ho => rfl); (case hg => rfl); (case hn => rfl); (case hr => first | (go_simp; done) | (go_simp; rfl)); intro w309 hw; replace HO_7 := kFR HO_7 BK258 hw (by decide); replace HO_8 := kFR HO_8 BK258 hw (by decide); replace BK203 := kF BK203 NB203_258 hw; replace BK204 := kF BK204 NB204_258 hw; replace BK205 := kF BK205 NB205_258 hw; replace BK209 := kF BK209 NB209_258 hw; replace BK213 := kF BK213 NB213_258 hw; replace BK217 := kF BK217 NB217_258 hw; replace BK221 := kF BK221 NB221_258 hw; replace BK244 := kF BK244 NB244_258 hw; replace BK254 := kF BK254 NB254_258 hw; replace BK258 : Aside0 (w309.heap[gb258]? = some (.cells #[.int .i64 t255, .int .i64 t256] 28 (0, 0))) := ⟨(by rw [hw]; exact (by (with_reducible repeat (first | refine blk_drewN ?_ _ | refine blk_drew ?_ | refine blk_alloc ?_ _)); refine blk_put (cs := #[.int .i64 t255, .int .i64 0]) ?_ 1 _ rfl; (with_reducible repeat (first | refine blk_drewN ?_ _ | refine blk_drew ?_ | refine blk_alloc ?_ _)); refine blk_put (cs := #[.int .i64 0, .int .i64 0]) ?_ 0 _ rfl; (with_reducible repeat (first | refine blk_drewN ?_ _ | refine blk_drew ?_ | refine blk_alloc ?_ _)); exact BK258.out))⟩; replace HB := kFH HB GE258 hw; clear hw))
              by_cases c264 : t243 = 0
              ·rw [if_pos c264] at H
               have c264b0 : (t243 == 0) = true := beq_iff_eq.mpr c264
               have c264b1 : (t243 != 0) = false := bne_eq_false_iff_eq.mpr c264
               clear c264
               by_cases c265 : t253 = 0
               ·rw [if_pos c265] at H
                have c265b0 : (t253 == 0) = true := beq_iff_eq.mpr c265
                have c265b1 : (t253 != 0) = false := bne_eq_false_iff_eq.mpr c265
                clear c265
                by_cases c266 : t257 = 0
                ·rw [if_pos c266] at H
                 have c266b0 : (t257 == 0) = true := beq_iff_eq.mpr c266
                 have c266b1 : (t257 != 0) = false := bne_eq_false_iff_eq.mpr c266
                 clear c266
                 replace H := Option.bind_eq_some_iff.mp H
                 obtain ⟨t259, A2670, H⟩ := H
                 replace H : (if t259 ≤ 0 then (some ((t255 == 1 && (t256 == 1)) == (t242 == 0))) else (none)) = some r := H
                 have A267 := Aside0.mk A2670
                 clear A2670
                 by_cases c268 : t259 ≤ 0
                 ·rw [if_pos c268] at H
                  have c268b0 : decide (t259 ≤ 0) = true := decide_eq_true c268
                  clear c268
                  obtain rfl := Option.some.inj H
                  replace HO_7 := Aside0.mk (Kd.R_drew HO_7.out); replace HO_8 := Aside0.mk (Kd.R_drew HO_8.out); replace BK203 := Aside0.mk (blk_drew BK203.out); replace BK204 := Aside0.mk (blk_drew BK204.out); replace BK205 := Aside0.mk (blk_drew BK205.out); replace BK209 := Aside0.mk (blk_drew BK209.out); replace BK213 := Aside0.mk (blk_drew BK213.out); replace BK217 := Aside0.mk (blk_drew BK217.out); replace BK221 := Aside0.mk (blk_drew BK221.out); replace BK244 := Aside0.mk (blk_drew BK244.out); replace BK254 := Aside0.mk (blk_drew BK254.out); replace BK258 := Aside0.mk (blk_drew BK258.out); replace HB := Aside0.mk (below_drew1 HB.out)
                  refine start_ (n := 39) (S := fun w' => w'.cell? ⟨gb258, 0, none⟩ = some (.int .i64 t255) ∧ w'.cell? ⟨gb258, 1, none⟩ = some (.int .i64 t256) ∧ w'.cell? ⟨gb204, 0, none⟩ = some (.int .i64 1) ∧ w'.cell? ⟨gb204, 1, none⟩ = some (.int .i64 1) ∧ w'.cell? ⟨gb244, 0, none⟩ = some (.int .i64 t239) ∧ w'.cell? ⟨gb244, 1, none⟩ = some (.int .i64 t240) ∧ w'.cell? ⟨gb244, 2, none⟩ = some (.int .i64 t241) ∧ w'.cell? ⟨gb244, 3, none⟩ = some (.int .i64 t242)) (ds := []) mB33 (by kernel_rfl) rfl rfl ⟨(blk_cell BK258.out 0).trans rfl, (blk_cell BK258.out 1).trans rfl, (blk_cell BK204.out 0).trans rfl, (blk_cell BK204.out 1).trans rfl, (blk_cell BK244.out 0).trans rfl, (blk_cell BK244.out 1).trans rfl, (blk_cell BK244.out 2).trans rfl, (blk_cell BK244.out 3).trans rfl⟩ (fun hHeld => ?_); refine with_tabW synopticlaw38_ScoreBounds.tab20 synopticlaw38_ScoreBounds.bits20 (fun HT_ HW_ => ?_)
                  generalize w309.drew = w310 at HO_7 HO_8 BK203 BK204 BK205 BK209 BK213 BK217 BK221 BK244 BK254 BK258 HB hHeld ⊢
                  refine pure_ (i := 0) (N := some 184) (v := ?_) (a' := ?_) mB34 rfl rfl (any_of HT_.out (by kernel_rfl)) (fun _ _ _ h => h) (Or.inl ⟨by rfl, ?_⟩) ?_ ?_; rotate_left; (intro w'; go_simp; with_reducible rfl); rotate_left; (simp only [Act.put, List.setIfInBounds_toArray, List.set_cons_zero, List.set_cons_succ, i64_w, i32_w]; rfl)
                  refine pure_ (i := 1) (N := some 185) (v := ?_) (a' := ?_) mB35 rfl rfl (any_of HT_.out (by kernel_rfl)) (fun _ _ _ h => h) (Or.inl ⟨by rfl, ?_⟩) ?_ ?_; rotate_left; (intro w'; go_simp; with_reducible rfl); rotate_left; (simp only [Act.put, List.setIfInBounds_toArray, List.set_cons_zero, List.set_cons_succ, i64_w, i32_w]; rfl)
                  refine pure_ (i := 2) (N := some 186) (v := ?_) (a' := ?_) mB36 rfl rfl (any_of HT_.out (by kernel_rfl)) (fun _ _ _ h => h) (Or.inl ⟨by rfl, ?_⟩) ?_ ?_; rotate_left; (intro w'; go_simp; with_reducible rfl); rotate_left; (simp only [Act.put, List.setIfInBounds_toArray, List.set_cons_zero, List.set_cons_succ, i64_w, i32_w]; rfl)
                  refine pure_ (i := 3) (N := some 187) (v := ?_) (a' := ?_) mB37 rfl rfl (any_of HT_.out (by kernel_rfl)) (fun _ _ _ h => h) (Or.inl ⟨by rfl, ?_⟩) ?_ ?_; rotate_left; (intro w'; go_simp; with_reducible rfl); rotate_left; (simp only [Act.put, List.setIfInBounds_toArray, List.set_cons_zero, List.set_cons_succ, i64_w, i32_w]; rfl)
                  refine pure_ (i := 4) (N := some 188) (v := ?_) (a' := ?_) mB38 rfl rfl (any_of HT_.out (by kernel_rfl)) (fun _ _ _ h => h) (Or.inl ⟨by rfl, ?_⟩) ?_ ?_; rotate_left; (intro w'; go_simp; with_reducible rfl); rotate_left; (simp only [Act.put, List.setIfInBounds_toArray, List.set_cons_zero, List.set_cons_succ, i64_w, i32_w]; rfl)
                  refine pure_ (i := 5) (N := some 189) (v := ?_) (a' := ?_) mB39 rfl rfl (any_of HT_.out (by kernel_rfl)) (fun _ _ _ h => h) (Or.inl ⟨by rfl, ?_⟩) ?_ ?_; rotate_left; (intro w'; go_simp; with_reducible rfl); rotate_left; (simp only [Act.put, List.setIfInBounds_toArray, List.set_cons_zero, List.set_cons_succ, i64_w, i32_w]; rfl)
                  refine pure_ (i := 6) (N := some 190) (v := ?_) (a' := ?_) mB40 rfl rfl (any_of HT_.out (by kernel_rfl)) (fun _ _ _ h => h) (Or.inl ⟨by rfl, ?_⟩) ?_ ?_; rotate_left; (intro w'; go_simp; with_reducible rfl); rotate_left; (simp only [Act.put, List.setIfInBounds_toArray, List.set_cons_zero, List.set_cons_succ, i64_w, i32_w]; rfl)
                  refine pure_ (i := 7) (N := some 191) (v := ?_) (a' := ?_) mB41 rfl rfl (any_of HT_.out (by kernel_rfl)) (fun _ _ _ h => h) (Or.inl ⟨by rfl, ?_⟩) ?_ ?_; rotate_left; (intro w'; go_simp; with_reducible rfl); rotate_left; (simp only [Act.put, List.setIfInBounds_toArray, List.set_cons_zero, List.set_cons_succ, i64_w, i32_w]; rfl)
                  refine pure_ (i := 8) (N := some 192) (v := ?_) (a' := ?_) mB42 rfl rfl (any_of HT_.out (by kernel_rfl)) (fun _ _ _ h => h) (Or.inl ⟨by rfl, ?_⟩) ?_ ?_; rotate_left; (intro w'; go_simp; with_reducible rfl); rotate_left; (simp only [Act.put, List.setIfInBounds_toArray, List.set_cons_zero, List.set_cons_succ, i64_w, i32_w]; rfl)
                  refine pure_ (i := 9) (N := some 193) (v := ?_) (a' := ?_) mB43 rfl rfl (any_of HT_.out (by kernel_rfl)) (fun _ _ _ h => h) (Or.inl ⟨by rfl, ?_⟩) ?_ ?_; rotate_left; (intro w'; go_simp; with_reducible rfl); rotate_left; (simp only [Act.put, List.setIfInBounds_toArray, List.set_cons_zero, List.set_cons_succ, i64_w, i32_w]; rfl)
                  refine pure_ (i := 10) (N := some 194) (v := undef) (a' := ?_) mB44 rfl rfl (any_of HT_.out (by kernel_rfl)) (fun _ _ _ h => h) (Or.inr ⟨by rfl, rfl⟩) ?_ ?_
                  rotate_left
                  ·simp only [Act.put, List.setIfInBounds_toArray, List.set_cons_zero, List.set_cons_succ, i64_w, i32_w]
                   rfl
                  refine pure_ (i := 11) (N := some 195) (v := undef) (a' := ?_) mB45 rfl rfl (any_of HT_.out (by kernel_rfl)) (fun _ _ _ h => h) (Or.inr ⟨by rfl, rfl⟩) ?_ ?_
                  rotate_left
                  ·simp only [Act.put, List.setIfInBounds_toArray, List.set_cons_zero, List.set_cons_succ, i64_w, i32_w]
                   rfl
                  refine pure_ (i := 12) (N := some 196) (v := undef) (a' := ?_) mB46 rfl rfl (any_of HT_.out (by kernel_rfl)) (fun _ _ _ h => h) (Or.inr ⟨by rfl, rfl⟩) ?_ ?_
                  rotate_left
                  ·simp only [Act.put, List.setIfInBounds_toArray, List.set_cons_zero, List.set_cons_succ, i64_w, i32_w]
                   rfl
                  refine pure_ (i := 13) (N := some 197) (v := undef) (a' := ?_) mB47 rfl rfl (any_of HT_.out (by kernel_rfl)) (fun _ _ _ h => h) (Or.inr ⟨by rfl, rfl⟩) ?_ ?_
                  rotate_left
                  ·simp only [Act.put, List.setIfInBounds_toArray, List.set_cons_zero, List.set_cons_succ, i64_w, i32_w]
                   rfl
                  refine pure_ (i := 14) (N := some 198) (v := undef) (a' := ?_) mB48 rfl rfl (any_of HT_.out (by kernel_rfl)) (fun _ _ _ h => h) (Or.inr ⟨by rfl, rfl⟩) ?_ ?_
                  rotate_left
                  ·simp only [Act.put, List.setIfInBounds_toArray, List.set_cons_zero, List.set_cons_succ, i64_w, i32_w]
                   rfl
                  refine pure_ (i := 15) (N := some 199) (v := undef) (a' := ?_) mB49 rfl rfl (any_of HT_.out (by kernel_rfl)) (fun _ _ _ h => h) (Or.inr ⟨by rfl, rfl⟩) ?_ ?_
                  rotate_left
                  ·simp only [Act.put, List.setIfInBounds_toArray, List.set_cons_zero, List.set_cons_succ, i64_w, i32_w]
                   rfl
                  refine pure_ (i := 16) (N := some 200) (v := undef) (a' := ?_) mB50 rfl rfl (any_of HT_.out (by kernel_rfl)) (fun _ _ _ h => h) (Or.inr ⟨by rfl, rfl⟩) ?_ ?_
                  rotate_left
                  ·simp only [Act.put, List.setIfInBounds_toArray, List.set_cons_zero, List.set_cons_succ, i64_w, i32_w]
                   rfl
                  refine pure_ (i := 17) (N := some 201) (v := ?_) (a' := ?_) mB51 rfl rfl (any_of HT_.out (by kernel_rfl)) (fun _ _ _ h => h) (Or.inl ⟨by rfl, ?_⟩) ?_ ?_; rotate_left; (intro w'; go_simp; with_reducible rfl); rotate_left; (simp only [Act.put, List.setIfInBounds_toArray, List.set_cons_zero, List.set_cons_succ, i64_w, i32_w]; rfl)
                  refine pure_ (i := 18) (N := some 202) (v := ?_) (a' := ?_) mB52 rfl rfl (any_of HT_.out (by kernel_rfl)) (fun _ _ _ h => h) (Or.inl ⟨by rfl, ?_⟩) ?_ ?_; rotate_left; (intro w'; go_simp; with_reducible rfl); rotate_left; (simp only [Act.put, List.setIfInBounds_toArray, List.set_cons_zero, List.set_cons_succ, i64_w, i32_w]; rfl)
                  refine pure_ (i := 19) (N := some 203) (v := ?_) (a' := ?_) mB53 rfl rfl (any_of HT_.out (by kernel_rfl)) (fun _ _ _ h => h) (Or.inl ⟨by rfl, ?_⟩) ?_ ?_; rotate_left; (intro w'; go_simp; with_reducible rfl); rotate_left; (simp only [Act.put, List.setIfInBounds_toArray, List.set_cons_zero, List.set_cons_succ, i64_w, i32_w]; rfl)
                  refine pure_ (i := 20) (N := some 204) (v := ?_) (a' := ?_) mB54 rfl rfl (any_of HT_.out (by kernel_rfl)) (fun _ _ _ h => h) (Or.inl ⟨by rfl, ?_⟩) ?_ ?_; rotate_left; (intro w'; go_simp; with_reducible rfl); rotate_left; (simp only [Act.put, List.setIfInBounds_toArray, List.set_cons_zero, List.set_cons_succ, i64_w, i32_w]; rfl)
                  refine pure_ (i := 21) (N := some 205) (v := ?_) (a' := ?_) mB55 rfl rfl (any_of HT_.out (by kernel_rfl)) (fun _ _ _ h => h) (Or.inl ⟨by rfl, ?_⟩) ?_ ?_; rotate_left; (intro w'; go_simp; with_reducible rfl); rotate_left; (simp only [Act.put, List.setIfInBounds_toArray, List.set_cons_zero, List.set_cons_succ, i64_w, i32_w]; rfl)
                  refine take_ (i := 22) (N := some 206) (v := ?_) (a' := ?_) mB56 rfl rfl (take_ofW HT_.out HW_.out (by kernel_rfl)) (fun _ _ _ h => h) (Or.inl ⟨by rfl, ?_⟩) hHeld ?_ ?_; rotate_left; (rintro w' ⟨s0, s1, s2, s3, s4, s5, s6, s7⟩; go_simp; with_reducible rfl); rotate_left; (simp only [Act.put, List.setIfInBounds_toArray, List.set_cons_zero, List.set_cons_succ, i64_w, i32_w]; rfl)
                  refine take_ (i := 23) (N := some 207) (v := ?_) (a' := ?_) mB57 rfl rfl (take_ofW HT_.out HW_.out (by kernel_rfl)) (fun _ _ _ h => h) (Or.inl ⟨by rfl, ?_⟩) hHeld ?_ ?_; rotate_left; (rintro w' ⟨s0, s1, s2, s3, s4, s5, s6, s7⟩; go_simp; with_reducible rfl); rotate_left; (simp only [Act.put, List.setIfInBounds_toArray, List.set_cons_zero, List.set_cons_succ, i64_w, i32_w]; rfl)
                  refine one_ (i := 24) (N := some 208) mB58 rfl rfl (one_of HT_.out (by kernel_rfl)) (by decide) (fun K hK => ?_)
                  refine goes_ Try.func38 (by kernel_rfl) rfl #[.agg #[.int .i64 t255, .int .i64 t256], .agg #[.int .i64 1, .int .i64 1]] (by rfl) rfl rfl (by (try simp only [List.map_toArray, List.map_cons, List.map_nil]); first | done | rfl | (simp only [List.length_drop, List.length_take]; rfl)) ?_
                  with_reducible refine (score_Compare.calls kj238 t255 t256 1 1 t259 _ A267.out).mono ?_
                  rintro e w311 ⟨rfl, hb⟩
                  refine ⟨_, rfl, ?_⟩
                  replace HO_7 := kR HO_7 hb; replace HO_8 := kR HO_8 hb; replace BK203 := kB BK203 hb; replace BK204 := kB BK204 hb; replace BK205 := kB BK205 hb; replace BK209 := kB BK209 hb; replace BK213 := kB BK213 hb; replace BK217 := kB BK217 hb; replace BK221 := kB BK221 hb; replace BK244 := kB BK244 hb; replace BK254 := kB BK254 hb; replace BK258 := kB BK258 hb; replace HB := kH HB hb
                  (try clear hb)
                  (try clear hb2)
                  (try clear hk)
                  (try clear hi)
                  refine hK.out _ _ ⟨(blk_cell BK258.out 0).trans rfl, (blk_cell BK258.out 1).trans rfl, (blk_cell BK204.out 0).trans rfl, (blk_cell BK204.out 1).trans rfl, (blk_cell BK244.out 0).trans rfl, (blk_cell BK244.out 1).trans rfl, (blk_cell BK244.out 2).trans rfl, (blk_cell BK244.out 3).trans rfl⟩ (fun hHeld => ?_)
                  clear hK K
                  refine norm_ (a' := ?_) ?_ ?_
                  rotate_left
                  ·show Act.put _ (some 208) _ = _
                   simp only [Act.put, List.setIfInBounds_toArray, List.set_cons_zero, List.set_cons_succ, i64_w, i32_w]
                   rfl
                  refine pure_ (i := 25) (N := some 209) (v := ?_) (a' := ?_) mB59 rfl rfl (any_of HT_.out (by kernel_rfl)) (fun _ _ _ h => h) (Or.inl ⟨by rfl, ?_⟩) ?_ ?_; rotate_left; (intro w'; go_simp; with_reducible rfl); rotate_left; (simp only [Act.put, List.setIfInBounds_toArray, List.set_cons_zero, List.set_cons_succ, i64_w, i32_w]; rfl)
                  refine pure_ (i := 26) (N := some 210) (v := ?_) (a' := ?_) mB60 rfl rfl (any_of HT_.out (by kernel_rfl)) (fun _ _ _ h => h) (Or.inl ⟨by rfl, ?_⟩) ?_ ?_; rotate_left; (intro w'; go_simp; with_reducible rfl); rotate_left; (simp only [Act.put, List.setIfInBounds_toArray, List.set_cons_zero, List.set_cons_succ, i64_w, i32_w]; rfl)
                  refine pure_ (i := 27) (N := some 211) (v := ?_) (a' := ?_) mB61 rfl rfl (any_of HT_.out (by kernel_rfl)) (fun _ _ _ h => h) (Or.inl ⟨by rfl, ?_⟩) ?_ ?_; rotate_left; (intro w'; go_simp; with_reducible rfl); rotate_left; (simp only [Act.put, List.setIfInBounds_toArray, List.set_cons_zero, List.set_cons_succ, i64_w, i32_w]; rfl)
                  refine pure_ (i := 31) (N := some 215) (v := ?_) (a' := ?_) mB62 rfl rfl (any_of HT_.out (by kernel_rfl)) (fun _ _ _ h => h) (Or.inl ⟨by rfl, ?_⟩) ?_ ?_; rotate_left; (intro w'; go_simp; with_reducible rfl); rotate_left; (simp only [Act.put, List.setIfInBounds_toArray, List.set_cons_zero, List.set_cons_succ, i64_w, i32_w]; rfl)
                  refine take_ (i := 28) (N := some 212) (v := ?_) (a' := ?_) mB63 rfl rfl (take_ofW HT_.out HW_.out (by kernel_rfl)) (fun _ _ _ h => h) (Or.inl ⟨by rfl, ?_⟩) hHeld ?_ ?_; rotate_left; (rintro w' ⟨s0, s1, s2, s3, s4, s5, s6, s7⟩; go_simp; with_reducible rfl); rotate_left; (simp only [Act.put, List.setIfInBounds_toArray, List.set_cons_zero, List.set_cons_succ, i64_w, i32_w]; rfl)
                  refine take_ (i := 29) (N := some 213) (v := ?_) (a' := ?_) mB64 rfl rfl (take_ofW HT_.out HW_.out (by kernel_rfl)) (fun _ _ _ h => h) (Or.inl ⟨by rfl, ?_⟩) hHeld ?_ ?_; rotate_left; (rintro w' ⟨s0, s1, s2, s3, s4, s5, s6, s7⟩; go_simp; with_reducible rfl); rotate_left; (simp only [Act.put, List.setIfInBounds_toArray, List.set_cons_zero, List.set_cons_succ, i64_w, i32_w]; rfl)
                  refine pure_ (i := 30) (N := some 214) (v := ?_) (a' := ?_) mB65 rfl rfl (any_of HT_.out (by kernel_rfl)) (fun _ _ _ h => h) (Or.inl ⟨by rfl, ?_⟩) ?_ ?_; rotate_left; (intro w'; go_simp; with_reducible rfl); rotate_left; (simp only [Act.put, List.setIfInBounds_toArray, List.set_cons_zero, List.set_cons_succ, i64_w, i32_w]; rfl)
                  refine take_ (i := 32) (N := some 216) (v := ?_) (a' := ?_) mB66 rfl rfl (take_ofW HT_.out HW_.out (by kernel_rfl)) (fun _ _ _ h => h) (Or.inl ⟨by rfl, ?_⟩) hHeld ?_ ?_; rotate_left; (rintro w' ⟨s0, s1, s2, s3, s4, s5, s6, s7⟩; go_simp; with_reducible rfl); rotate_left; (simp only [Act.put, List.setIfInBounds_toArray, List.set_cons_zero, List.set_cons_succ, i64_w, i32_w]; rfl)
                  refine pure_ (i := 33) (N := some 217) (v := ?_) (a' := ?_) mB67 rfl rfl (any_of HT_.out (by kernel_rfl)) (fun _ _ _ h => h) (Or.inl ⟨by rfl, ?_⟩) ?_ ?_; rotate_left; (intro w'; go_simp; with_reducible rfl); rotate_left; (simp only [Act.put, List.setIfInBounds_toArray, List.set_cons_zero, List.set_cons_succ, i64_w, i32_w]; rfl)
                  refine pure_ (i := 34) (N := some 218) (v := ?_) (a' := ?_) mB68 rfl rfl (any_of HT_.out (by kernel_rfl)) (fun _ _ _ h => h) (Or.inl ⟨by rfl, ?_⟩) ?_ ?_; rotate_left; (intro w'; go_simp; with_reducible rfl); rotate_left; (simp only [Act.put, List.setIfInBounds_toArray, List.set_cons_zero, List.set_cons_succ, i64_w, i32_w]; rfl)
                  refine pure_ (i := 35) (N := some 219) (v := ?_) (a' := ?_) mB69 rfl rfl (any_of HT_.out (by kernel_rfl)) (fun _ _ _ h => h) (Or.inl ⟨by rfl, ?_⟩) ?_ ?_; rotate_left; (intro w'; go_simp; with_reducible rfl); rotate_left; (simp only [Act.put, List.setIfInBounds_toArray, List.set_cons_zero, List.set_cons_succ, i64_w, i32_w]; rfl)
                  refine pure_ (i := 36) (N := some 220) (v := ?_) (a' := ?_) mB70 rfl rfl (any_of HT_.out (by kernel_rfl)) (fun _ _ _ h => h) (Or.inl ⟨by rfl, ?_⟩) ?_ ?_; rotate_left; (intro w'; go_simp; with_reducible rfl); rotate_left; (simp only [Act.put, List.setIfInBounds_toArray, List.set_cons_zero, List.set_cons_succ, i64_w, i32_w]; rfl)
                  refine pure_ (i := 37) (N := some 221) (v := ?_) (a' := ?_) mB71 rfl rfl (any_of HT_.out (by kernel_rfl)) (fun _ _ _ h => h) (Or.inl ⟨by rfl, ?_⟩) ?_ ?_; rotate_left; (intro w'; go_simp; with_reducible rfl); rotate_left; (simp only [Act.put, List.setIfInBounds_toArray, List.set_cons_zero, List.set_cons_succ, i64_w, i32_w]; rfl)
                  refine pure_ (i := 38) (N := some 6) (v := ?_) (a' := ?_) mB72 rfl rfl (any_of HT_.out (by kernel_rfl)) (fun _ _ _ h => h) (Or.inl ⟨by rfl, ?_⟩) ?_ ?_; rotate_left; (intro w'; go_simp; with_reducible rfl); rotate_left; (simp only [Act.put, List.setIfInBounds_toArray, List.set_cons_zero, List.set_cons_succ, i64_w, i32_w]; rfl)
                  refine done_ (done_of HT_.out (by kernel_rfl)) ?_
                  try go_wp2
                  go_ret
                  exact ⟨by first | rfl | (simp [errW_none, errW_some] <;> rfl) | (simp only [← hji256]; first | rfl | (simp [errW_none, errW_some] <;> rfl)) | (simp [*, errW_none, errW_some] <;> rfl), by repeat (first | (with_reducible first | exact HB.out | apply below_alloc | apply pw_below_drewN | apply below_drew1 | refine below_set ?_ GE203.out | refine below_set ?_ GE204.out | refine below_set ?_ GE205.out | refine below_set ?_ GE209.out | refine below_set ?_ GE213.out | refine below_set ?_ GE217.out | refine below_set ?_ GE221.out | refine below_set ?_ GE244.out | refine below_set ?_ GE254.out | refine below_set ?_ GE258.out) | exact HB.out)⟩
                 ·rw [if_neg c268] at H
                  have c268b0 : decide (t259 ≤ 0) = false := decide_eq_false c268
                  clear c268
                  exact absurd H (by simp)
                ·rw [if_neg c266] at H
                 have c266b0 : (t257 == 0) = false := beq_eq_false_iff_ne.mpr c266
                 have c266b1 : (t257 != 0) = true := bne_iff_ne.mpr c266
                 by_cases c312 : (ji256) = 0
                 ·rw [if_pos c312] at H
                  have c312b0 : ((ji256) == 0) = true := beq_iff_eq.mpr c312
                  have c312b1 : ((ji256) != 0) = false := bne_eq_false_iff_eq.mpr c312
                  clear c312
                  obtain rfl := Option.some.inj H
                  replace HO_7 := Aside0.mk (Kd.R_drew HO_7.out); replace HO_8 := Aside0.mk (Kd.R_drew HO_8.out); replace BK203 := Aside0.mk (blk_drew BK203.out); replace BK204 := Aside0.mk (blk_drew BK204.out); replace BK205 := Aside0.mk (blk_drew BK205.out); replace BK209 := Aside0.mk (blk_drew BK209.out); replace BK213 := Aside0.mk (blk_drew BK213.out); replace BK217 := Aside0.mk (blk_drew BK217.out); replace BK221 := Aside0.mk (blk_drew BK221.out); replace BK244 := Aside0.mk (blk_drew BK244.out); replace BK254 := Aside0.mk (blk_drew BK254.out); replace BK258 := Aside0.mk (blk_drew BK258.out); replace HB := Aside0.mk (below_drew1 HB.out)
                  refine start_ (n := 39) (S := fun w' => True) (ds := []) mB33 (by kernel_rfl) rfl rfl trivial (fun hHeld => ?_); refine with_tabW synopticlaw38_ScoreBounds.tab20 synopticlaw38_ScoreBounds.bits20 (fun HT_ HW_ => ?_)
                  generalize w309.drew = w354 at HO_7 HO_8 BK203 BK204 BK205 BK209 BK213 BK217 BK221 BK244 BK254 BK258 HB hHeld ⊢
                  refine pure_ (i := 0) (N := some 184) (v := ?_) (a' := ?_) mB34 rfl rfl (any_of HT_.out (by kernel_rfl)) (fun _ _ _ h => h) (Or.inl ⟨by rfl, ?_⟩) ?_ ?_; rotate_left; (intro w'; go_simp; with_reducible rfl); rotate_left; (simp only [Act.put, List.setIfInBounds_toArray, List.set_cons_zero, List.set_cons_succ, i64_w, i32_w]; rfl)
                  refine pure_ (i := 1) (N := some 185) (v := ?_) (a' := ?_) mB35 rfl rfl (any_of HT_.out (by kernel_rfl)) (fun _ _ _ h => h) (Or.inl ⟨by rfl, ?_⟩) ?_ ?_; rotate_left; (intro w'; go_simp; with_reducible rfl); rotate_left; (simp only [Act.put, List.setIfInBounds_toArray, List.set_cons_zero, List.set_cons_succ, i64_w, i32_w]; rfl)
                  refine pure_ (i := 2) (N := some 186) (v := ?_) (a' := ?_) mB36 rfl rfl (any_of HT_.out (by kernel_rfl)) (fun _ _ _ h => h) (Or.inl ⟨by rfl, ?_⟩) ?_ ?_; rotate_left; (intro w'; go_simp; with_reducible rfl); rotate_left; (simp only [Act.put, List.setIfInBounds_toArray, List.set_cons_zero, List.set_cons_succ, i64_w, i32_w]; rfl)
                  refine pure_ (i := 3) (N := some 187) (v := ?_) (a' := ?_) mB37 rfl rfl (any_of HT_.out (by kernel_rfl)) (fun _ _ _ h => h) (Or.inl ⟨by rfl, ?_⟩) ?_ ?_; rotate_left; (intro w'; go_simp; with_reducible rfl); rotate_left; (simp only [Act.put, List.setIfInBounds_toArray, List.set_cons_zero, List.set_cons_succ, i64_w, i32_w]; rfl)
                  refine pure_ (i := 4) (N := some 188) (v := ?_) (a' := ?_) mB38 rfl rfl (any_of HT_.out (by kernel_rfl)) (fun _ _ _ h => h) (Or.inl ⟨by rfl, ?_⟩) ?_ ?_; rotate_left; (intro w'; go_simp; with_reducible rfl); rotate_left; (simp only [Act.put, List.setIfInBounds_toArray, List.set_cons_zero, List.set_cons_succ, i64_w, i32_w]; rfl)
                  refine pure_ (i := 5) (N := some 189) (v := ?_) (a' := ?_) mB39 rfl rfl (any_of HT_.out (by kernel_rfl)) (fun _ _ _ h => h) (Or.inl ⟨by rfl, ?_⟩) ?_ ?_; rotate_left; (intro w'; go_simp; with_reducible rfl); rotate_left; (simp only [Act.put, List.setIfInBounds_toArray, List.set_cons_zero, List.set_cons_succ, i64_w, i32_w]; rfl)
                  refine pure_ (i := 6) (N := some 190) (v := ?_) (a' := ?_) mB40 rfl rfl (any_of HT_.out (by kernel_rfl)) (fun _ _ _ h => h) (Or.inl ⟨by rfl, ?_⟩) ?_ ?_; rotate_left; (intro w'; go_simp; with_reducible rfl); rotate_left; (simp only [Act.put, List.setIfInBounds_toArray, List.set_cons_zero, List.set_cons_succ, i64_w, i32_w]; rfl)
                  refine pure_ (i := 7) (N := some 191) (v := ?_) (a' := ?_) mB41 rfl rfl (any_of HT_.out (by kernel_rfl)) (fun _ _ _ h => h) (Or.inl ⟨by rfl, ?_⟩) ?_ ?_; rotate_left; (intro w'; go_simp; with_reducible rfl); rotate_left; (simp only [Act.put, List.setIfInBounds_toArray, List.set_cons_zero, List.set_cons_succ, i64_w, i32_w]; rfl)
                  refine pure_ (i := 8) (N := some 192) (v := ?_) (a' := ?_) mB42 rfl rfl (any_of HT_.out (by kernel_rfl)) (fun _ _ _ h => h) (Or.inl ⟨by rfl, ?_⟩) ?_ ?_; rotate_left; (intro w'; go_simp; with_reducible rfl); rotate_left; (simp only [Act.put, List.setIfInBounds_toArray, List.set_cons_zero, List.set_cons_succ, i64_w, i32_w]; rfl)
                  refine pure_ (i := 9) (N := some 193) (v := ?_) (a' := ?_) mB43 rfl rfl (any_of HT_.out (by kernel_rfl)) (fun _ _ _ h => h) (Or.inl ⟨by rfl, ?_⟩) ?_ ?_; rotate_left; (intro w'; go_simp; with_reducible rfl); rotate_left; (simp only [Act.put, List.setIfInBounds_toArray, List.set_cons_zero, List.set_cons_succ, i64_w, i32_w]; rfl)
                  refine pure_ (i := 10) (N := some 194) (v := ?_) (a' := ?_) mB44 rfl rfl (any_of HT_.out (by kernel_rfl)) (fun _ _ _ h => h) (Or.inl ⟨by rfl, ?_⟩) ?_ ?_; rotate_left; (intro w'; go_simp; with_reducible rfl); rotate_left; (simp only [Act.put, List.setIfInBounds_toArray, List.set_cons_zero, List.set_cons_succ, i64_w, i32_w]; rfl)
                  refine pure_ (i := 11) (N := some 195) (v := ?_) (a' := ?_) mB45 rfl rfl (any_of HT_.out (by kernel_rfl)) (fun _ _ _ h => h) (Or.inl ⟨by rfl, ?_⟩) ?_ ?_; rotate_left; (intro w'; go_simp; with_reducible rfl); rotate_left; (simp only [Act.put, List.setIfInBounds_toArray, List.set_cons_zero, List.set_cons_succ, i64_w, i32_w]; rfl)
                  refine pure_ (i := 12) (N := some 196) (v := ?_) (a' := ?_) mB46 rfl rfl (any_of HT_.out (by kernel_rfl)) (fun _ _ _ h => h) (Or.inl ⟨by rfl, ?_⟩) ?_ ?_; rotate_left; (intro w'; go_simp; with_reducible rfl); rotate_left; (simp only [Act.put, List.setIfInBounds_toArray, List.set_cons_zero, List.set_cons_succ, i64_w, i32_w]; rfl)
                  refine pure_ (i := 13) (N := some 197) (v := undef) (a' := ?_) mB47 rfl rfl (any_of HT_.out (by kernel_rfl)) (fun _ _ _ h => h) (Or.inr ⟨by rfl, rfl⟩) ?_ ?_
                  rotate_left
                  ·simp only [Act.put, List.setIfInBounds_toArray, List.set_cons_zero, List.set_cons_succ, i64_w, i32_w]
                   rfl
                  refine pure_ (i := 14) (N := some 198) (v := undef) (a' := ?_) mB48 rfl rfl (any_of HT_.out (by kernel_rfl)) (fun _ _ _ h => h) (Or.inr ⟨by rfl, rfl⟩) ?_ ?_
                  rotate_left
                  ·simp only [Act.put, List.setIfInBounds_toArray, List.set_cons_zero, List.set_cons_succ, i64_w, i32_w]
                   rfl
                  refine pure_ (i := 15) (N := some 199) (v := undef) (a' := ?_) mB49 rfl rfl (any_of HT_.out (by kernel_rfl)) (fun _ _ _ h => h) (Or.inr ⟨by rfl, rfl⟩) ?_ ?_
                  rotate_left
                  ·simp only [Act.put, List.setIfInBounds_toArray, List.set_cons_zero, List.set_cons_succ, i64_w, i32_w]
                   rfl
                  refine pure_ (i := 16) (N := some 200) (v := ?_) (a' := ?_) mB50 rfl rfl (any_of HT_.out (by kernel_rfl)) (fun _ _ _ h => h) (Or.inl ⟨by rfl, ?_⟩) ?_ ?_; rotate_left; (intro w'; go_simp; with_reducible rfl); rotate_left; (simp only [Act.put, List.setIfInBounds_toArray, List.set_cons_zero, List.set_cons_succ, i64_w, i32_w]; rfl)
                  refine pure_ (i := 17) (N := some 201) (v := ?_) (a' := ?_) mB51 rfl rfl (any_of HT_.out (by kernel_rfl)) (fun _ _ _ h => h) (Or.inl ⟨by rfl, ?_⟩) ?_ ?_; rotate_left; (intro w'; go_simp; with_reducible rfl); rotate_left; (simp only [Act.put, List.setIfInBounds_toArray, List.set_cons_zero, List.set_cons_succ, i64_w, i32_w]; rfl)
                  refine pure_ (i := 18) (N := some 202) (v := ?_) (a' := ?_) mB52 rfl rfl (any_of HT_.out (by kernel_rfl)) (fun _ _ _ h => h) (Or.inl ⟨by rfl, ?_⟩) ?_ ?_; rotate_left; (intro w'; go_simp; with_reducible rfl); rotate_left; (simp only [Act.put, List.setIfInBounds_toArray, List.set_cons_zero, List.set_cons_succ, i64_w, i32_w]; rfl)
                  refine pure_ (i := 19) (N := some 203) (v := undef) (a' := ?_) mB53 rfl rfl (any_of HT_.out (by kernel_rfl)) (fun _ _ _ h => h) (Or.inr ⟨by rfl, rfl⟩) ?_ ?_
                  rotate_left
                  ·simp only [Act.put, List.setIfInBounds_toArray, List.set_cons_zero, List.set_cons_succ, i64_w, i32_w]
                   rfl
                  refine pure_ (i := 20) (N := some 204) (v := undef) (a' := ?_) mB54 rfl rfl (any_of HT_.out (by kernel_rfl)) (fun _ _ _ h => h) (Or.inr ⟨by rfl, rfl⟩) ?_ ?_
                  rotate_left
                  ·simp only [Act.put, List.setIfInBounds_toArray, List.set_cons_zero, List.set_cons_succ, i64_w, i32_w]
                   rfl
                  refine pure_ (i := 21) (N := some 205) (v := undef) (a' := ?_) mB55 rfl rfl (any_of HT_.out (by kernel_rfl)) (fun _ _ _ h => h) (Or.inr ⟨by rfl, rfl⟩) ?_ ?_
                  rotate_left
                  ·simp only [Act.put, List.setIfInBounds_toArray, List.set_cons_zero, List.set_cons_succ, i64_w, i32_w]
                   rfl
                  refine pure_ (i := 22) (N := some 206) (v := undef) (a' := ?_) mB56 rfl rfl (any_of HT_.out (by kernel_rfl)) (fun _ _ _ h => h) (Or.inr ⟨by rfl, rfl⟩) ?_ ?_
                  rotate_left
                  ·simp only [Act.put, List.setIfInBounds_toArray, List.set_cons_zero, List.set_cons_succ, i64_w, i32_w]
                   rfl
                  refine pure_ (i := 23) (N := some 207) (v := undef) (a' := ?_) mB57 rfl rfl (any_of HT_.out (by kernel_rfl)) (fun _ _ _ h => h) (Or.inr ⟨by rfl, rfl⟩) ?_ ?_
                  rotate_left
                  ·simp only [Act.put, List.setIfInBounds_toArray, List.set_cons_zero, List.set_cons_succ, i64_w, i32_w]
                   rfl
                  refine pure_ (i := 24) (N := some 208) (v := undef) (a' := ?_) mB58 rfl rfl (any_of HT_.out (by kernel_rfl)) (fun _ _ _ h => h) (Or.inr ⟨by rfl, rfl⟩) ?_ ?_
                  rotate_left
                  ·simp only [Act.put, List.setIfInBounds_toArray, List.set_cons_zero, List.set_cons_succ, i64_w, i32_w]
                   rfl
                  refine pure_ (i := 25) (N := some 209) (v := undef) (a' := ?_) mB59 rfl rfl (any_of HT_.out (by kernel_rfl)) (fun _ _ _ h => h) (Or.inr ⟨by rfl, rfl⟩) ?_ ?_
                  rotate_left
                  ·simp only [Act.put, List.setIfInBounds_toArray, List.set_cons_zero, List.set_cons_succ, i64_w, i32_w]
                   rfl
                  refine pure_ (i := 26) (N := some 210) (v := undef) (a' := ?_) mB60 rfl rfl (any_of HT_.out (by kernel_rfl)) (fun _ _ _ h => h) (Or.inr ⟨by rfl, rfl⟩) ?_ ?_
                  rotate_left
                  ·simp only [Act.put, List.setIfInBounds_toArray, List.set_cons_zero, List.set_cons_succ, i64_w, i32_w]
                   rfl
                  refine pure_ (i := 27) (N := some 211) (v := undef) (a' := ?_) mB61 rfl rfl (any_of HT_.out (by kernel_rfl)) (fun _ _ _ h => h) (Or.inr ⟨by rfl, rfl⟩) ?_ ?_
                  rotate_left
                  ·simp only [Act.put, List.setIfInBounds_toArray, List.set_cons_zero, List.set_cons_succ, i64_w, i32_w]
                   rfl
                  refine pure_ (i := 28) (N := some 212) (v := undef) (a' := ?_) mB73 rfl rfl (any_of HT_.out (by kernel_rfl)) (fun _ _ _ h => h) (Or.inr ⟨by rfl, rfl⟩) ?_ ?_
                  rotate_left
                  ·simp only [Act.put, List.setIfInBounds_toArray, List.set_cons_zero, List.set_cons_succ, i64_w, i32_w]
                   rfl
                  refine pure_ (i := 29) (N := some 213) (v := undef) (a' := ?_) mB74 rfl rfl (any_of HT_.out (by kernel_rfl)) (fun _ _ _ h => h) (Or.inr ⟨by rfl, rfl⟩) ?_ ?_
                  rotate_left
                  ·simp only [Act.put, List.setIfInBounds_toArray, List.set_cons_zero, List.set_cons_succ, i64_w, i32_w]
                   rfl
                  refine pure_ (i := 30) (N := some 214) (v := undef) (a' := ?_) mB75 rfl rfl (any_of HT_.out (by kernel_rfl)) (fun _ _ _ h => h) (Or.inr ⟨by rfl, rfl⟩) ?_ ?_
                  rotate_left
                  ·simp only [Act.put, List.setIfInBounds_toArray, List.set_cons_zero, List.set_cons_succ, i64_w, i32_w]
                   rfl
                  refine pure_ (i := 31) (N := some 215) (v := undef) (a' := ?_) mB65 rfl rfl (any_of HT_.out (by kernel_rfl)) (fun _ _ _ h => h) (Or.inr ⟨by rfl, rfl⟩) ?_ ?_
                  rotate_left
                  ·simp only [Act.put, List.setIfInBounds_toArray, List.set_cons_zero, List.set_cons_succ, i64_w, i32_w]
                   rfl
                  refine pure_ (i := 32) (N := some 216) (v := undef) (a' := ?_) mB66 rfl rfl (any_of HT_.out (by kernel_rfl)) (fun _ _ _ h => h) (Or.inr ⟨by rfl, rfl⟩) ?_ ?_
                  rotate_left
                  ·simp only [Act.put, List.setIfInBounds_toArray, List.set_cons_zero, List.set_cons_succ, i64_w, i32_w]
                   rfl
                  refine pure_ (i := 33) (N := some 217) (v := undef) (a' := ?_) mB67 rfl rfl (any_of HT_.out (by kernel_rfl)) (fun _ _ _ h => h) (Or.inr ⟨by rfl, rfl⟩) ?_ ?_
                  rotate_left
                  ·simp only [Act.put, List.setIfInBounds_toArray, List.set_cons_zero, List.set_cons_succ, i64_w, i32_w]
                   rfl
                  refine pure_ (i := 34) (N := some 218) (v := undef) (a' := ?_) mB68 rfl rfl (any_of HT_.out (by kernel_rfl)) (fun _ _ _ h => h) (Or.inr ⟨by rfl, rfl⟩) ?_ ?_
                  rotate_left
                  ·simp only [Act.put, List.setIfInBounds_toArray, List.set_cons_zero, List.set_cons_succ, i64_w, i32_w]
                   rfl
                  refine pure_ (i := 35) (N := some 219) (v := undef) (a' := ?_) mB69 rfl rfl (any_of HT_.out (by kernel_rfl)) (fun _ _ _ h => h) (Or.inr ⟨by rfl, rfl⟩) ?_ ?_
                  rotate_left
                  ·simp only [Act.put, List.setIfInBounds_toArray, List.set_cons_zero, List.set_cons_succ, i64_w, i32_w]
                   rfl
                  refine pure_ (i := 36) (N := some 220) (v := ?_) (a' := ?_) mB70 rfl rfl (any_of HT_.out (by kernel_rfl)) (fun _ _ _ h => h) (Or.inl ⟨by rfl, ?_⟩) ?_ ?_; rotate_left; (intro w'; go_simp; with_reducible rfl); rotate_left; (simp only [Act.put, List.setIfInBounds_toArray, List.set_cons_zero, List.set_cons_succ, i64_w, i32_w]; rfl)
                  refine pure_ (i := 37) (N := some 221) (v := ?_) (a' := ?_) mB71 rfl rfl (any_of HT_.out (by kernel_rfl)) (fun _ _ _ h => h) (Or.inl ⟨by rfl, ?_⟩) ?_ ?_; rotate_left; (intro w'; go_simp; with_reducible rfl); rotate_left; (simp only [Act.put, List.setIfInBounds_toArray, List.set_cons_zero, List.set_cons_succ, i64_w, i32_w]; rfl)
                  refine pure_ (i := 38) (N := some 6) (v := ?_) (a' := ?_) mB72 rfl rfl (any_of HT_.out (by kernel_rfl)) (fun _ _ _ h => h) (Or.inl ⟨by rfl, ?_⟩) ?_ ?_; rotate_left; (intro w'; go_simp; with_reducible rfl); rotate_left; (simp only [Act.put, List.setIfInBounds_toArray, List.set_cons_zero, List.set_cons_succ, i64_w, i32_w]; rfl)
                  refine done_ (done_of HT_.out (by kernel_rfl)) ?_
                  try go_wp2
                  go_ret
                  exact ⟨by first | rfl | (simp [errW_none, errW_some] <;> rfl) | (simp only [← hji256]; first | rfl | (simp [errW_none, errW_some] <;> rfl)) | (simp [*, errW_none, errW_some] <;> rfl), by repeat (first | (with_reducible first | exact HB.out | apply below_alloc | apply pw_below_drewN | apply below_drew1 | refine below_set ?_ GE203.out | refine below_set ?_ GE204.out | refine below_set ?_ GE205.out | refine below_set ?_ GE209.out | refine below_set ?_ GE213.out | refine below_set ?_ GE217.out | refine below_set ?_ GE221.out | refine below_set ?_ GE244.out | refine below_set ?_ GE254.out | refine below_set ?_ GE258.out) | exact HB.out)⟩
                 ·rw [if_neg c312] at H
                  have c312b0 : ((ji256) == 0) = false := beq_eq_false_iff_ne.mpr c312
                  have c312b1 : ((ji256) != 0) = true := bne_iff_ne.mpr c312
                  by_cases c355 : t252 = 0
                  ·rw [if_pos c355] at H
                   have c355b0 : (t252 == 0) = true := beq_iff_eq.mpr c355
                   have c355b1 : (t252 != 0) = false := bne_eq_false_iff_eq.mpr c355
                   clear c355
                   obtain rfl := Option.some.inj H
                   replace HO_7 := Aside0.mk (Kd.R_drew HO_7.out); replace HO_8 := Aside0.mk (Kd.R_drew HO_8.out); replace BK203 := Aside0.mk (blk_drew BK203.out); replace BK204 := Aside0.mk (blk_drew BK204.out); replace BK205 := Aside0.mk (blk_drew BK205.out); replace BK209 := Aside0.mk (blk_drew BK209.out); replace BK213 := Aside0.mk (blk_drew BK213.out); replace BK217 := Aside0.mk (blk_drew BK217.out); replace BK221 := Aside0.mk (blk_drew BK221.out); replace BK244 := Aside0.mk (blk_drew BK244.out); replace BK254 := Aside0.mk (blk_drew BK254.out); replace BK258 := Aside0.mk (blk_drew BK258.out); replace HB := Aside0.mk (below_drew1 HB.out)
                   refine start_ (n := 39) (S := fun w' => w'.cell? ⟨gb254, 0, none⟩ = some (.int .i64 t249) ∧ w'.cell? ⟨gb254, 1, none⟩ = some (.int .i64 t250) ∧ w'.cell? ⟨gb254, 2, none⟩ = some (.int .i64 t251) ∧ w'.cell? ⟨gb254, 3, none⟩ = some (.int .i64 t252)) (ds := []) mB33 (by kernel_rfl) rfl rfl ⟨(blk_cell BK254.out 0).trans rfl, (blk_cell BK254.out 1).trans rfl, (blk_cell BK254.out 2).trans rfl, (blk_cell BK254.out 3).trans rfl⟩ (fun hHeld => ?_); refine with_tabW synopticlaw38_ScoreBounds.tab20 synopticlaw38_ScoreBounds.bits20 (fun HT_ HW_ => ?_)
                   generalize w309.drew = w397 at HO_7 HO_8 BK203 BK204 BK205 BK209 BK213 BK217 BK221 BK244 BK254 BK258 HB hHeld ⊢
                   refine pure_ (i := 0) (N := some 184) (v := ?_) (a' := ?_) mB34 rfl rfl (any_of HT_.out (by kernel_rfl)) (fun _ _ _ h => h) (Or.inl ⟨by rfl, ?_⟩) ?_ ?_; rotate_left; (intro w'; go_simp; with_reducible rfl); rotate_left; (simp only [Act.put, List.setIfInBounds_toArray, List.set_cons_zero, List.set_cons_succ, i64_w, i32_w]; rfl)
                   refine pure_ (i := 1) (N := some 185) (v := ?_) (a' := ?_) mB35 rfl rfl (any_of HT_.out (by kernel_rfl)) (fun _ _ _ h => h) (Or.inl ⟨by rfl, ?_⟩) ?_ ?_; rotate_left; (intro w'; go_simp; with_reducible rfl); rotate_left; (simp only [Act.put, List.setIfInBounds_toArray, List.set_cons_zero, List.set_cons_succ, i64_w, i32_w]; rfl)
                   refine pure_ (i := 2) (N := some 186) (v := ?_) (a' := ?_) mB36 rfl rfl (any_of HT_.out (by kernel_rfl)) (fun _ _ _ h => h) (Or.inl ⟨by rfl, ?_⟩) ?_ ?_; rotate_left; (intro w'; go_simp; with_reducible rfl); rotate_left; (simp only [Act.put, List.setIfInBounds_toArray, List.set_cons_zero, List.set_cons_succ, i64_w, i32_w]; rfl)
                   refine pure_ (i := 3) (N := some 187) (v := ?_) (a' := ?_) mB37 rfl rfl (any_of HT_.out (by kernel_rfl)) (fun _ _ _ h => h) (Or.inl ⟨by rfl, ?_⟩) ?_ ?_; rotate_left; (intro w'; go_simp; with_reducible rfl); rotate_left; (simp only [Act.put, List.setIfInBounds_toArray, List.set_cons_zero, List.set_cons_succ, i64_w, i32_w]; rfl)
                   refine pure_ (i := 4) (N := some 188) (v := ?_) (a' := ?_) mB38 rfl rfl (any_of HT_.out (by kernel_rfl)) (fun _ _ _ h => h) (Or.inl ⟨by rfl, ?_⟩) ?_ ?_; rotate_left; (intro w'; go_simp; with_reducible rfl); rotate_left; (simp only [Act.put, List.setIfInBounds_toArray, List.set_cons_zero, List.set_cons_succ, i64_w, i32_w]; rfl)
                   refine pure_ (i := 5) (N := some 189) (v := ?_) (a' := ?_) mB39 rfl rfl (any_of HT_.out (by kernel_rfl)) (fun _ _ _ h => h) (Or.inl ⟨by rfl, ?_⟩) ?_ ?_; rotate_left; (intro w'; go_simp; with_reducible rfl); rotate_left; (simp only [Act.put, List.setIfInBounds_toArray, List.set_cons_zero, List.set_cons_succ, i64_w, i32_w]; rfl)
                   refine pure_ (i := 6) (N := some 190) (v := ?_) (a' := ?_) mB40 rfl rfl (any_of HT_.out (by kernel_rfl)) (fun _ _ _ h => h) (Or.inl ⟨by rfl, ?_⟩) ?_ ?_; rotate_left; (intro w'; go_simp; with_reducible rfl); rotate_left; (simp only [Act.put, List.setIfInBounds_toArray, List.set_cons_zero, List.set_cons_succ, i64_w, i32_w]; rfl)
                   refine pure_ (i := 7) (N := some 191) (v := ?_) (a' := ?_) mB41 rfl rfl (any_of HT_.out (by kernel_rfl)) (fun _ _ _ h => h) (Or.inl ⟨by rfl, ?_⟩) ?_ ?_; rotate_left; (intro w'; go_simp; with_reducible rfl); rotate_left; (simp only [Act.put, List.setIfInBounds_toArray, List.set_cons_zero, List.set_cons_succ, i64_w, i32_w]; rfl)
                   refine pure_ (i := 8) (N := some 192) (v := ?_) (a' := ?_) mB42 rfl rfl (any_of HT_.out (by kernel_rfl)) (fun _ _ _ h => h) (Or.inl ⟨by rfl, ?_⟩) ?_ ?_; rotate_left; (intro w'; go_simp; with_reducible rfl); rotate_left; (simp only [Act.put, List.setIfInBounds_toArray, List.set_cons_zero, List.set_cons_succ, i64_w, i32_w]; rfl)
                   refine pure_ (i := 9) (N := some 193) (v := ?_) (a' := ?_) mB43 rfl rfl (any_of HT_.out (by kernel_rfl)) (fun _ _ _ h => h) (Or.inl ⟨by rfl, ?_⟩) ?_ ?_; rotate_left; (intro w'; go_simp; with_reducible rfl); rotate_left; (simp only [Act.put, List.setIfInBounds_toArray, List.set_cons_zero, List.set_cons_succ, i64_w, i32_w]; rfl)
                   refine pure_ (i := 10) (N := some 194) (v := ?_) (a' := ?_) mB44 rfl rfl (any_of HT_.out (by kernel_rfl)) (fun _ _ _ h => h) (Or.inl ⟨by rfl, ?_⟩) ?_ ?_; rotate_left; (intro w'; go_simp; with_reducible rfl); rotate_left; (simp only [Act.put, List.setIfInBounds_toArray, List.set_cons_zero, List.set_cons_succ, i64_w, i32_w]; rfl)
                   refine pure_ (i := 11) (N := some 195) (v := ?_) (a' := ?_) mB45 rfl rfl (any_of HT_.out (by kernel_rfl)) (fun _ _ _ h => h) (Or.inl ⟨by rfl, ?_⟩) ?_ ?_; rotate_left; (intro w'; go_simp; with_reducible rfl); rotate_left; (simp only [Act.put, List.setIfInBounds_toArray, List.set_cons_zero, List.set_cons_succ, i64_w, i32_w]; rfl)
                   refine pure_ (i := 12) (N := some 196) (v := ?_) (a' := ?_) mB46 rfl rfl (any_of HT_.out (by kernel_rfl)) (fun _ _ _ h => h) (Or.inl ⟨by rfl, ?_⟩) ?_ ?_; rotate_left; (intro w'; go_simp; with_reducible rfl); rotate_left; (simp only [Act.put, List.setIfInBounds_toArray, List.set_cons_zero, List.set_cons_succ, i64_w, i32_w]; rfl)
                   refine pure_ (i := 13) (N := some 197) (v := ?_) (a' := ?_) mB47 rfl rfl (any_of HT_.out (by kernel_rfl)) (fun _ _ _ h => h) (Or.inl ⟨by rfl, ?_⟩) ?_ ?_; rotate_left; (intro w'; go_simp; with_reducible rfl); rotate_left; (simp only [Act.put, List.setIfInBounds_toArray, List.set_cons_zero, List.set_cons_succ, i64_w, i32_w]; rfl)
                   refine take_ (i := 14) (N := some 198) (v := ?_) (a' := ?_) mB48 rfl rfl (take_ofW HT_.out HW_.out (by kernel_rfl)) (fun _ _ _ h => h) (Or.inl ⟨by rfl, ?_⟩) hHeld ?_ ?_; rotate_left; (rintro w' ⟨s0, s1, s2, s3⟩; go_simp; with_reducible rfl); rotate_left; (simp only [Act.put, List.setIfInBounds_toArray, List.set_cons_zero, List.set_cons_succ, i64_w, i32_w]; rfl)
                   refine pure_ (i := 15) (N := some 199) (v := ?_) (a' := ?_) mB49 rfl rfl (any_of HT_.out (by kernel_rfl)) (fun _ _ _ h => h) (Or.inl ⟨by rfl, ?_⟩) ?_ ?_; rotate_left; (intro w'; go_simp; with_reducible rfl); rotate_left; (simp only [Act.put, List.setIfInBounds_toArray, List.set_cons_zero, List.set_cons_succ, i64_w, i32_w]; rfl)
                   refine pure_ (i := 16) (N := some 200) (v := ?_) (a' := ?_) mB50 rfl rfl (any_of HT_.out (by kernel_rfl)) (fun _ _ _ h => h) (Or.inl ⟨by rfl, ?_⟩) ?_ ?_; rotate_left; (intro w'; go_simp; with_reducible rfl); rotate_left; (simp only [Act.put, List.setIfInBounds_toArray, List.set_cons_zero, List.set_cons_succ, i64_w, i32_w]; rfl)
                   refine pure_ (i := 17) (N := some 201) (v := ?_) (a' := ?_) mB51 rfl rfl (any_of HT_.out (by kernel_rfl)) (fun _ _ _ h => h) (Or.inl ⟨by rfl, ?_⟩) ?_ ?_; rotate_left; (intro w'; go_simp; with_reducible rfl); rotate_left; (simp only [Act.put, List.setIfInBounds_toArray, List.set_cons_zero, List.set_cons_succ, i64_w, i32_w]; rfl)
                   refine pure_ (i := 18) (N := some 202) (v := ?_) (a' := ?_) mB52 rfl rfl (any_of HT_.out (by kernel_rfl)) (fun _ _ _ h => h) (Or.inl ⟨by rfl, ?_⟩) ?_ ?_; rotate_left; (intro w'; go_simp; with_reducible rfl); rotate_left; (simp only [Act.put, List.setIfInBounds_toArray, List.set_cons_zero, List.set_cons_succ, i64_w, i32_w]; rfl)
                   refine pure_ (i := 19) (N := some 203) (v := undef) (a' := ?_) mB53 rfl rfl (any_of HT_.out (by kernel_rfl)) (fun _ _ _ h => h) (Or.inr ⟨by rfl, rfl⟩) ?_ ?_
                   rotate_left
                   ·simp only [Act.put, List.setIfInBounds_toArray, List.set_cons_zero, List.set_cons_succ, i64_w, i32_w]
                    rfl
                   refine pure_ (i := 20) (N := some 204) (v := undef) (a' := ?_) mB54 rfl rfl (any_of HT_.out (by kernel_rfl)) (fun _ _ _ h => h) (Or.inr ⟨by rfl, rfl⟩) ?_ ?_
                   rotate_left
                   ·simp only [Act.put, List.setIfInBounds_toArray, List.set_cons_zero, List.set_cons_succ, i64_w, i32_w]
                    rfl
                   refine pure_ (i := 21) (N := some 205) (v := undef) (a' := ?_) mB55 rfl rfl (any_of HT_.out (by kernel_rfl)) (fun _ _ _ h => h) (Or.inr ⟨by rfl, rfl⟩) ?_ ?_
                   rotate_left
                   ·simp only [Act.put, List.setIfInBounds_toArray, List.set_cons_zero, List.set_cons_succ, i64_w, i32_w]
                    rfl
                   refine pure_ (i := 22) (N := some 206) (v := undef) (a' := ?_) mB56 rfl rfl (any_of HT_.out (by kernel_rfl)) (fun _ _ _ h => h) (Or.inr ⟨by rfl, rfl⟩) ?_ ?_
                   rotate_left
                   ·simp only [Act.put, List.setIfInBounds_toArray, List.set_cons_zero, List.set_cons_succ, i64_w, i32_w]
                    rfl
                   refine pure_ (i := 23) (N := some 207) (v := undef) (a' := ?_) mB57 rfl rfl (any_of HT_.out (by kernel_rfl)) (fun _ _ _ h => h) (Or.inr ⟨by rfl, rfl⟩) ?_ ?_
                   rotate_left
                   ·simp only [Act.put, List.setIfInBounds_toArray, List.set_cons_zero, List.set_cons_succ, i64_w, i32_w]
                    rfl
                   refine pure_ (i := 24) (N := some 208) (v := undef) (a' := ?_) mB58 rfl rfl (any_of HT_.out (by kernel_rfl)) (fun _ _ _ h => h) (Or.inr ⟨by rfl, rfl⟩) ?_ ?_
                   rotate_left
                   ·simp only [Act.put, List.setIfInBounds_toArray, List.set_cons_zero, List.set_cons_succ, i64_w, i32_w]
                    rfl
                   refine pure_ (i := 25) (N := some 209) (v := undef) (a' := ?_) mB59 rfl rfl (any_of HT_.out (by kernel_rfl)) (fun _ _ _ h => h) (Or.inr ⟨by rfl, rfl⟩) ?_ ?_
                   rotate_left
                   ·simp only [Act.put, List.setIfInBounds_toArray, List.set_cons_zero, List.set_cons_succ, i64_w, i32_w]
                    rfl
                   refine pure_ (i := 26) (N := some 210) (v := undef) (a' := ?_) mB60 rfl rfl (any_of HT_.out (by kernel_rfl)) (fun _ _ _ h => h) (Or.inr ⟨by rfl, rfl⟩) ?_ ?_
                   rotate_left
                   ·simp only [Act.put, List.setIfInBounds_toArray, List.set_cons_zero, List.set_cons_succ, i64_w, i32_w]
                    rfl
                   refine pure_ (i := 27) (N := some 211) (v := undef) (a' := ?_) mB61 rfl rfl (any_of HT_.out (by kernel_rfl)) (fun _ _ _ h => h) (Or.inr ⟨by rfl, rfl⟩) ?_ ?_
                   rotate_left
                   ·simp only [Act.put, List.setIfInBounds_toArray, List.set_cons_zero, List.set_cons_succ, i64_w, i32_w]
                    rfl
                   refine pure_ (i := 28) (N := some 212) (v := undef) (a' := ?_) mB73 rfl rfl (any_of HT_.out (by kernel_rfl)) (fun _ _ _ h => h) (Or.inr ⟨by rfl, rfl⟩) ?_ ?_
                   rotate_left
                   ·simp only [Act.put, List.setIfInBounds_toArray, List.set_cons_zero, List.set_cons_succ, i64_w, i32_w]
                    rfl
                   refine pure_ (i := 29) (N := some 213) (v := undef) (a' := ?_) mB74 rfl rfl (any_of HT_.out (by kernel_rfl)) (fun _ _ _ h => h) (Or.inr ⟨by rfl, rfl⟩) ?_ ?_
                   rotate_left
                   ·simp only [Act.put, List.setIfInBounds_toArray, List.set_cons_zero, List.set_cons_succ, i64_w, i32_w]
                    rfl
                   refine pure_ (i := 30) (N := some 214) (v := undef) (a' := ?_) mB75 rfl rfl (any_of HT_.out (by kernel_rfl)) (fun _ _ _ h => h) (Or.inr ⟨by rfl, rfl⟩) ?_ ?_
                   rotate_left
                   ·simp only [Act.put, List.setIfInBounds_toArray, List.set_cons_zero, List.set_cons_succ, i64_w, i32_w]
                    rfl
                   refine pure_ (i := 31) (N := some 215) (v := undef) (a' := ?_) mB65 rfl rfl (any_of HT_.out (by kernel_rfl)) (fun _ _ _ h => h) (Or.inr ⟨by rfl, rfl⟩) ?_ ?_
                   rotate_left
                   ·simp only [Act.put, List.setIfInBounds_toArray, List.set_cons_zero, List.set_cons_succ, i64_w, i32_w]
                    rfl
                   refine pure_ (i := 32) (N := some 216) (v := undef) (a' := ?_) mB66 rfl rfl (any_of HT_.out (by kernel_rfl)) (fun _ _ _ h => h) (Or.inr ⟨by rfl, rfl⟩) ?_ ?_
                   rotate_left
                   ·simp only [Act.put, List.setIfInBounds_toArray, List.set_cons_zero, List.set_cons_succ, i64_w, i32_w]
                    rfl
                   refine pure_ (i := 33) (N := some 217) (v := undef) (a' := ?_) mB67 rfl rfl (any_of HT_.out (by kernel_rfl)) (fun _ _ _ h => h) (Or.inr ⟨by rfl, rfl⟩) ?_ ?_
                   rotate_left
                   ·simp only [Act.put, List.setIfInBounds_toArray, List.set_cons_zero, List.set_cons_succ, i64_w, i32_w]
                    rfl
                   refine pure_ (i := 34) (N := some 218) (v := undef) (a' := ?_) mB68 rfl rfl (any_of HT_.out (by kernel_rfl)) (fun _ _ _ h => h) (Or.inr ⟨by rfl, rfl⟩) ?_ ?_
                   rotate_left
                   ·simp only [Act.put, List.setIfInBounds_toArray, List.set_cons_zero, List.set_cons_succ, i64_w, i32_w]
                    rfl
                   refine pure_ (i := 35) (N := some 219) (v := undef) (a' := ?_) mB69 rfl rfl (any_of HT_.out (by kernel_rfl)) (fun _ _ _ h => h) (Or.inr ⟨by rfl, rfl⟩) ?_ ?_
                   rotate_left
                   ·simp only [Act.put, List.setIfInBounds_toArray, List.set_cons_zero, List.set_cons_succ, i64_w, i32_w]
                    rfl
                   refine pure_ (i := 36) (N := some 220) (v := ?_) (a' := ?_) mB70 rfl rfl (any_of HT_.out (by kernel_rfl)) (fun _ _ _ h => h) (Or.inl ⟨by rfl, ?_⟩) ?_ ?_; rotate_left; (intro w'; go_simp; with_reducible rfl); rotate_left; (simp only [Act.put, List.setIfInBounds_toArray, List.set_cons_zero, List.set_cons_succ, i64_w, i32_w]; rfl)
                   refine pure_ (i := 37) (N := some 221) (v := ?_) (a' := ?_) mB71 rfl rfl (any_of HT_.out (by kernel_rfl)) (fun _ _ _ h => h) (Or.inl ⟨by rfl, ?_⟩) ?_ ?_; rotate_left; (intro w'; go_simp; with_reducible rfl); rotate_left; (simp only [Act.put, List.setIfInBounds_toArray, List.set_cons_zero, List.set_cons_succ, i64_w, i32_w]; rfl)
                   refine pure_ (i := 38) (N := some 6) (v := ?_) (a' := ?_) mB72 rfl rfl (any_of HT_.out (by kernel_rfl)) (fun _ _ _ h => h) (Or.inl ⟨by rfl, ?_⟩) ?_ ?_; rotate_left; (intro w'; go_simp; with_reducible rfl); rotate_left; (simp only [Act.put, List.setIfInBounds_toArray, List.set_cons_zero, List.set_cons_succ, i64_w, i32_w]; rfl)
                   refine done_ (done_of HT_.out (by kernel_rfl)) ?_
                   try go_wp2
                   go_ret
                   exact ⟨by first | rfl | (simp [errW_none, errW_some] <;> rfl) | (simp only [← hji256]; first | rfl | (simp [errW_none, errW_some] <;> rfl)) | (simp [*, errW_none, errW_some] <;> rfl), by repeat (first | (with_reducible first | exact HB.out | apply below_alloc | apply pw_below_drewN | apply below_drew1 | refine below_set ?_ GE203.out | refine below_set ?_ GE204.out | refine below_set ?_ GE205.out | refine below_set ?_ GE209.out | refine below_set ?_ GE213.out | refine below_set ?_ GE217.out | refine below_set ?_ GE221.out | refine below_set ?_ GE244.out | refine below_set ?_ GE254.out | refine below_set ?_ GE258.out) | exact HB.out)⟩
                  ·rw [if_neg c355] at H
                   have c355b0 : (t252 == 0) = false := beq_eq_false_iff_ne.mpr c355
                   have c355b1 : (t252 != 0) = true := bne_iff_ne.mpr c355
                   exact absurd H (by simp)
               ·rw [if_neg c265] at H
                have c265b0 : (t253 == 0) = false := beq_eq_false_iff_ne.mpr c265
                have c265b1 : (t253 != 0) = true := bne_iff_ne.mpr c265
                exact absurd H (by simp)
              ·rw [if_neg c264] at H
               have c264b0 : (t243 == 0) = false := beq_eq_false_iff_ne.mpr c264
               have c264b1 : (t243 != 0) = true := bne_iff_ne.mpr c264
               exact absurd H (by simp)
             ·rw [if_neg c261] at H
              exact absurd H (by simp)
            ·rw [if_neg c258] at H
             exact absurd H (by simp)
           ·rw [if_neg c257] at H
            exact absurd H (by simp)
 ·replace c5 := Bool.eq_false_iff.mpr c5
  subst c5
  have H1 : (none) = some r := by rw [if_neg (show ¬ (false = true) by decide)] at H; exact H
  clear H
  have H := H1
  clear H1
  exact absurd H (by simp)

/-- THE ONE PURE STATEMENT of synopticlaw38_ScoreBounds: yours. -/
def synopticlaw38_ScoreBounds.Pure : Prop := ∀ (l0 : List Int) (l1 : List Int) (a2 : Int), l0.length ≤ maxLen → l0.length * 1 ≤ 140737488351232 → (∀ x ∈ l0, (Lit.int .u8 x).wf = true) → l1.length ≤ maxLen → l1.length * 1 ≤ 140737488351232 → (∀ x ∈ l1, (Lit.int .u8 x).wf = true) → (Lit.int .u8 a2).wf = true → ∃ k, synopticlaw38_ScoreBounds.f k l0 l1 a2 = some true
theorem synopticlaw38_ScoreBounds.walk (P : synopticlaw38_ScoreBounds.Pure) (a0 : Option Addr) (len0 cap0 : Nat) (z0 : List Int) (a1 : Option Addr) (len1 cap1 : Nat) (z1 : List Int) (a2 : Int) (w : World) (w0 : (a0 = none ∧ len0 = 0 ∧ cap0 = 0 ∧ z0 = []) ∨ ∃ x, a0 = some x ∧ len0 ≤ cap0 ∧ cap0 ≤ maxLen ∧ z0.length = cap0 ∧ (∀ i, i < z0.length → w.cell? (x.add i) = some (.int .u8 (z0.getD i 0))) ∧ ∀ n ∈ z0, (Lit.int .u8 n).wf = true) (y0 : len0 * 1 ≤ 140737488351232) (w1 : (a1 = none ∧ len1 = 0 ∧ cap1 = 0 ∧ z1 = []) ∨ ∃ x, a1 = some x ∧ len1 ≤ cap1 ∧ cap1 ≤ maxLen ∧ z1.length = cap1 ∧ (∀ i, i < z1.length → w.cell? (x.add i) = some (.int .u8 (z1.getD i 0))) ∧ ∀ n ∈ z1, (Lit.int .u8 n).wf = true) (y1 : len1 * 1 ≤ 140737488351232) (w2 : (Lit.int .u8 a2).wf = true) :
  Calls Try.prog 8 #[.slice a0 len0 cap0, .slice a1 len1 cap1, .int .u8 a2] w fun e w' => e = .returned (.bool true) ∧ Below w.heap.size w w' := by
 obtain ⟨l0, rfl, hr0, hm0, hw0, hc0⟩ := ReadsInt.ofRowC w0
 obtain ⟨l1, rfl, hr1, hm1, hw1, hc1⟩ := ReadsInt.ofRowC w1
 obtain ⟨k, h⟩ := P l0 l1 a2 hm0 y0 hw0 hm1 y1 hw1 w2
 refine (synopticlaw38_ScoreBounds.calls k _ _ l0 _ _ l1 a2 true w (Kd.C_of_reads (d := (0 : Int)) (h1 := fun _ => rfl) hr0) hc0 (Kd.C_of_reads (d := (0 : Int)) (h1 := fun _ => rfl) hr1) hc1 h).mono ?_
 rintro e w' ⟨rfl, hd⟩
 exact ⟨rfl, hd⟩

end Go.Proofs.Ytbnjbdjjedndbaa.B
