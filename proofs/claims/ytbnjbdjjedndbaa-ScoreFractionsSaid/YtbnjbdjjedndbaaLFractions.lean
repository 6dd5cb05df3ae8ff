/- Made by our program mkbase.py out of the printed functions of this seat: LFractions. -/
import Derived.Test.YtbnjbdjjedndbaaB1
import Derived.Test.YtbnjbdjjedndbaaBA
import Derived.Test.YtbnjbdjjedndbaaBF
import Derived.Test.YtbnjbdjjedndbaaBR
import Derived.Test.YtbnjbdjjedndbaaBQ
import Derived.Test.YtbnjbdjjedndbaaBY
import Derived.Test.YtbnjbdjjedndbaaBN
namespace Go.Proofs.Ytbnjbdjjedndbaa.B
open Go.RowKit Go.Proofs.YtbnjbdjjedndbaaW.PrintWords Go.Proofs.YtbnjbdjjedndbaaW.PrintLast Go.Proofs.YtbnjbdjjedndbaaW.PrintMore
attribute [local go_sem] max2_int min2_int max_two min_two max_three min_three max_four min_four   -- for this text's walks alone
set_option linter.unusedVariables false
set_option linter.unusedSimpArgs false

attribute [local go_sem high] eqA42 eqA59
/-! ### synopticlaw38_ScoreFractions: function 7 -/
mutual
def synopticlaw38_ScoreFractions.l0 : Nat → Int → Int → List (S62) → Int → Int → Option (Bool)
  | 0, _, _, _, _, _ => none
  | k + 1, x2, x3, x33, x34, x35 => if x35 < x34 then (if 0 ≤ x35 then (if x35 < (x33.length : Int) then ((score_Reduce.f k ((rd_T62 x33 x35).f0) ((rd_T62 x33 x35).f1)).bind fun bt146 => ((synopticref38_Reduce.f k ((rd_T62 x33 x35).f0) ((rd_T62 x33 x35).f1)).bind fun bt150 => (if bt146.2.2 = bt150.2.2 then (if (!(bt146.1 == bt150.1) || (!(bt146.2.1 == bt150.2.1))) = true then (none) else (synopticlaw38_ScoreFractions.j1 k x2 x3 bt146.2.2 x33 x34 x35 false bt146.1 bt146.2.1)) else (none)))) else (none)) else (none)) else (some true)
def synopticlaw38_ScoreFractions.j1 : Nat → Int → Int → Int → List (S62) → Int → Int → Bool → Int → Int → Option (Bool)
  | 0, _, _, _, _, _, _, _, _, _ => none
  | k + 1, x2, x3, x12, x33, x34, x35, x62, x150000, x150001 => if x62 = true then (none) else (if x12 = 0 then ((score_Reduce.f k x150000 x150001).bind fun bt154 => (if bt154.2.2 = 0 then (if (!(bt154.1 == x150000) || (!(bt154.2.1 == x150001))) = true then (none) else (if x150001 < 1 then (none) else ((score_Compare.f k x150000 x150001 bt154.1 bt154.2.1).bind fun t158 => (if (t158 != 0) = true then (none) else (synopticlaw38_ScoreFractions.j2 k x2 x3 x33 x34 x35 false x150000 x150001))))) else (none))) else (synopticlaw38_ScoreFractions.l0 k x2 x3 x33 x34 (wrap64 (x35 + 1))))
def synopticlaw38_ScoreFractions.j2 : Nat → Int → Int → List (S62) → Int → Int → Bool → Int → Int → Option (Bool)
  | 0, _, _, _, _, _, _, _, _ => none
  | k + 1, x2, x3, x33, x34, x35, x90, x150000, x150001 => if x90 = true then (none) else ((synopticfield_Mod.f x2 1152921504606846976).bind fun t159 => ((synopticfield_Mod.f x3 576460752303423488).bind fun t160 => ((score_Compare.f k x150000 x150001 t159 (wrap64 (1 + t160))).bind fun t162 => ((synopticref38_Compare.f k x150000 x150001 t159 (wrap64 (1 + t160))).bind fun t163 => (if t162 = t163 then ((score_Compare.f k t159 (wrap64 (1 + t160)) x150000 x150001).bind fun t164 => ((score_Compare.f k x150000 x150001 t159 (wrap64 (1 + t160))).bind fun t165 => (if t164 = (wrap64 (-t165)) then (synopticlaw38_ScoreFractions.l0 k x2 x3 x33 x34 (wrap64 (x35 + 1))) else (none)))) else (none))))))
end
def synopticlaw38_ScoreFractions.f (k : Nat) (a0 : Int) (a1 : Int) (a2 : Int) (a3 : Int) : Option (Bool) := (synopticlaw38_awake.f k).bind fun t140 => (if t140 = true then ((some (([(⟨a0, a1⟩ : S62), (⟨Int.tmod a0 5000, Int.tmod a1 300⟩ : S62), (⟨Int.tmod a2 64, Int.tmod a3 64⟩ : S62)] : List (S62)) : List (S62))).bind fun y141 => (synopticlaw38_ScoreFractions.l0 k a2 a3 y141 (y141.length : Int) 0)) else (none))
theorem synopticlaw38_ScoreFractions.mono_l : ∀ k, (∀ y0 y1 y2 y3 y4, LeO (synopticlaw38_ScoreFractions.l0 k y0 y1 y2 y3 y4) (synopticlaw38_ScoreFractions.l0 (k + 1) y0 y1 y2 y3 y4)) ∧ (∀ y0 y1 y2 y3 y4 y5 y6 y7 y8, LeO (synopticlaw38_ScoreFractions.j1 k y0 y1 y2 y3 y4 y5 y6 y7 y8) (synopticlaw38_ScoreFractions.j1 (k + 1) y0 y1 y2 y3 y4 y5 y6 y7 y8)) ∧ (∀ y0 y1 y2 y3 y4 y5 y6 y7, LeO (synopticlaw38_ScoreFractions.j2 k y0 y1 y2 y3 y4 y5 y6 y7) (synopticlaw38_ScoreFractions.j2 (k + 1) y0 y1 y2 y3 y4 y5 y6 y7))
  | 0 => ⟨fun _ _ _ _ _ r h => by simp [synopticlaw38_ScoreFractions.l0] at h, fun _ _ _ _ _ _ _ _ _ r h => by simp [synopticlaw38_ScoreFractions.j1] at h, fun _ _ _ _ _ _ _ _ r h => by simp [synopticlaw38_ScoreFractions.j2] at h⟩
  | k + 1 => by
    obtain ⟨ih0, ih1, ih2⟩ := synopticlaw38_ScoreFractions.mono_l k
    refine ⟨?_, ?_, ?_⟩
    · intro y0 y1 y2 y3 y4
      unfold synopticlaw38_ScoreFractions.l0
      repeat' first
      | (with_reducible exact ih0 _ _ _ _ _)
      | (with_reducible exact ih1 _ _ _ _ _ _ _ _ _)
      | (with_reducible exact ih2 _ _ _ _ _ _ _ _)
      | (with_reducible exact score_Compare.mono _ _ _ _ _)
      | (with_reducible exact score_Reduce.mono _ _ _)
      | (with_reducible exact synopticlaw38_awake.mono _)
      | (with_reducible exact synopticref38_Compare.mono _ _ _ _ _)
      | (with_reducible exact synopticref38_Reduce.mono _ _ _)
      | (with_reducible exact LeO.refl _)
      | (with_reducible exact LeO.none _)
      | (with_reducible refine LeO.ite ?_ ?_)
      | (with_reducible refine LeO.bind ?_ (fun _ => ?_))
      | exact ih0 _ _ _ _ _
      | exact ih1 _ _ _ _ _ _ _ _ _
      | exact ih2 _ _ _ _ _ _ _ _
      | exact score_Compare.mono _ _ _ _ _
      | exact score_Reduce.mono _ _ _
      | exact synopticlaw38_awake.mono _
      | exact synopticref38_Compare.mono _ _ _ _ _
      | exact synopticref38_Reduce.mono _ _ _
      | exact LeO.none _
      | refine LeO.ite ?_ ?_
      | refine LeO.bind ?_ (fun _ => ?_)
    · intro y0 y1 y2 y3 y4 y5 y6 y7 y8
      unfold synopticlaw38_ScoreFractions.j1
      repeat' first
      | (with_reducible exact ih0 _ _ _ _ _)
      | (with_reducible exact ih1 _ _ _ _ _ _ _ _ _)
      | (with_reducible exact ih2 _ _ _ _ _ _ _ _)
      | (with_reducible exact score_Compare.mono _ _ _ _ _)
      | (with_reducible exact score_Reduce.mono _ _ _)
      | (with_reducible exact synopticlaw38_awake.mono _)
      | (with_reducible exact synopticref38_Compare.mono _ _ _ _ _)
      | (with_reducible exact synopticref38_Reduce.mono _ _ _)
      | (with_reducible exact LeO.refl _)
      | (with_reducible exact LeO.none _)
      | (with_reducible refine LeO.ite ?_ ?_)
      | (with_reducible refine LeO.bind ?_ (fun _ => ?_))
      | exact ih0 _ _ _ _ _
      | exact ih1 _ _ _ _ _ _ _ _ _
      | exact ih2 _ _ _ _ _ _ _ _
      | exact score_Compare.mono _ _ _ _ _
      | exact score_Reduce.mono _ _ _
      | exact synopticlaw38_awake.mono _
      | exact synopticref38_Compare.mono _ _ _ _ _
      | exact synopticref38_Reduce.mono _ _ _
      | exact LeO.none _
      | refine LeO.ite ?_ ?_
      | refine LeO.bind ?_ (fun _ => ?_)
    · intro y0 y1 y2 y3 y4 y5 y6 y7
      unfold synopticlaw38_ScoreFractions.j2
      repeat' first
      | (with_reducible exact ih0 _ _ _ _ _)
      | (with_reducible exact ih1 _ _ _ _ _ _ _ _ _)
      | (with_reducible exact ih2 _ _ _ _ _ _ _ _)
      | (with_reducible exact score_Compare.mono _ _ _ _ _)
      | (with_reducible exact score_Reduce.mono _ _ _)
      | (with_reducible exact synopticlaw38_awake.mono _)
      | (with_reducible exact synopticref38_Compare.mono _ _ _ _ _)
      | (with_reducible exact synopticref38_Reduce.mono _ _ _)
      | (with_reducible exact LeO.refl _)
      | (with_reducible exact LeO.none _)
      | (with_reducible refine LeO.ite ?_ ?_)
      | (with_reducible refine LeO.bind ?_ (fun _ => ?_))
      | exact ih0 _ _ _ _ _
      | exact ih1 _ _ _ _ _ _ _ _ _
      | exact ih2 _ _ _ _ _ _ _ _
      | exact score_Compare.mono _ _ _ _ _
      | exact score_Reduce.mono _ _ _
      | exact synopticlaw38_awake.mono _
      | exact synopticref38_Compare.mono _ _ _ _ _
      | exact synopticref38_Reduce.mono _ _ _
      | exact LeO.none _
      | refine LeO.ite ?_ ?_
      | refine LeO.bind ?_ (fun _ => ?_)
theorem synopticlaw38_ScoreFractions.mono : ∀ a0 a1 a2 a3 k, LeO (synopticlaw38_ScoreFractions.f k a0 a1 a2 a3) (synopticlaw38_ScoreFractions.f (k + 1) a0 a1 a2 a3) := by
  intro a0 a1 a2 a3 k
  obtain ⟨ih0, ih1, ih2⟩ := synopticlaw38_ScoreFractions.mono_l k
  unfold synopticlaw38_ScoreFractions.f
  repeat' first
      | (with_reducible exact ih0 _ _ _ _ _)
      | (with_reducible exact ih1 _ _ _ _ _ _ _ _ _)
      | (with_reducible exact ih2 _ _ _ _ _ _ _ _)
      | (with_reducible exact score_Compare.mono _ _ _ _ _)
      | (with_reducible exact score_Reduce.mono _ _ _)
      | (with_reducible exact synopticlaw38_awake.mono _)
      | (with_reducible exact synopticref38_Compare.mono _ _ _ _ _)
      | (with_reducible exact synopticref38_Reduce.mono _ _ _)
      | (with_reducible exact LeO.refl _)
      | (with_reducible exact LeO.none _)
      | (with_reducible refine LeO.ite ?_ ?_)
      | (with_reducible refine LeO.bind ?_ (fun _ => ?_))
      | exact ih0 _ _ _ _ _
      | exact ih1 _ _ _ _ _ _ _ _ _
      | exact ih2 _ _ _ _ _ _ _ _
      | exact score_Compare.mono _ _ _ _ _
      | exact score_Reduce.mono _ _ _
      | exact synopticlaw38_awake.mono _
      | exact synopticref38_Compare.mono _ _ _ _ _
      | exact synopticref38_Reduce.mono _ _ _
      | exact LeO.none _
      | refine LeO.ite ?_ ?_
      | refine LeO.bind ?_ (fun _ => ?_)
def synopticlaw38_ScoreFractions.T15 : Bool × List (List Nat × List Nat) := (true, [([], []), ([], []), ([0, 1], [0, 1]), ([], []), ([], []), ([3, 4, 2], [3, 4]), ([2, 5], [2, 5]), ([6, 5], [6]), ([7], [7]), ([7], [7]), ([8, 9, 7, 7], [7, 8, 9]), ([7], [7]), ([7], [7]), ([11, 12, 10, 7], [7, 11, 12]), ([13, 7], [7, 13]), ([10, 14, 7], [7, 10, 14]), ([7, 15], [7, 15])])
def synopticlaw38_ScoreFractions.B15 : List Nat := [0, 0, 3, 0, 0, 31, 63, 127, 255, 255, 1023, 255, 255, 8191, 16383, 32767, 65535]
theorem synopticlaw38_ScoreFractions.tab15 : rtab .any (opsOf Try.f7 15) = synopticlaw38_ScoreFractions.T15 := by kernel_rfl
theorem synopticlaw38_ScoreFractions.bits15 : waitsOk synopticlaw38_ScoreFractions.T15.2 synopticlaw38_ScoreFractions.B15 = true := by kernel_rfl
set_option maxHeartbeats 8000000 in
set_option maxRecDepth 100000 in
theorem synopticlaw38_ScoreFractions.calls (k : Nat) (a0 : Int) (a1 : Int) (a2 : Int) (a3 : Int) (w : World) (h : synopticlaw38_ScoreFractions.f k a0 a1 a2 a3 = some true) :
    Calls Try.prog 7 #[.int .i64 a0, .int .i64 a1, .int .i64 a2, .int .i64 a3] w fun e w' => e = .returned (.bool true) ∧ Below w.heap.size w w' := by
  have hu62 := Try.underlying62
  have hu28 := Try.underlying28
  have HB := Aside0.mk (Below.refl w.heap.size w)
  have H : ((synopticlaw38_awake.f k).bind fun t140 => (if t140 = true then ((some (([(⟨a0, a1⟩ : S62), (⟨Int.tmod a0 5000, Int.tmod a1 300⟩ : S62), (⟨Int.tmod a2 64, Int.tmod a3 64⟩ : S62)] : List (S62)) : List (S62))).bind fun y141 => (synopticlaw38_ScoreFractions.l0 k a2 a3 y141 (y141.length : Int) 0)) else (none))) = some true := h
  clear h
  replace H := Option.bind_eq_some_iff.mp H
  obtain ⟨t140, A50, H⟩ := H
  replace H : (if t140 = true then ((some (([(⟨a0, a1⟩ : S62), (⟨Int.tmod a0 5000, Int.tmod a1 300⟩ : S62), (⟨Int.tmod a2 64, Int.tmod a3 64⟩ : S62)] : List (S62)) : List (S62))).bind fun y141 => (synopticlaw38_ScoreFractions.l0 k a2 a3 y141 (y141.length : Int) 0)) else (none)) = some true := H
  have A5 := Aside0.mk A50
  clear A50
  by_cases c6 : t140 = true
  · subst c6
    have H1 : ((some (([(⟨a0, a1⟩ : S62), (⟨Int.tmod a0 5000, Int.tmod a1 300⟩ : S62), (⟨Int.tmod a2 64, Int.tmod a3 64⟩ : S62)] : List (S62)) : List (S62))).bind fun y141 => (synopticlaw38_ScoreFractions.l0 k a2 a3 y141 (y141.length : Int) 0)) = some true := by rw [if_pos rfl] at H; exact H
    clear H
    have H := H1
    clear H1
    obtain ⟨y141, hy141⟩ : ∃ y_ : List (S62), y_ = (([(⟨a0, a1⟩ : S62), (⟨Int.tmod a0 5000, Int.tmod a1 300⟩ : S62), (⟨Int.tmod a2 64, Int.tmod a3 64⟩ : S62)] : List (S62))) := ⟨_, rfl⟩
    replace H : (synopticlaw38_ScoreFractions.l0 k a2 a3 y141 (y141.length : Int) 0) = some true := by first | (rw [hy141]; with_reducible exact H) | (have H2_ := (Option.bind_some _ _).symm.trans H; rw [hy141]; with_reducible exact H2_) | (have H2_ := (Option.bind_some _ _).symm.trans H; with_reducible exact H2_) | with_reducible exact H | (rw [hy141]; exact H) | exact H
    have Ny141 := Aside0.mk hy141
    clear hy141
    have H' := Aside0.mk H
    clear H
    go_enter Try.func7, Try.ntmps7
    go_wp2_with (first | ((with_reducible refine gate_callee (f := 9) rfl ?_); refine goesL_ (some 18) rfl rfl Try.func9 (by kernel_rfl) rfl #[] rfl (by (try simp only [List.map_toArray, List.map_cons, List.map_nil]); first | done | rfl | (simp only [List.length_drop, List.length_take]; rfl)) ?_; (with_reducible refine (synopticlaw38_awake.calls k  true _ A5.out).mono ?_); rintro e w7 ⟨rfl, hb⟩; refine ⟨_, rfl, ?_⟩; have n0_ := Aside0.mk (below_step (by repeat (first | (with_reducible first | exact HB.out | apply below_alloc | apply pw_below_drewN | apply below_drew1) | exact HB.out)) hb); clear HB; have HB := n0_; clear n0_; (try clear hb); (try clear hb2); (try clear hk); (try clear hi)) | ((with_reducible refine gate_dst (N := 33) rfl ?_); refine Kd.R_lit k62 _ 62 ?hg (N := 33) ?hd (xs := ([(⟨a0, a1⟩ : S62), (⟨Int.tmod a0 5000, Int.tmod a1 300⟩ : S62), (⟨Int.tmod a2 64, Int.tmod a3 64⟩ : S62)] : List (S62))) (inner := [.int .i64 a0, .int .i64 a1, .int .i64 (Int.tmod a0 5000), .int .i64 (Int.tmod a1 300), .int .i64 (Int.tmod a2 64), .int .i64 (Int.tmod a3 64)]) (ok := fun _ => True) (okp := fun _ => True) ?hr ?hp (fun _ hk => hk) trivial (Below.refl _ _) (Nat.le_refl _) (by simp) ?_; (case hd => rfl); (case hg => rfl); (case hr => first | (go_simp; done) | (go_simp; rfl)); (case hp => exact (Reps.c2 (show Kd.M k62 _ _ _ (⟨a0, a1⟩ : S62) [.int .i64 a0, .int .i64 a1] from (k62_mkM _ _ _ (⟨a0, a1⟩ : S62) )) (Reps.c2 (show Kd.M k62 _ _ _ (⟨Int.tmod a0 5000, Int.tmod a1 300⟩ : S62) [.int .i64 (Int.tmod a0 5000), .int .i64 (Int.tmod a1 300)] from (k62_mkM _ _ _ (⟨Int.tmod a0 5000, Int.tmod a1 300⟩ : S62) )) (Reps.c2 (show Kd.M k62 _ _ _ (⟨Int.tmod a2 64, Int.tmod a3 64⟩ : S62) [.int .i64 (Int.tmod a2 64), .int .i64 (Int.tmod a3 64)] from (k62_mkM _ _ _ (⟨Int.tmod a2 64, Int.tmod a3 64⟩ : S62) )) (Reps.none _ _))))); intro v142 w8 ho9 hb hg_ hnew_; clear hg_ hnew_; (first | rw [← Ny141.out] at ho9 | (simp only [Int.reduceToNat] at ho9; rw [← Ny141.out] at ho9)); have n0_ := Aside0.mk (Kd.R_lower ho9 (below_size (by repeat (first | (with_reducible first | exact HB.out | apply below_alloc | apply pw_below_drewN | apply below_drew1) | exact HB.out)))); have n1_ := Aside0.mk (below_step (by repeat (first | (with_reducible first | exact HB.out | apply below_alloc | apply pw_below_drewN | apply below_drew1) | exact HB.out)) hb); clear HB; have HO143 := n0_; have HB := n1_; clear n0_ n1_; clear hb ho9; obtain ⟨Ao10, co10, eo10⟩ := Kd.R_slice HO143.out; subst eo10))
    go_loopg [35] k (fun kq v35 w' => ∃ (x35_1 : Int), v35 = .int .i64 x35_1 ∧ Aside0 (synopticlaw38_ScoreFractions.l0 kq a2 a3 y141 (y141.length : Int) x35_1 = some true) ∧ Aside0 (kq ≤ k) ∧ Aside0 (Kd.R k62 62 w' w.heap.size (fun _ => True) (.slice Ao10 y141.length co10) y141) ∧ Aside0 (Below w.heap.size w w'))
    case atStart => exact ⟨(0), (by first | rfl | (simp; done) | (simp [*]; done)), H', ⟨Nat.le_refl _⟩, ⟨by (with_reducible repeat (first | apply Kd.R_alloc | apply Kd.R_drewN | apply Kd.R_drew)); exact HO143.out⟩, ⟨by repeat (first | (with_reducible first | exact HB.out | apply below_alloc | apply pw_below_drewN | apply below_drew1) | exact HB.out)⟩⟩
    case round =>
      clear H'
      try clear c2
      try clear p2
      try clear c6
      try clear c7
      try clear c9
      obtain ⟨x35_1, rfl, HA, HK1, HO_33, HB⟩ := hrel
      cases gk with
      | zero => exact absurd HA.out (by simp [synopticlaw38_ScoreFractions.l0])
      | succ k1 =>
        have H := HA.out
        clear HA
        simp only [synopticlaw38_ScoreFractions.l0] at H
        by_cases c11 : x35_1 < (y141.length : Int)
        · rw [if_pos c11] at H
          have c11b0 : decide (x35_1 < (y141.length : Int)) = true := decide_eq_true c11
          clear c11
          by_cases c12 : 0 ≤ x35_1
          · rw [if_pos c12] at H
            have c12b0 : decide (0 ≤ x35_1) = true := decide_eq_true c12
            clear c12
            by_cases c13 : x35_1 < (y141.length : Int)
            · rw [if_pos c13] at H
              have c13b0 : decide (x35_1 < (y141.length : Int)) = true := decide_eq_true c13
              clear c13
              replace H := Option.bind_eq_some_iff.mp H
              obtain ⟨⟨t146, t147, t148⟩, A140, H⟩ := H
              replace H : ((synopticref38_Reduce.f k1 ((rd_T62 y141 x35_1).f0) ((rd_T62 y141 x35_1).f1)).bind fun bt150 => (if t148 = bt150.2.2 then (if (!(t146 == bt150.1) || (!(t147 == bt150.2.1))) = true then (none) else (synopticlaw38_ScoreFractions.j1 k1 a2 a3 t148 y141 (y141.length : Int) x35_1 false t146 t147)) else (none))) = some true := H
              have A14 := Aside0.mk A140
              clear A140
              replace H := Option.bind_eq_some_iff.mp H
              obtain ⟨⟨t150, t151, t152⟩, A150, H⟩ := H
              replace H : (if t148 = t152 then (if (!(t146 == t150) || (!(t147 == t151))) = true then (none) else (synopticlaw38_ScoreFractions.j1 k1 a2 a3 t148 y141 (y141.length : Int) x35_1 false t146 t147)) else (none)) = some true := H
              have A15 := Aside0.mk A150
              clear A150
              have HC16 := Aside0.mk H
              clear H
              have p144 : 0 ≤ (x35_1 : Int) := of_decide_eq_true (by first | (with_reducible assumption) | assumption)
              have q144 : x35_1 < (y141.length : Int) := of_decide_eq_true (by first | (with_reducible assumption) | assumption)
              obtain ⟨ad144, e144, hx144_0, hx144_1⟩ := at_T62 (Kd.R_reads' HO_33.out).2.2 x35_1 p144 q144
              cases e144
              replace p144 := eq_true p144
              replace q144 := eq_true q144
              go_upto_region 8 with (first | ((with_reducible refine gate_dst (N := 10) rfl ?_); refine box_event ?hg (N := 10) ?hd (cs := #[.int .i64 0, .int .i64 0]) (t := 62) ?hr ?_; (case hd => rfl); (case hg => rfl); (case hr => first | (go_simp; done) | (go_simp; rfl)); intro gb145 hg w17 hbox hb; have n0_ := Aside0.mk (Kd.R_below (Kd.R_elderB (by (with_reducible repeat (first | apply Kd.R_alloc | apply Kd.R_drewN | apply Kd.R_drew)); exact HO_33.out) gb145 (Nat.le_of_eq hg.symm)) hb); have n1_ := Aside0.mk (below_step (by repeat (first | (with_reducible first | exact HB.out | apply below_alloc | apply pw_below_drewN | apply below_drew1) | exact HB.out)) hb); have n2_ := Aside0.mk (hbox); have n3_ := Aside0.mk ((by rw [hg]; exact (below_size (by repeat (first | (with_reducible first | exact HB.out | apply below_alloc | apply pw_below_drewN | apply below_drew1) | exact HB.out))) : w.heap.size ≤ gb145)); have n4_ := Aside0.mk ((by rw [hg]; exact (below_size (by repeat (first | (with_reducible first | exact HB.out | apply below_alloc | apply pw_below_drewN | apply below_drew1) | exact HB.out))) : w.heap.size ≤ gb145)); clear HO_33; clear HB; have HO_33 := n0_; have HB := n1_; have BK145 := n2_; have GW145 := n3_; have GE145 := n4_; clear n0_ n1_ n2_ n3_ n4_; clear hb hbox hg; have hcz18_0 : w17.cell? ⟨gb145, 0, none⟩ = some (.int .i64 0) := (blk_cell BK145.out 0).trans rfl; have hcz18_1 : w17.cell? ⟨gb145, 1, none⟩ = some (.int .i64 0) := (blk_cell BK145.out 1).trans rfl; have hfz18_0 := blk_frozen BK145.out 0; have hfz18_1 := blk_frozen BK145.out 1) | ((with_reducible refine gate_store (t := 62) (p := 10) rfl ?_); refine store_event (t := 62) (p := 10) (v := ?vo_w19) (w1 := ((w17.setCell ⟨gb145, 0, none⟩ (.int .i64 ((rd_T62 y141 x35_1).f0))).setCell ⟨gb145, 1, none⟩ (.int .i64 ((rd_T62 y141 x35_1).f1)))) ?hg ?ho ?hn ?hr ?_; (case ho => rfl); (case hg => rfl); (case hn => rfl); (case hr => first | (go_simp; done) | (go_simp; rfl)); intro w19 hw; have n0_ : Aside0 (Kd.R k62 62 w19 w.heap.size (fun k_ => k_ ≠ gb145) (.slice (some ad144) y141.length co10) y141) := ⟨(by rw [hw]; exact (by (with_reducible repeat (first | apply Kd.R_alloc | apply Kd.R_drewN | apply Kd.R_drew)); exact Kd.R_mono (Kd.R_far (p := ⟨gb145, 1, none⟩) (Kd.R_far (p := ⟨gb145, 0, none⟩) (Kd.R_mono HO_33.out (fun k_ hk => (⟨hk, hk.2⟩ : _ ∧ k_ ≠ gb145))) (fun _ hk => hk.2) (.int .i64 ((rd_T62 y141 x35_1).f0))) (fun _ hk => hk.2) (.int .i64 ((rd_T62 y141 x35_1).f1))) (fun _ hk => hk.1.2)))⟩; have n1_ : Aside0 (w19.heap[gb145]? = some (.cells #[.int .i64 ((rd_T62 y141 x35_1).f0), .int .i64 ((rd_T62 y141 x35_1).f1)] 62 (0, 0))) := ⟨(by rw [hw]; exact (by (with_reducible repeat (first | refine blk_drewN ?_ _ | refine blk_drew ?_ | refine blk_alloc ?_ _)); refine blk_put (cs := #[.int .i64 ((rd_T62 y141 x35_1).f0), .int .i64 0]) ?_ 1 _ rfl; (with_reducible repeat (first | refine blk_drewN ?_ _ | refine blk_drew ?_ | refine blk_alloc ?_ _)); refine blk_put (cs := #[.int .i64 0, .int .i64 0]) ?_ 0 _ rfl; (with_reducible repeat (first | refine blk_drewN ?_ _ | refine blk_drew ?_ | refine blk_alloc ?_ _)); exact BK145.out))⟩; have n2_ : Aside0 (Below w.heap.size w w19) := ⟨(by rw [hw]; exact (by repeat (first | (with_reducible first | exact HB.out | apply below_alloc | apply pw_below_drewN | apply below_drew1 | refine below_set ?_ GE145.out) | exact HB.out)))⟩; clear hw; clear HO_33; clear BK145; clear HB; have HO_33 := n0_; have BK145 := n1_; have HB := n2_; clear n0_ n1_ n2_; have hcz20_0 : w19.cell? ⟨gb145, 0, none⟩ = some (.int .i64 ((rd_T62 y141 x35_1).f0)) := (blk_cell BK145.out 0).trans rfl; have hcz20_1 : w19.cell? ⟨gb145, 1, none⟩ = some (.int .i64 ((rd_T62 y141 x35_1).f1)) := (blk_cell BK145.out 1).trans rfl; have hfz20_0 := blk_frozen BK145.out 0; have hfz20_1 := blk_frozen BK145.out 1) | ((with_reducible refine gate_callee (f := 36) rfl ?_); refine goesL_ (some 44) rfl rfl Try.func36 (by kernel_rfl) rfl #[.int .i64 ((rd_T62 y141 x35_1).f0), .int .i64 ((rd_T62 y141 x35_1).f1)] rfl (by (try simp only [List.map_toArray, List.map_cons, List.map_nil]); first | done | rfl | (simp only [List.length_drop, List.length_take]; rfl)) ?_; (with_reducible refine (score_Reduce.calls k1 ((rd_T62 y141 x35_1).f0) ((rd_T62 y141 x35_1).f1) t146 t147 t148 _ A14.out).mono ?_); rintro e w21 ⟨rfl, hb⟩; refine ⟨_, rfl, ?_⟩; have n0_ := Aside0.mk (Kd.R_below (by (with_reducible repeat (first | apply Kd.R_alloc | apply Kd.R_drewN | apply Kd.R_drew)); exact HO_33.out) hb); have n1_ := Aside0.mk (blk_below (g := gb145) (o := .cells #[.int .i64 ((rd_T62 y141 x35_1).f0), .int .i64 ((rd_T62 y141 x35_1).f1)] 62 (0, 0)) (by (with_reducible repeat (first | refine blk_drewN ?_ _ | refine blk_drew ?_ | refine blk_alloc ?_ _)); exact BK145.out) hb); have n2_ := Aside0.mk (below_step (by repeat (first | (with_reducible first | exact HB.out | apply below_alloc | apply pw_below_drewN | apply below_drew1 | refine below_set ?_ GE145.out) | exact HB.out)) hb); clear HO_33; clear BK145; clear HB; have HO_33 := n0_; have BK145 := n1_; have HB := n2_; clear n0_ n1_ n2_; (try clear hb); (try clear hb2); (try clear hk); (try clear hi)) | ((with_reducible refine gate_dst (N := 11) rfl ?_); refine box_event ?hg (N := 11) ?hd (cs := #[.int .i64 0, .int .i64 0]) (t := 28) ?hr ?_; (case hd => rfl); (case hg => rfl); (case hr => first | (go_simp; done) | (go_simp; rfl)); intro gb149 hg w22 hbox hb; have n0_ := Aside0.mk (Kd.R_below (by (with_reducible repeat (first | apply Kd.R_alloc | apply Kd.R_drewN | apply Kd.R_drew)); exact HO_33.out) hb); have n1_ := Aside0.mk (blk_below (g := gb145) (o := .cells #[.int .i64 ((rd_T62 y141 x35_1).f0), .int .i64 ((rd_T62 y141 x35_1).f1)] 62 (0, 0)) (by (with_reducible repeat (first | refine blk_drewN ?_ _ | refine blk_drew ?_ | refine blk_alloc ?_ _)); exact BK145.out) hb); have n2_ := Aside0.mk (below_step (by repeat (first | (with_reducible first | exact HB.out | apply below_alloc | apply pw_below_drewN | apply below_drew1 | refine below_set ?_ GE145.out) | exact HB.out)) hb); have n3_ := Aside0.mk (hbox); have n4_ := Aside0.mk ((by rw [hg]; exact (below_size (by repeat (first | (with_reducible first | exact HB.out | apply below_alloc | apply pw_below_drewN | apply below_drew1 | refine below_set ?_ GE145.out) | exact HB.out))) : w.heap.size ≤ gb149)); have n5_ := Aside0.mk ((by rw [hg]; exact (below_size (by repeat (first | (with_reducible first | exact HB.out | apply below_alloc | apply pw_below_drewN | apply below_drew1 | refine below_set ?_ GE145.out) | exact HB.out))) : w.heap.size ≤ gb149)); have n6_ := Aside0.mk ((by rw [hg]; exact Nat.ne_of_lt (blk_lt (g := gb145) (o := .cells #[.int .i64 ((rd_T62 y141 x35_1).f0), .int .i64 ((rd_T62 y141 x35_1).f1)] 62 (0, 0)) (by (with_reducible repeat (first | refine blk_drewN ?_ _ | refine blk_drew ?_ | refine blk_alloc ?_ _)); exact BK145.out)) : gb145 ≠ gb149)); have n7_ := Aside0.mk ((by rw [hg]; exact Nat.ne_of_gt (blk_lt (g := gb145) (o := .cells #[.int .i64 ((rd_T62 y141 x35_1).f0), .int .i64 ((rd_T62 y141 x35_1).f1)] 62 (0, 0)) (by (with_reducible repeat (first | refine blk_drewN ?_ _ | refine blk_drew ?_ | refine blk_alloc ?_ _)); exact BK145.out)) : gb149 ≠ gb145)); clear HO_33; clear BK145; clear HB; have HO_33 := n0_; have BK145 := n1_; have HB := n2_; have BK149 := n3_; have GW149 := n4_; have GE149 := n5_; have NB145_149 := n6_; have NB149_145 := n7_; clear n0_ n1_ n2_ n3_ n4_ n5_ n6_ n7_; clear hb hbox hg; have hnb23 := NB149_145.out; have hnc23 := NB145_149.out; have hcz24_0 : w22.cell? ⟨gb149, 0, none⟩ = some (.int .i64 0) := (blk_cell BK149.out 0).trans rfl; have hcz24_1 : w22.cell? ⟨gb149, 1, none⟩ = some (.int .i64 0) := (blk_cell BK149.out 1).trans rfl; have hfz24_0 := blk_frozen BK149.out 0; have hfz24_1 := blk_frozen BK149.out 1) | ((with_reducible refine gate_store (t := 28) (p := 11) rfl ?_); refine store_event (t := 28) (p := 11) (v := ?vo_w25) (w1 := ((w22.setCell ⟨gb149, 0, none⟩ (.int .i64 t146)).setCell ⟨gb149, 1, none⟩ (.int .i64 t147))) ?hg ?ho ?hn ?hr ?_; (case ho => rfl); (case hg => rfl); (case hn => rfl); (case hr => first | (go_simp; done) | (go_simp; rfl)); intro w25 hw; have n0_ : Aside0 (Kd.R k62 62 w25 w.heap.size (fun k_ => k_ ≠ gb145) (.slice (some ad144) y141.length co10) y141) := ⟨(by rw [hw]; exact (by (with_reducible repeat (first | apply Kd.R_alloc | apply Kd.R_drewN | apply Kd.R_drew)); exact Kd.R_mono (Kd.R_far (p := ⟨gb149, 1, none⟩) (Kd.R_far (p := ⟨gb149, 0, none⟩) (Kd.R_types HO_33.out BK149.out (by decide)) (fun _ hk => hk.2) (.int .i64 t146)) (fun _ hk => hk.2) (.int .i64 t147)) (fun _ hk => hk.1)))⟩; have n1_ : Aside0 (w25.heap[gb145]? = some (.cells #[.int .i64 ((rd_T62 y141 x35_1).f0), .int .i64 ((rd_T62 y141 x35_1).f1)] 62 (0, 0))) := ⟨(by rw [hw]; exact (by (with_reducible repeat (first | refine blk_drewN ?_ _ | refine blk_drew ?_ | refine blk_alloc ?_ _)); refine blk_far ?_ NB145_149.out _; (with_reducible repeat (first | refine blk_drewN ?_ _ | refine blk_drew ?_ | refine blk_alloc ?_ _)); refine blk_far ?_ NB145_149.out _; (with_reducible repeat (first | refine blk_drewN ?_ _ | refine blk_drew ?_ | refine blk_alloc ?_ _)); exact BK145.out))⟩; have n2_ : Aside0 (w25.heap[gb149]? = some (.cells #[.int .i64 t146, .int .i64 t147] 28 (0, 0))) := ⟨(by rw [hw]; exact (by (with_reducible repeat (first | refine blk_drewN ?_ _ | refine blk_drew ?_ | refine blk_alloc ?_ _)); refine blk_put (cs := #[.int .i64 t146, .int .i64 0]) ?_ 1 _ rfl; (with_reducible repeat (first | refine blk_drewN ?_ _ | refine blk_drew ?_ | refine blk_alloc ?_ _)); refine blk_put (cs := #[.int .i64 0, .int .i64 0]) ?_ 0 _ rfl; (with_reducible repeat (first | refine blk_drewN ?_ _ | refine blk_drew ?_ | refine blk_alloc ?_ _)); exact BK149.out))⟩; have n3_ : Aside0 (Below w.heap.size w w25) := ⟨(by rw [hw]; exact (by repeat (first | (with_reducible first | exact HB.out | apply below_alloc | apply pw_below_drewN | apply below_drew1 | refine below_set ?_ GE145.out | refine below_set ?_ GE149.out) | exact HB.out)))⟩; clear hw; clear HO_33; clear BK145; clear BK149; clear HB; have HO_33 := n0_; have BK145 := n1_; have BK149 := n2_; have HB := n3_; clear n0_ n1_ n2_ n3_; have hcz26_0 : w25.cell? ⟨gb145, 0, none⟩ = some (.int .i64 ((rd_T62 y141 x35_1).f0)) := (blk_cell BK145.out 0).trans rfl; have hcz26_1 : w25.cell? ⟨gb145, 1, none⟩ = some (.int .i64 ((rd_T62 y141 x35_1).f1)) := (blk_cell BK145.out 1).trans rfl; have hfz26_0 := blk_frozen BK145.out 0; have hfz26_1 := blk_frozen BK145.out 1) | ((with_reducible refine gate_callee (f := 37) rfl ?_); refine goesL_ (some 52) rfl rfl Try.func37 (by kernel_rfl) rfl #[.int .i64 ((rd_T62 y141 x35_1).f0), .int .i64 ((rd_T62 y141 x35_1).f1)] rfl (by (try simp only [List.map_toArray, List.map_cons, List.map_nil]); first | done | rfl | (simp only [List.length_drop, List.length_take]; rfl)) ?_; (with_reducible refine (synopticref38_Reduce.calls k1 ((rd_T62 y141 x35_1).f0) ((rd_T62 y141 x35_1).f1) t150 t151 t152 _ A15.out).mono ?_); rintro e w27 ⟨rfl, hb⟩; refine ⟨_, rfl, ?_⟩; have n0_ := Aside0.mk (Kd.R_below (by (with_reducible repeat (first | apply Kd.R_alloc | apply Kd.R_drewN | apply Kd.R_drew)); exact HO_33.out) hb); have n1_ := Aside0.mk (blk_below (g := gb145) (o := .cells #[.int .i64 ((rd_T62 y141 x35_1).f0), .int .i64 ((rd_T62 y141 x35_1).f1)] 62 (0, 0)) (by (with_reducible repeat (first | refine blk_drewN ?_ _ | refine blk_drew ?_ | refine blk_alloc ?_ _)); exact BK145.out) hb); have n2_ := Aside0.mk (blk_below (g := gb149) (o := .cells #[.int .i64 t146, .int .i64 t147] 28 (0, 0)) (by (with_reducible repeat (first | refine blk_drewN ?_ _ | refine blk_drew ?_ | refine blk_alloc ?_ _)); exact BK149.out) hb); have n3_ := Aside0.mk (below_step (by repeat (first | (with_reducible first | exact HB.out | apply below_alloc | apply pw_below_drewN | apply below_drew1 | refine below_set ?_ GE145.out | refine below_set ?_ GE149.out) | exact HB.out)) hb); clear HO_33; clear BK145; clear BK149; clear HB; have HO_33 := n0_; have BK145 := n1_; have BK149 := n2_; have HB := n3_; clear n0_ n1_ n2_ n3_; (try clear hb); (try clear hb2); (try clear hk); (try clear hi)) | ((with_reducible refine gate_dst (N := 13) rfl ?_); refine box_event ?hg (N := 13) ?hd (cs := #[.int .i64 0, .int .i64 0]) (t := 28) ?hr ?_; (case hd => rfl); (case hg => rfl); (case hr => first | (go_simp; done) | (go_simp; rfl)); intro gb153 hg w28 hbox hb; have n0_ := Aside0.mk (Kd.R_below (by (with_reducible repeat (first | apply Kd.R_alloc | apply Kd.R_drewN | apply Kd.R_drew)); exact HO_33.out) hb); have n1_ := Aside0.mk (blk_below (g := gb145) (o := .cells #[.int .i64 ((rd_T62 y141 x35_1).f0), .int .i64 ((rd_T62 y141 x35_1).f1)] 62 (0, 0)) (by (with_reducible repeat (first | refine blk_drewN ?_ _ | refine blk_drew ?_ | refine blk_alloc ?_ _)); exact BK145.out) hb); have n2_ := Aside0.mk (blk_below (g := gb149) (o := .cells #[.int .i64 t146, .int .i64 t147] 28 (0, 0)) (by (with_reducible repeat (first | refine blk_drewN ?_ _ | refine blk_drew ?_ | refine blk_alloc ?_ _)); exact BK149.out) hb); have n3_ := Aside0.mk (below_step (by repeat (first | (with_reducible first | exact HB.out | apply below_alloc | apply pw_below_drewN | apply below_drew1 | refine below_set ?_ GE145.out | refine below_set ?_ GE149.out) | exact HB.out)) hb); have n4_ := Aside0.mk (hbox); have n5_ := Aside0.mk ((by rw [hg]; exact (below_size (by repeat (first | (with_reducible first | exact HB.out | apply below_alloc | apply pw_below_drewN | apply below_drew1 | refine below_set ?_ GE145.out | refine below_set ?_ GE149.out) | exact HB.out))) : w.heap.size ≤ gb153)); have n6_ := Aside0.mk ((by rw [hg]; exact (below_size (by repeat (first | (with_reducible first | exact HB.out | apply below_alloc | apply pw_below_drewN | apply below_drew1 | refine below_set ?_ GE145.out | refine below_set ?_ GE149.out) | exact HB.out))) : w.heap.size ≤ gb153)); have n7_ := Aside0.mk ((by rw [hg]; exact Nat.ne_of_lt (blk_lt (g := gb145) (o := .cells #[.int .i64 ((rd_T62 y141 x35_1).f0), .int .i64 ((rd_T62 y141 x35_1).f1)] 62 (0, 0)) (by (with_reducible repeat (first | refine blk_drewN ?_ _ | refine blk_drew ?_ | refine blk_alloc ?_ _)); exact BK145.out)) : gb145 ≠ gb153)); have n8_ := Aside0.mk ((by rw [hg]; exact Nat.ne_of_gt (blk_lt (g := gb145) (o := .cells #[.int .i64 ((rd_T62 y141 x35_1).f0), .int .i64 ((rd_T62 y141 x35_1).f1)] 62 (0, 0)) (by (with_reducible repeat (first | refine blk_drewN ?_ _ | refine blk_drew ?_ | refine blk_alloc ?_ _)); exact BK145.out)) : gb153 ≠ gb145)); have n9_ := Aside0.mk ((by rw [hg]; exact Nat.ne_of_lt (blk_lt (g := gb149) (o := .cells #[.int .i64 t146, .int .i64 t147] 28 (0, 0)) (by (with_reducible repeat (first | refine blk_drewN ?_ _ | refine blk_drew ?_ | refine blk_alloc ?_ _)); exact BK149.out)) : gb149 ≠ gb153)); have n10_ := Aside0.mk ((by rw [hg]; exact Nat.ne_of_gt (blk_lt (g := gb149) (o := .cells #[.int .i64 t146, .int .i64 t147] 28 (0, 0)) (by (with_reducible repeat (first | refine blk_drewN ?_ _ | refine blk_drew ?_ | refine blk_alloc ?_ _)); exact BK149.out)) : gb153 ≠ gb149)); clear HO_33; clear BK145; clear BK149; clear HB; have HO_33 := n0_; have BK145 := n1_; have BK149 := n2_; have HB := n3_; have BK153 := n4_; have GW153 := n5_; have GE153 := n6_; have NB145_153 := n7_; have NB153_145 := n8_; have NB149_153 := n9_; have NB153_149 := n10_; clear n0_ n1_ n2_ n3_ n4_ n5_ n6_ n7_ n8_ n9_ n10_; clear hb hbox hg; have hnb29 := NB153_145.out; have hnc29 := NB145_153.out; have hnb30 := NB153_149.out; have hnc30 := NB149_153.out; have hcz31_0 : w28.cell? ⟨gb153, 0, none⟩ = some (.int .i64 0) := (blk_cell BK153.out 0).trans rfl; have hcz31_1 : w28.cell? ⟨gb153, 1, none⟩ = some (.int .i64 0) := (blk_cell BK153.out 1).trans rfl; have hfz31_0 := blk_frozen BK153.out 0; have hfz31_1 := blk_frozen BK153.out 1) | ((with_reducible refine gate_store (t := 28) (p := 13) rfl ?_); refine store_event (t := 28) (p := 13) (v := ?vo_w32) (w1 := ((w28.setCell ⟨gb153, 0, none⟩ (.int .i64 t150)).setCell ⟨gb153, 1, none⟩ (.int .i64 t151))) ?hg ?ho ?hn ?hr ?_; (case ho => rfl); (case hg => rfl); (case hn => rfl); (case hr => first | (go_simp; done) | (go_simp; rfl)); intro w32 hw; have n0_ : Aside0 (Kd.R k62 62 w32 w.heap.size (fun k_ => k_ ≠ gb145) (.slice (some ad144) y141.length co10) y141) := ⟨(by rw [hw]; exact (by (with_reducible repeat (first | apply Kd.R_alloc | apply Kd.R_drewN | apply Kd.R_drew)); exact Kd.R_mono (Kd.R_far (p := ⟨gb153, 1, none⟩) (Kd.R_far (p := ⟨gb153, 0, none⟩) (Kd.R_types HO_33.out BK153.out (by decide)) (fun _ hk => hk.2) (.int .i64 t150)) (fun _ hk => hk.2) (.int .i64 t151)) (fun _ hk => hk.1)))⟩; have n1_ : Aside0 (w32.heap[gb145]? = some (.cells #[.int .i64 ((rd_T62 y141 x35_1).f0), .int .i64 ((rd_T62 y141 x35_1).f1)] 62 (0, 0))) := ⟨(by rw [hw]; exact (by (with_reducible repeat (first | refine blk_drewN ?_ _ | refine blk_drew ?_ | refine blk_alloc ?_ _)); refine blk_far ?_ NB145_153.out _; (with_reducible repeat (first | refine blk_drewN ?_ _ | refine blk_drew ?_ | refine blk_alloc ?_ _)); refine blk_far ?_ NB145_153.out _; (with_reducible repeat (first | refine blk_drewN ?_ _ | refine blk_drew ?_ | refine blk_alloc ?_ _)); exact BK145.out))⟩; have n2_ : Aside0 (w32.heap[gb149]? = some (.cells #[.int .i64 t146, .int .i64 t147] 28 (0, 0))) := ⟨(by rw [hw]; exact (by (with_reducible repeat (first | refine blk_drewN ?_ _ | refine blk_drew ?_ | refine blk_alloc ?_ _)); refine blk_far ?_ NB149_153.out _; (with_reducible repeat (first | refine blk_drewN ?_ _ | refine blk_drew ?_ | refine blk_alloc ?_ _)); refine blk_far ?_ NB149_153.out _; (with_reducible repeat (first | refine blk_drewN ?_ _ | refine blk_drew ?_ | refine blk_alloc ?_ _)); exact BK149.out))⟩; have n3_ : Aside0 (w32.heap[gb153]? = some (.cells #[.int .i64 t150, .int .i64 t151] 28 (0, 0))) := ⟨(by rw [hw]; exact (by (with_reducible repeat (first | refine blk_drewN ?_ _ | refine blk_drew ?_ | refine blk_alloc ?_ _)); refine blk_put (cs := #[.int .i64 t150, .int .i64 0]) ?_ 1 _ rfl; (with_reducible repeat (first | refine blk_drewN ?_ _ | refine blk_drew ?_ | refine blk_alloc ?_ _)); refine blk_put (cs := #[.int .i64 0, .int .i64 0]) ?_ 0 _ rfl; (with_reducible repeat (first | refine blk_drewN ?_ _ | refine blk_drew ?_ | refine blk_alloc ?_ _)); exact BK153.out))⟩; have n4_ : Aside0 (Below w.heap.size w w32) := ⟨(by rw [hw]; exact (by repeat (first | (with_reducible first | exact HB.out | apply below_alloc | apply pw_below_drewN | apply below_drew1 | refine below_set ?_ GE145.out | refine below_set ?_ GE149.out | refine below_set ?_ GE153.out) | exact HB.out)))⟩; clear hw; clear HO_33; clear BK145; clear BK149; clear BK153; clear HB; have HO_33 := n0_; have BK145 := n1_; have BK149 := n2_; have BK153 := n3_; have HB := n4_; clear n0_ n1_ n2_ n3_ n4_))
              (try simp only [Act.put, List.setIfInBounds_toArray, List.set_cons_zero, List.set_cons_succ])
              go_cut [62] (fun v62 wc => ∃ (kq : Nat) (x62_15 : Bool), v62 = .bool x62_15 ∧ Aside0 (synopticlaw38_ScoreFractions.j1 kq a2 a3 t148 y141 (y141.length : Int) x35_1 x62_15 t146 t147 = some true) ∧ Aside0 (kq ≤ k1) ∧ Aside0 (Kd.R k62 62 wc w.heap.size (fun k_ => k_ ≠ gb145) (.slice (some ad144) y141.length co10) y141) ∧ Aside0 (wc.heap[gb145]? = some (.cells #[.int .i64 ((rd_T62 y141 x35_1).f0), .int .i64 ((rd_T62 y141 x35_1).f1)] 62 (0, 0))) ∧ Aside0 (wc.heap[gb149]? = some (.cells #[.int .i64 t146, .int .i64 t147] 28 (0, 0))) ∧ Aside0 (wc.heap[gb153]? = some (.cells #[.int .i64 t150, .int .i64 t151] 28 (0, 0))) ∧ Aside0 (Below w.heap.size w wc))
              case first =>
                have H := HC16.out
                clear HC16
                by_cases c33 : t148 = t152
                · rw [if_pos c33] at H
                  have c33b0 : (t148 == t152) = true := beq_iff_eq.mpr c33
                  have c33b1 : (t148 != t152) = false := bne_eq_false_iff_eq.mpr c33
                  clear c33
                  (first | rw [c33b0] | (simp only [i64_w, i32_w]; rw [c33b0]) | skip)
                  by_cases c34 : (!(t146 == t150) || (!(t147 == t151))) = true
                  · rw [if_pos c34] at H
                    exact absurd H (by simp)
                  · rw [if_neg c34] at H
                    have e_ : t146 = t150 ∧ t147 = t151 := by simpa using c34
                    clear c34
                    obtain ⟨rfl, rfl⟩ := e_
                    have H' := Aside0.mk H
                    clear H
                    have hnb35 := NB149_145.out
                    have hnc35 := NB145_149.out
                    have hnb36 := NB149_153.out
                    have hnc36 := NB153_149.out
                    have hcz37_0 : w32.cell? ⟨gb149, 0, none⟩ = some (.int .i64 t146) := (blk_cell BK149.out 0).trans rfl
                    have hcz37_1 : w32.cell? ⟨gb149, 1, none⟩ = some (.int .i64 t147) := (blk_cell BK149.out 1).trans rfl
                    have hfz37_0 := blk_frozen BK149.out 0
                    have hfz37_1 := blk_frozen BK149.out 1
                    have hnb38 := NB153_145.out
                    have hnc38 := NB145_153.out
                    have hcz39_0 : w32.cell? ⟨gb153, 0, none⟩ = some (.int .i64 t146) := (blk_cell BK153.out 0).trans rfl
                    have hcz39_1 : w32.cell? ⟨gb153, 1, none⟩ = some (.int .i64 t147) := (blk_cell BK153.out 1).trans rfl
                    have hfz39_0 := blk_frozen BK153.out 0
                    have hfz39_1 := blk_frozen BK153.out 1
                    go_wp2
                    go_meet
                    case rel => exact ⟨_, (false), (by first | rfl | (simp; done) | (simp [*]; done)), H', ⟨by have := HK1.out; first | omega | exact Nat.le_refl _⟩, ⟨by (with_reducible repeat (first | apply Kd.R_alloc | apply Kd.R_drewN | apply Kd.R_drew)); exact HO_33.out⟩, ⟨by (with_reducible repeat (first | refine blk_drewN ?_ _ | refine blk_drew ?_ | refine blk_alloc ?_ _)); exact BK145.out⟩, ⟨by (with_reducible repeat (first | refine blk_drewN ?_ _ | refine blk_drew ?_ | refine blk_alloc ?_ _)); exact BK149.out⟩, ⟨by (with_reducible repeat (first | refine blk_drewN ?_ _ | refine blk_drew ?_ | refine blk_alloc ?_ _)); exact BK153.out⟩, ⟨by repeat (first | (with_reducible first | exact HB.out | apply below_alloc | apply pw_below_drewN | apply below_drew1 | refine below_set ?_ GE145.out | refine below_set ?_ GE149.out | refine below_set ?_ GE153.out) | exact HB.out)⟩⟩
                · rw [if_neg c33] at H
                  exact absurd H (by simp)
              case rest =>
                clear HC16
                try clear c1
                try clear p1
                try clear q1
                try clear hx1
                try clear c2
                try clear p2
                try clear c3
                try clear c6
                try clear c7
                try clear c9
                try clear c11
                try clear c11b0
                try clear c12
                try clear c12b0
                try clear c13
                try clear c13b0
                try clear p14
                try clear q14
                try clear hx14
                try clear c23
                try clear c29
                try clear c30
                try clear c33
                try clear c33b0
                try clear c33b1
                try clear c34
                try clear c34b0
                try clear c35
                try clear c36
                try clear c37
                try clear c38
                try clear hcz18_0
                try clear hcz18_1
                try clear hcz20_0
                try clear hcz20_1
                try clear hcz24_0
                try clear hcz24_1
                try clear hcz26_0
                try clear hcz26_1
                try clear hcz31_0
                try clear hcz31_1
                try clear hcz37_0
                try clear hcz37_1
                try clear hcz39_0
                try clear hcz39_1
                try clear hfz18_0
                try clear hfz18_1
                try clear hfz20_0
                try clear hfz20_1
                try clear hfz24_0
                try clear hfz24_1
                try clear hfz26_0
                try clear hfz26_1
                try clear hfz31_0
                try clear hfz31_1
                try clear hfz37_0
                try clear hfz37_1
                try clear hfz39_0
                try clear hfz39_1
                try clear hx144_0
                try clear hx144_1
                try clear p144
                try clear p2
                try clear q144
                obtain ⟨kq, x62_15, rfl, HA, HJ15, HO_33, BK145, BK149, BK153, HB⟩ := hcut
                cases kq with
                | zero => exact absurd HA.out (by simp [synopticlaw38_ScoreFractions.j1])
                | succ kj15 =>
                  have H := HA.out
                  clear HA
                  simp only [synopticlaw38_ScoreFractions.j1] at H
                  by_cases c40 : x62_15 = true
                  · subst c40
                    have H1 : (none) = some true := by rw [if_pos rfl] at H; exact H
                    clear H
                    have H := H1
                    clear H1
                    exact absurd H (by simp)
                  · replace c40 := Bool.eq_false_iff.mpr c40
                    subst c40
                    have H1 : (if t148 = 0 then ((score_Reduce.f kj15 t146 t147).bind fun bt154 => (if bt154.2.2 = 0 then (if (!(bt154.1 == t146) || (!(bt154.2.1 == t147))) = true then (none) else (if t147 < 1 then (none) else ((score_Compare.f kj15 t146 t147 bt154.1 bt154.2.1).bind fun t158 => (if (t158 != 0) = true then (none) else (synopticlaw38_ScoreFractions.j2 kj15 a2 a3 y141 (y141.length : Int) x35_1 false t146 t147))))) else (none))) else (synopticlaw38_ScoreFractions.l0 kj15 a2 a3 y141 (y141.length : Int) (wrap64 (x35_1 + 1)))) = some true := by rw [if_neg (show ¬ (false = true) by decide)] at H; exact H
                    clear H
                    have H := H1
                    clear H1
                    by_cases c41 : t148 = 0
                    · rw [if_pos c41] at H
                      have c41b0 : (t148 == 0) = true := beq_iff_eq.mpr c41
                      have c41b1 : (t148 != 0) = false := bne_eq_false_iff_eq.mpr c41
                      clear c41
                      replace H := Option.bind_eq_some_iff.mp H
                      obtain ⟨⟨t154, t155, t156⟩, A420, H⟩ := H
                      replace H : (if t156 = 0 then (if (!(t154 == t146) || (!(t155 == t147))) = true then (none) else (if t147 < 1 then (none) else ((score_Compare.f kj15 t146 t147 t154 t155).bind fun t158 => (if (t158 != 0) = true then (none) else (synopticlaw38_ScoreFractions.j2 kj15 a2 a3 y141 (y141.length : Int) x35_1 false t146 t147))))) else (none)) = some true := H
                      have A42 := Aside0.mk A420
                      clear A420
                      have HC43 := Aside0.mk H
                      clear H
                      have hnb44 := NB149_145.out
                      have hnc44 := NB145_149.out
                      have hnb45 := NB149_153.out
                      have hnc45 := NB153_149.out
                      have hcz46_0 : wc.cell? ⟨gb149, 0, none⟩ = some (.int .i64 t146) := (blk_cell BK149.out 0).trans rfl
                      have hcz46_1 : wc.cell? ⟨gb149, 1, none⟩ = some (.int .i64 t147) := (blk_cell BK149.out 1).trans rfl
                      have hfz46_0 := blk_frozen BK149.out 0
                      have hfz46_1 := blk_frozen BK149.out 1
                      go_upto_region 12 with (first | ((with_reducible refine gate_callee (f := 36) rfl ?_); refine goesL_ (some 70) rfl rfl Try.func36 (by kernel_rfl) rfl #[.int .i64 t146, .int .i64 t147] rfl (by (try simp only [List.map_toArray, List.map_cons, List.map_nil]); first | done | rfl | (simp only [List.length_drop, List.length_take]; rfl)) ?_; (with_reducible refine (score_Reduce.calls kj15 t146 t147 t154 t155 t156 _ A42.out).mono ?_); rintro e w47 ⟨rfl, hb⟩; refine ⟨_, rfl, ?_⟩; have n0_ := Aside0.mk (Kd.R_below (by (with_reducible repeat (first | apply Kd.R_alloc | apply Kd.R_drewN | apply Kd.R_drew)); exact HO_33.out) hb); have n1_ := Aside0.mk (blk_below (g := gb145) (o := .cells #[.int .i64 ((rd_T62 y141 x35_1).f0), .int .i64 ((rd_T62 y141 x35_1).f1)] 62 (0, 0)) (by (with_reducible repeat (first | refine blk_drewN ?_ _ | refine blk_drew ?_ | refine blk_alloc ?_ _)); exact BK145.out) hb); have n2_ := Aside0.mk (blk_below (g := gb149) (o := .cells #[.int .i64 t146, .int .i64 t147] 28 (0, 0)) (by (with_reducible repeat (first | refine blk_drewN ?_ _ | refine blk_drew ?_ | refine blk_alloc ?_ _)); exact BK149.out) hb); have n3_ := Aside0.mk (blk_below (g := gb153) (o := .cells #[.int .i64 t150, .int .i64 t151] 28 (0, 0)) (by (with_reducible repeat (first | refine blk_drewN ?_ _ | refine blk_drew ?_ | refine blk_alloc ?_ _)); exact BK153.out) hb); have n4_ := Aside0.mk (below_step (by repeat (first | (with_reducible first | exact HB.out | apply below_alloc | apply pw_below_drewN | apply below_drew1 | refine below_set ?_ GE145.out | refine below_set ?_ GE149.out | refine below_set ?_ GE153.out) | exact HB.out)) hb); clear HO_33; clear BK145; clear BK149; clear BK153; clear HB; have HO_33 := n0_; have BK145 := n1_; have BK149 := n2_; have BK153 := n3_; have HB := n4_; clear n0_ n1_ n2_ n3_ n4_; (try clear hb); (try clear hb2); (try clear hk); (try clear hi)) | ((with_reducible refine gate_dst (N := 15) rfl ?_); refine box_event ?hg (N := 15) ?hd (cs := #[.int .i64 0, .int .i64 0]) (t := 28) ?hr ?_; (case hd => rfl); (case hg => rfl); (case hr => first | (go_simp; done) | (go_simp; rfl)); intro gb157 hg w48 hbox hb; have n0_ := Aside0.mk (Kd.R_below (by (with_reducible repeat (first | apply Kd.R_alloc | apply Kd.R_drewN | apply Kd.R_drew)); exact HO_33.out) hb); have n1_ := Aside0.mk (blk_below (g := gb145) (o := .cells #[.int .i64 ((rd_T62 y141 x35_1).f0), .int .i64 ((rd_T62 y141 x35_1).f1)] 62 (0, 0)) (by (with_reducible repeat (first | refine blk_drewN ?_ _ | refine blk_drew ?_ | refine blk_alloc ?_ _)); exact BK145.out) hb); have n2_ := Aside0.mk (blk_below (g := gb149) (o := .cells #[.int .i64 t146, .int .i64 t147] 28 (0, 0)) (by (with_reducible repeat (first | refine blk_drewN ?_ _ | refine blk_drew ?_ | refine blk_alloc ?_ _)); exact BK149.out) hb); have n3_ := Aside0.mk (blk_below (g := gb153) (o := .cells #[.int .i64 t150, .int .i64 t151] 28 (0, 0)) (by (with_reducible repeat (first | refine blk_drewN ?_ _ | refine blk_drew ?_ | refine blk_alloc ?_ _)); exact BK153.out) hb); have n4_ := Aside0.mk (below_step (by repeat (first | (with_reducible first | exact HB.out | apply below_alloc | apply pw_below_drewN | apply below_drew1 | refine below_set ?_ GE145.out | refine below_set ?_ GE149.out | refine below_set ?_ GE153.out) | exact HB.out)) hb); have n5_ := Aside0.mk (hbox); have n6_ := Aside0.mk ((by rw [hg]; exact (below_size (by repeat (first | (with_reducible first | exact HB.out | apply below_alloc | apply pw_below_drewN | apply below_drew1 | refine below_set ?_ GE145.out | refine below_set ?_ GE149.out | refine below_set ?_ GE153.out) | exact HB.out))) : w.heap.size ≤ gb157)); have n7_ := Aside0.mk ((by rw [hg]; exact (below_size (by repeat (first | (with_reducible first | exact HB.out | apply below_alloc | apply pw_below_drewN | apply below_drew1 | refine below_set ?_ GE145.out | refine below_set ?_ GE149.out | refine below_set ?_ GE153.out) | exact HB.out))) : w.heap.size ≤ gb157)); have n8_ := Aside0.mk ((by rw [hg]; exact Nat.ne_of_lt (blk_lt (g := gb145) (o := .cells #[.int .i64 ((rd_T62 y141 x35_1).f0), .int .i64 ((rd_T62 y141 x35_1).f1)] 62 (0, 0)) (by (with_reducible repeat (first | refine blk_drewN ?_ _ | refine blk_drew ?_ | refine blk_alloc ?_ _)); exact BK145.out)) : gb145 ≠ gb157)); have n9_ := Aside0.mk ((by rw [hg]; exact Nat.ne_of_gt (blk_lt (g := gb145) (o := .cells #[.int .i64 ((rd_T62 y141 x35_1).f0), .int .i64 ((rd_T62 y141 x35_1).f1)] 62 (0, 0)) (by (with_reducible repeat (first | refine blk_drewN ?_ _ | refine blk_drew ?_ | refine blk_alloc ?_ _)); exact BK145.out)) : gb157 ≠ gb145)); have n10_ := Aside0.mk ((by rw [hg]; exact Nat.ne_of_lt (blk_lt (g := gb149) (o := .cells #[.int .i64 t146, .int .i64 t147] 28 (0, 0)) (by (with_reducible repeat (first | refine blk_drewN ?_ _ | refine blk_drew ?_ | refine blk_alloc ?_ _)); exact BK149.out)) : gb149 ≠ gb157)); have n11_ := Aside0.mk ((by rw [hg]; exact Nat.ne_of_gt (blk_lt (g := gb149) (o := .cells #[.int .i64 t146, .int .i64 t147] 28 (0, 0)) (by (with_reducible repeat (first | refine blk_drewN ?_ _ | refine blk_drew ?_ | refine blk_alloc ?_ _)); exact BK149.out)) : gb157 ≠ gb149)); have n12_ := Aside0.mk ((by rw [hg]; exact Nat.ne_of_lt (blk_lt (g := gb153) (o := .cells #[.int .i64 t150, .int .i64 t151] 28 (0, 0)) (by (with_reducible repeat (first | refine blk_drewN ?_ _ | refine blk_drew ?_ | refine blk_alloc ?_ _)); exact BK153.out)) : gb153 ≠ gb157)); have n13_ := Aside0.mk ((by rw [hg]; exact Nat.ne_of_gt (blk_lt (g := gb153) (o := .cells #[.int .i64 t150, .int .i64 t151] 28 (0, 0)) (by (with_reducible repeat (first | refine blk_drewN ?_ _ | refine blk_drew ?_ | refine blk_alloc ?_ _)); exact BK153.out)) : gb157 ≠ gb153)); clear HO_33; clear BK145; clear BK149; clear BK153; clear HB; have HO_33 := n0_; have BK145 := n1_; have BK149 := n2_; have BK153 := n3_; have HB := n4_; have BK157 := n5_; have GW157 := n6_; have GE157 := n7_; have NB145_157 := n8_; have NB157_145 := n9_; have NB149_157 := n10_; have NB157_149 := n11_; have NB153_157 := n12_; have NB157_153 := n13_; clear n0_ n1_ n2_ n3_ n4_ n5_ n6_ n7_ n8_ n9_ n10_ n11_ n12_ n13_; clear hb hbox hg; have hnb49 := NB157_145.out; have hnc49 := NB145_157.out; have hnb50 := NB157_149.out; have hnc50 := NB149_157.out; have hnb51 := NB157_153.out; have hnc51 := NB153_157.out; have hcz52_0 : w48.cell? ⟨gb157, 0, none⟩ = some (.int .i64 0) := (blk_cell BK157.out 0).trans rfl; have hcz52_1 : w48.cell? ⟨gb157, 1, none⟩ = some (.int .i64 0) := (blk_cell BK157.out 1).trans rfl; have hfz52_0 := blk_frozen BK157.out 0; have hfz52_1 := blk_frozen BK157.out 1) | ((with_reducible refine gate_store (t := 28) (p := 15) rfl ?_); refine store_event (t := 28) (p := 15) (v := ?vo_w53) (w1 := ((w48.setCell ⟨gb157, 0, none⟩ (.int .i64 t154)).setCell ⟨gb157, 1, none⟩ (.int .i64 t155))) ?hg ?ho ?hn ?hr ?_; (case ho => rfl); (case hg => rfl); (case hn => rfl); (case hr => first | (go_simp; done) | (go_simp; rfl)); intro w53 hw; have n0_ : Aside0 (Kd.R k62 62 w53 w.heap.size (fun k_ => k_ ≠ gb145) (.slice (some ad144) y141.length co10) y141) := ⟨(by rw [hw]; exact (by (with_reducible repeat (first | apply Kd.R_alloc | apply Kd.R_drewN | apply Kd.R_drew)); exact Kd.R_mono (Kd.R_far (p := ⟨gb157, 1, none⟩) (Kd.R_far (p := ⟨gb157, 0, none⟩) (Kd.R_types HO_33.out BK157.out (by decide)) (fun _ hk => hk.2) (.int .i64 t154)) (fun _ hk => hk.2) (.int .i64 t155)) (fun _ hk => hk.1)))⟩; have n1_ : Aside0 (w53.heap[gb145]? = some (.cells #[.int .i64 ((rd_T62 y141 x35_1).f0), .int .i64 ((rd_T62 y141 x35_1).f1)] 62 (0, 0))) := ⟨(by rw [hw]; exact (by (with_reducible repeat (first | refine blk_drewN ?_ _ | refine blk_drew ?_ | refine blk_alloc ?_ _)); refine blk_far ?_ NB145_157.out _; (with_reducible repeat (first | refine blk_drewN ?_ _ | refine blk_drew ?_ | refine blk_alloc ?_ _)); refine blk_far ?_ NB145_157.out _; (with_reducible repeat (first | refine blk_drewN ?_ _ | refine blk_drew ?_ | refine blk_alloc ?_ _)); exact BK145.out))⟩; have n2_ : Aside0 (w53.heap[gb149]? = some (.cells #[.int .i64 t146, .int .i64 t147] 28 (0, 0))) := ⟨(by rw [hw]; exact (by (with_reducible repeat (first | refine blk_drewN ?_ _ | refine blk_drew ?_ | refine blk_alloc ?_ _)); refine blk_far ?_ NB149_157.out _; (with_reducible repeat (first | refine blk_drewN ?_ _ | refine blk_drew ?_ | refine blk_alloc ?_ _)); refine blk_far ?_ NB149_157.out _; (with_reducible repeat (first | refine blk_drewN ?_ _ | refine blk_drew ?_ | refine blk_alloc ?_ _)); exact BK149.out))⟩; have n3_ : Aside0 (w53.heap[gb153]? = some (.cells #[.int .i64 t150, .int .i64 t151] 28 (0, 0))) := ⟨(by rw [hw]; exact (by (with_reducible repeat (first | refine blk_drewN ?_ _ | refine blk_drew ?_ | refine blk_alloc ?_ _)); refine blk_far ?_ NB153_157.out _; (with_reducible repeat (first | refine blk_drewN ?_ _ | refine blk_drew ?_ | refine blk_alloc ?_ _)); refine blk_far ?_ NB153_157.out _; (with_reducible repeat (first | refine blk_drewN ?_ _ | refine blk_drew ?_ | refine blk_alloc ?_ _)); exact BK153.out))⟩; have n4_ : Aside0 (w53.heap[gb157]? = some (.cells #[.int .i64 t154, .int .i64 t155] 28 (0, 0))) := ⟨(by rw [hw]; exact (by (with_reducible repeat (first | refine blk_drewN ?_ _ | refine blk_drew ?_ | refine blk_alloc ?_ _)); refine blk_put (cs := #[.int .i64 t154, .int .i64 0]) ?_ 1 _ rfl; (with_reducible repeat (first | refine blk_drewN ?_ _ | refine blk_drew ?_ | refine blk_alloc ?_ _)); refine blk_put (cs := #[.int .i64 0, .int .i64 0]) ?_ 0 _ rfl; (with_reducible repeat (first | refine blk_drewN ?_ _ | refine blk_drew ?_ | refine blk_alloc ?_ _)); exact BK157.out))⟩; have n5_ : Aside0 (Below w.heap.size w w53) := ⟨(by rw [hw]; exact (by repeat (first | (with_reducible first | exact HB.out | apply below_alloc | apply pw_below_drewN | apply below_drew1 | refine below_set ?_ GE145.out | refine below_set ?_ GE149.out | refine below_set ?_ GE153.out | refine below_set ?_ GE157.out) | exact HB.out)))⟩; clear hw; clear HO_33; clear BK145; clear BK149; clear BK153; clear BK157; clear HB; have HO_33 := n0_; have BK145 := n1_; have BK149 := n2_; have BK153 := n3_; have BK157 := n4_; have HB := n5_; clear n0_ n1_ n2_ n3_ n4_ n5_))
                      (try simp only [Act.put, List.setIfInBounds_toArray, List.set_cons_zero, List.set_cons_succ])
                      go_cut [90] (fun v90 wc => ∃ (kq : Nat) (x90_42 : Bool), v90 = .bool x90_42 ∧ Aside0 (synopticlaw38_ScoreFractions.j2 kq a2 a3 y141 (y141.length : Int) x35_1 x90_42 t146 t147 = some true) ∧ Aside0 (kq ≤ kj15) ∧ Aside0 (Kd.R k62 62 wc w.heap.size (fun k_ => k_ ≠ gb145) (.slice (some ad144) y141.length co10) y141) ∧ Aside0 (wc.heap[gb145]? = some (.cells #[.int .i64 ((rd_T62 y141 x35_1).f0), .int .i64 ((rd_T62 y141 x35_1).f1)] 62 (0, 0))) ∧ Aside0 (wc.heap[gb149]? = some (.cells #[.int .i64 t146, .int .i64 t147] 28 (0, 0))) ∧ Aside0 (wc.heap[gb153]? = some (.cells #[.int .i64 t150, .int .i64 t151] 28 (0, 0))) ∧ Aside0 (wc.heap[gb157]? = some (.cells #[.int .i64 t154, .int .i64 t155] 28 (0, 0))) ∧ Aside0 (Below w.heap.size w wc))
                      case first =>
                        have H := HC43.out
                        clear HC43
                        by_cases c54 : t156 = 0
                        · rw [if_pos c54] at H
                          have c54b0 : (t156 == 0) = true := beq_iff_eq.mpr c54
                          have c54b1 : (t156 != 0) = false := bne_eq_false_iff_eq.mpr c54
                          clear c54
                          (first | rw [c54b0] | (simp only [i64_w, i32_w]; rw [c54b0]) | skip)
                          by_cases c55 : (!(t154 == t146) || (!(t155 == t147))) = true
                          · rw [if_pos c55] at H
                            exact absurd H (by simp)
                          · rw [if_neg c55] at H
                            have e_ : t154 = t146 ∧ t155 = t147 := by simpa using c55
                            clear c55
                            obtain ⟨rfl, rfl⟩ := e_
                            by_cases c56 : t155 < 1
                            · rw [if_pos c56] at H
                              exact absurd H (by simp)
                            · rw [if_neg c56] at H
                              have c56b0 : decide (t155 < 1) = false := decide_eq_false c56
                              clear c56
                              replace H := Option.bind_eq_some_iff.mp H
                              obtain ⟨t158, A570, H⟩ := H
                              replace H : (if (t158 != 0) = true then (none) else (synopticlaw38_ScoreFractions.j2 kj15 a2 a3 y141 (y141.length : Int) x35_1 false t154 t155)) = some true := H
                              have A57 := Aside0.mk A570
                              clear A570
                              by_cases c58 : (t158 != 0) = true
                              · rw [if_pos c58] at H
                                exact absurd H (by simp)
                              · rw [if_neg c58] at H
                                have c58b0 : (t158 != 0) = false := by simpa using c58
                                (try (have c58b1 : decide (t158 = 0) = true := by simpa using c58))
                                (try (have c58b2 : (t158 == 0) = true := by simpa using c58))
                                clear c58
                                have H' := Aside0.mk H
                                clear H
                                have hnb59 := NB157_145.out
                                have hnc59 := NB145_157.out
                                have hnb60 := NB157_149.out
                                have hnc60 := NB149_157.out
                                have hnb61 := NB157_153.out
                                have hnc61 := NB153_157.out
                                have hcz62_0 : w53.cell? ⟨gb157, 0, none⟩ = some (.int .i64 t154) := (blk_cell BK157.out 0).trans rfl
                                have hcz62_1 : w53.cell? ⟨gb157, 1, none⟩ = some (.int .i64 t155) := (blk_cell BK157.out 1).trans rfl
                                have hfz62_0 := blk_frozen BK157.out 0
                                have hfz62_1 := blk_frozen BK157.out 1
                                have hnb63 := NB149_145.out
                                have hnc63 := NB145_149.out
                                have hnb64 := NB149_153.out
                                have hnc64 := NB153_149.out
                                have hcz65_0 : w53.cell? ⟨gb149, 0, none⟩ = some (.int .i64 t154) := (blk_cell BK149.out 0).trans rfl
                                have hcz65_1 : w53.cell? ⟨gb149, 1, none⟩ = some (.int .i64 t155) := (blk_cell BK149.out 1).trans rfl
                                have hfz65_0 := blk_frozen BK149.out 0
                                have hfz65_1 := blk_frozen BK149.out 1
                                go_wp2_with (first | (go_at_call 38; (with_reducible refine (score_Compare.calls kj15 t154 t155 t154 t155 t158 _ A57.out).mono ?_); rintro e w66 ⟨rfl, hb⟩; have n0_ := Aside0.mk (Kd.R_below (by (with_reducible repeat (first | apply Kd.R_alloc | apply Kd.R_drewN | apply Kd.R_drew)); exact HO_33.out) hb); have n1_ := Aside0.mk (blk_below (g := gb145) (o := .cells #[.int .i64 ((rd_T62 y141 x35_1).f0), .int .i64 ((rd_T62 y141 x35_1).f1)] 62 (0, 0)) (by (with_reducible repeat (first | refine blk_drewN ?_ _ | refine blk_drew ?_ | refine blk_alloc ?_ _)); exact BK145.out) hb); have n2_ := Aside0.mk (blk_below (g := gb149) (o := .cells #[.int .i64 t154, .int .i64 t155] 28 (0, 0)) (by (with_reducible repeat (first | refine blk_drewN ?_ _ | refine blk_drew ?_ | refine blk_alloc ?_ _)); exact BK149.out) hb); have n3_ := Aside0.mk (blk_below (g := gb153) (o := .cells #[.int .i64 t150, .int .i64 t151] 28 (0, 0)) (by (with_reducible repeat (first | refine blk_drewN ?_ _ | refine blk_drew ?_ | refine blk_alloc ?_ _)); exact BK153.out) hb); have n4_ := Aside0.mk (blk_below (g := gb157) (o := .cells #[.int .i64 t154, .int .i64 t155] 28 (0, 0)) (by (with_reducible repeat (first | refine blk_drewN ?_ _ | refine blk_drew ?_ | refine blk_alloc ?_ _)); exact BK157.out) hb); have n5_ := Aside0.mk (below_step (by repeat (first | (with_reducible first | exact HB.out | apply below_alloc | apply pw_below_drewN | apply below_drew1 | refine below_set ?_ GE145.out | refine below_set ?_ GE149.out | refine below_set ?_ GE153.out | refine below_set ?_ GE157.out) | exact HB.out)) hb); clear HO_33; clear BK145; clear BK149; clear BK153; clear BK157; clear HB; have HO_33 := n0_; have BK145 := n1_; have BK149 := n2_; have BK153 := n3_; have BK157 := n4_; have HB := n5_; clear n0_ n1_ n2_ n3_ n4_ n5_; (try clear hb); (try clear hb2); (try clear hk); (try clear hi)))
                                go_meet
                                case rel => exact ⟨_, (false), (by first | rfl | (simp; done) | (simp [*]; done)), H', ⟨by have := HK1.out; have := HJ15.out; first | omega | exact Nat.le_refl _⟩, ⟨by (with_reducible repeat (first | apply Kd.R_alloc | apply Kd.R_drewN | apply Kd.R_drew)); exact HO_33.out⟩, ⟨by (with_reducible repeat (first | refine blk_drewN ?_ _ | refine blk_drew ?_ | refine blk_alloc ?_ _)); exact BK145.out⟩, ⟨by (with_reducible repeat (first | refine blk_drewN ?_ _ | refine blk_drew ?_ | refine blk_alloc ?_ _)); exact BK149.out⟩, ⟨by (with_reducible repeat (first | refine blk_drewN ?_ _ | refine blk_drew ?_ | refine blk_alloc ?_ _)); exact BK153.out⟩, ⟨by (with_reducible repeat (first | refine blk_drewN ?_ _ | refine blk_drew ?_ | refine blk_alloc ?_ _)); exact BK157.out⟩, ⟨by repeat (first | (with_reducible first | exact HB.out | apply below_alloc | apply pw_below_drewN | apply below_drew1 | refine below_set ?_ GE145.out | refine below_set ?_ GE149.out | refine below_set ?_ GE153.out | refine below_set ?_ GE157.out) | exact HB.out)⟩⟩
                        · rw [if_neg c54] at H
                          exact absurd H (by simp)
                      case rest =>
                        clear HC43
                        try clear c1
                        try clear p1
                        try clear q1
                        try clear hx1
                        try clear c2
                        try clear p2
                        try clear c3
                        try clear c4
                        try clear c5
                        try clear c6
                        try clear p6
                        try clear c7
                        try clear c9
                        try clear c11
                        try clear c11b0
                        try clear c12
                        try clear c12b0
                        try clear c13
                        try clear c13b0
                        try clear p14
                        try clear q14
                        try clear hx14
                        try clear c23
                        try clear c29
                        try clear c30
                        try clear c33
                        try clear c33b0
                        try clear c33b1
                        try clear c34
                        try clear c34b0
                        try clear c35
                        try clear c36
                        try clear c37
                        try clear c38
                        try clear c40
                        try clear c41
                        try clear c41b0
                        try clear c41b1
                        try clear c44
                        try clear c45
                        try clear c49
                        try clear c50
                        try clear c51
                        try clear c54
                        try clear c54b0
                        try clear c54b1
                        try clear c55
                        try clear c55b0
                        try clear c56
                        try clear c56b0
                        try clear c58
                        try clear c58b0
                        try clear c58b1
                        try clear c58b2
                        try clear c59
                        try clear c60
                        try clear c61
                        try clear c63
                        try clear c64
                        try clear p64
                        try clear hcz18_0
                        try clear hcz18_1
                        try clear hcz20_0
                        try clear hcz20_1
                        try clear hcz24_0
                        try clear hcz24_1
                        try clear hcz26_0
                        try clear hcz26_1
                        try clear hcz31_0
                        try clear hcz31_1
                        try clear hcz37_0
                        try clear hcz37_1
                        try clear hcz39_0
                        try clear hcz39_1
                        try clear hcz46_0
                        try clear hcz46_1
                        try clear hcz52_0
                        try clear hcz52_1
                        try clear hcz62_0
                        try clear hcz62_1
                        try clear hcz65_0
                        try clear hcz65_1
                        try clear hfz18_0
                        try clear hfz18_1
                        try clear hfz20_0
                        try clear hfz20_1
                        try clear hfz24_0
                        try clear hfz24_1
                        try clear hfz26_0
                        try clear hfz26_1
                        try clear hfz31_0
                        try clear hfz31_1
                        try clear hfz37_0
                        try clear hfz37_1
                        try clear hfz39_0
                        try clear hfz39_1
                        try clear hfz46_0
                        try clear hfz46_1
                        try clear hfz52_0
                        try clear hfz52_1
                        try clear hfz62_0
                        try clear hfz62_1
                        try clear hfz65_0
                        try clear hfz65_1
                        try clear hx144_0
                        try clear hx144_1
                        try clear p1
                        try clear p14
                        try clear p144
                        try clear p2
                        try clear q1
                        try clear q14
                        try clear q144
                        obtain ⟨kq, x90_42, rfl, HA, HJ42, HO_33, BK145, BK149, BK153, BK157, HB⟩ := hcut
                        cases kq with
                        | zero => exact absurd HA.out (by simp [synopticlaw38_ScoreFractions.j2])
                        | succ kj42 =>
                          have H := HA.out
                          clear HA
                          simp only [synopticlaw38_ScoreFractions.j2] at H
                          by_cases c67 : x90_42 = true
                          · subst c67
                            have H1 : (none) = some true := by rw [if_pos rfl] at H; exact H
                            clear H
                            have H := H1
                            clear H1
                            exact absurd H (by simp)
                          · replace c67 := Bool.eq_false_iff.mpr c67
                            subst c67
                            have H1 : ((synopticfield_Mod.f a2 1152921504606846976).bind fun t159 => ((synopticfield_Mod.f a3 576460752303423488).bind fun t160 => ((score_Compare.f kj42 t146 t147 t159 (wrap64 (1 + t160))).bind fun t162 => ((synopticref38_Compare.f kj42 t146 t147 t159 (wrap64 (1 + t160))).bind fun t163 => (if t162 = t163 then ((score_Compare.f kj42 t159 (wrap64 (1 + t160)) t146 t147).bind fun t164 => ((score_Compare.f kj42 t146 t147 t159 (wrap64 (1 + t160))).bind fun t165 => (if t164 = (wrap64 (-t165)) then (synopticlaw38_ScoreFractions.l0 kj42 a2 a3 y141 (y141.length : Int) (wrap64 (x35_1 + 1))) else (none)))) else (none)))))) = some true := by rw [if_neg (show ¬ (false = true) by decide)] at H; exact H
                            clear H
                            have H := H1
                            clear H1
                            replace H := Option.bind_eq_some_iff.mp H
                            obtain ⟨t159, A680, H⟩ := H
                            replace H : ((synopticfield_Mod.f a3 576460752303423488).bind fun t160 => ((score_Compare.f kj42 t146 t147 t159 (wrap64 (1 + t160))).bind fun t162 => ((synopticref38_Compare.f kj42 t146 t147 t159 (wrap64 (1 + t160))).bind fun t163 => (if t162 = t163 then ((score_Compare.f kj42 t159 (wrap64 (1 + t160)) t146 t147).bind fun t164 => ((score_Compare.f kj42 t146 t147 t159 (wrap64 (1 + t160))).bind fun t165 => (if t164 = (wrap64 (-t165)) then (synopticlaw38_ScoreFractions.l0 kj42 a2 a3 y141 (y141.length : Int) (wrap64 (x35_1 + 1))) else (none)))) else (none))))) = some true := H
                            have A68 := Aside0.mk A680
                            clear A680
                            replace H := Option.bind_eq_some_iff.mp H
                            obtain ⟨t160, A690, H⟩ := H
                            replace H : ((score_Compare.f kj42 t146 t147 t159 (wrap64 (1 + t160))).bind fun t162 => ((synopticref38_Compare.f kj42 t146 t147 t159 (wrap64 (1 + t160))).bind fun t163 => (if t162 = t163 then ((score_Compare.f kj42 t159 (wrap64 (1 + t160)) t146 t147).bind fun t164 => ((score_Compare.f kj42 t146 t147 t159 (wrap64 (1 + t160))).bind fun t165 => (if t164 = (wrap64 (-t165)) then (synopticlaw38_ScoreFractions.l0 kj42 a2 a3 y141 (y141.length : Int) (wrap64 (x35_1 + 1))) else (none)))) else (none)))) = some true := H
                            have A69 := Aside0.mk A690
                            clear A690
                            replace H := Option.bind_eq_some_iff.mp H
                            obtain ⟨t162, A700, H⟩ := H
                            replace H : ((synopticref38_Compare.f kj42 t146 t147 t159 (wrap64 (1 + t160))).bind fun t163 => (if t162 = t163 then ((score_Compare.f kj42 t159 (wrap64 (1 + t160)) t146 t147).bind fun t164 => ((score_Compare.f kj42 t146 t147 t159 (wrap64 (1 + t160))).bind fun t165 => (if t164 = (wrap64 (-t165)) then (synopticlaw38_ScoreFractions.l0 kj42 a2 a3 y141 (y141.length : Int) (wrap64 (x35_1 + 1))) else (none)))) else (none))) = some true := H
                            have A70 := Aside0.mk A700
                            clear A700
                            replace H := Option.bind_eq_some_iff.mp H
                            obtain ⟨t163, A710, H⟩ := H
                            replace H : (if t162 = t163 then ((score_Compare.f kj42 t159 (wrap64 (1 + t160)) t146 t147).bind fun t164 => ((score_Compare.f kj42 t146 t147 t159 (wrap64 (1 + t160))).bind fun t165 => (if t164 = (wrap64 (-t165)) then (synopticlaw38_ScoreFractions.l0 kj42 a2 a3 y141 (y141.length : Int) (wrap64 (x35_1 + 1))) else (none)))) else (none)) = some true := H
                            have A71 := Aside0.mk A710
                            clear A710
                            by_cases c72 : t162 = t163
                            · rw [if_pos c72] at H
                              have c72b0 : (t162 == t163) = true := beq_iff_eq.mpr c72
                              have c72b1 : (t162 != t163) = false := bne_eq_false_iff_eq.mpr c72
                              clear c72
                              replace H := Option.bind_eq_some_iff.mp H
                              obtain ⟨t164, A730, H⟩ := H
                              replace H : ((score_Compare.f kj42 t146 t147 t159 (wrap64 (1 + t160))).bind fun t165 => (if t164 = (wrap64 (-t165)) then (synopticlaw38_ScoreFractions.l0 kj42 a2 a3 y141 (y141.length : Int) (wrap64 (x35_1 + 1))) else (none))) = some true := H
                              have A73 := Aside0.mk A730
                              clear A730
                              replace H := Option.bind_eq_some_iff.mp H
                              obtain ⟨t165, A740, H⟩ := H
                              replace H : (if t164 = (wrap64 (-t165)) then (synopticlaw38_ScoreFractions.l0 kj42 a2 a3 y141 (y141.length : Int) (wrap64 (x35_1 + 1))) else (none)) = some true := H
                              have A74 := Aside0.mk A740
                              clear A740
                              by_cases c75 : t164 = (wrap64 (-t165))
                              · rw [if_pos c75] at H
                                have c75b0 : (t164 == (wrap64 (-t165))) = true := beq_iff_eq.mpr c75
                                have c75b1 : (t164 != (wrap64 (-t165))) = false := bne_eq_false_iff_eq.mpr c75
                                clear c75
                                have H' := Aside0.mk H
                                clear H
                                try go_wp2_with (first | ((with_reducible refine gate_callee (f := 10) rfl ?_); refine goesL_ (some 92) rfl rfl Try.func10 (by kernel_rfl) rfl #[.int .i64 a2, .int .i64 1152921504606846976] rfl (by (try simp only [List.map_toArray, List.map_cons, List.map_nil]); first | done | rfl | (simp only [List.length_drop, List.length_take]; rfl)) ?_; (with_reducible refine (synopticfield_Mod.calls a2 1152921504606846976 t159 _ A68.out).mono ?_); rintro e w' ⟨rfl, ⟨nd, rfl⟩⟩; refine ⟨_, rfl, ?_⟩; (try (rw [drewN_self wc]; generalize hq_ : World.drewN wc _ = wc; have n0_ : Aside0 (Kd.R k62 62 wc w.heap.size (fun k_ => k_ ≠ gb145) (.slice (some ad144) y141.length co10) y141) := ⟨by rw [← hq_]; exact (by (with_reducible repeat (first | apply Kd.R_alloc | apply Kd.R_drewN | apply Kd.R_drew)); exact HO_33.out)⟩; have n1_ : Aside0 (wc.heap[gb145]? = some (.cells #[.int .i64 ((rd_T62 y141 x35_1).f0), .int .i64 ((rd_T62 y141 x35_1).f1)] 62 (0, 0))) := ⟨by rw [← hq_]; exact (by (with_reducible repeat (first | refine blk_drewN ?_ _ | refine blk_drew ?_ | refine blk_alloc ?_ _)); exact BK145.out)⟩; have n2_ : Aside0 (wc.heap[gb149]? = some (.cells #[.int .i64 t146, .int .i64 t147] 28 (0, 0))) := ⟨by rw [← hq_]; exact (by (with_reducible repeat (first | refine blk_drewN ?_ _ | refine blk_drew ?_ | refine blk_alloc ?_ _)); exact BK149.out)⟩; have n3_ : Aside0 (wc.heap[gb153]? = some (.cells #[.int .i64 t150, .int .i64 t151] 28 (0, 0))) := ⟨by rw [← hq_]; exact (by (with_reducible repeat (first | refine blk_drewN ?_ _ | refine blk_drew ?_ | refine blk_alloc ?_ _)); exact BK153.out)⟩; have n4_ : Aside0 (wc.heap[gb157]? = some (.cells #[.int .i64 t154, .int .i64 t155] 28 (0, 0))) := ⟨by rw [← hq_]; exact (by (with_reducible repeat (first | refine blk_drewN ?_ _ | refine blk_drew ?_ | refine blk_alloc ?_ _)); exact BK157.out)⟩; have n5_ : Aside0 (Below w.heap.size w wc) := ⟨by rw [← hq_]; exact (by repeat (first | (with_reducible first | exact HB.out | apply below_alloc | apply pw_below_drewN | apply below_drew1 | refine below_set ?_ GE145.out | refine below_set ?_ GE149.out | refine below_set ?_ GE153.out | refine below_set ?_ GE157.out) | exact HB.out))⟩; clear HO_33 BK145 BK149 BK153 BK157 HB hq_; have HO_33 := n0_; have BK145 := n1_; have BK149 := n2_; have BK153 := n3_; have BK157 := n4_; have HB := n5_; clear n0_ n1_ n2_ n3_ n4_ n5_))) | ((with_reducible refine gate_callee (f := 10) rfl ?_); refine goesL_ (some 94) rfl rfl Try.func10 (by kernel_rfl) rfl #[.int .i64 a3, .int .i64 576460752303423488] rfl (by (try simp only [List.map_toArray, List.map_cons, List.map_nil]); first | done | rfl | (simp only [List.length_drop, List.length_take]; rfl)) ?_; (with_reducible refine (synopticfield_Mod.calls a3 576460752303423488 t160 _ A69.out).mono ?_); rintro e w' ⟨rfl, ⟨nd, rfl⟩⟩; refine ⟨_, rfl, ?_⟩; (try (rw [drewN_self wc]; generalize hq_ : World.drewN wc _ = wc; have n0_ : Aside0 (Kd.R k62 62 wc w.heap.size (fun k_ => k_ ≠ gb145) (.slice (some ad144) y141.length co10) y141) := ⟨by rw [← hq_]; exact (by (with_reducible repeat (first | apply Kd.R_alloc | apply Kd.R_drewN | apply Kd.R_drew)); exact HO_33.out)⟩; have n1_ : Aside0 (wc.heap[gb145]? = some (.cells #[.int .i64 ((rd_T62 y141 x35_1).f0), .int .i64 ((rd_T62 y141 x35_1).f1)] 62 (0, 0))) := ⟨by rw [← hq_]; exact (by (with_reducible repeat (first | refine blk_drewN ?_ _ | refine blk_drew ?_ | refine blk_alloc ?_ _)); exact BK145.out)⟩; have n2_ : Aside0 (wc.heap[gb149]? = some (.cells #[.int .i64 t146, .int .i64 t147] 28 (0, 0))) := ⟨by rw [← hq_]; exact (by (with_reducible repeat (first | refine blk_drewN ?_ _ | refine blk_drew ?_ | refine blk_alloc ?_ _)); exact BK149.out)⟩; have n3_ : Aside0 (wc.heap[gb153]? = some (.cells #[.int .i64 t150, .int .i64 t151] 28 (0, 0))) := ⟨by rw [← hq_]; exact (by (with_reducible repeat (first | refine blk_drewN ?_ _ | refine blk_drew ?_ | refine blk_alloc ?_ _)); exact BK153.out)⟩; have n4_ : Aside0 (wc.heap[gb157]? = some (.cells #[.int .i64 t154, .int .i64 t155] 28 (0, 0))) := ⟨by rw [← hq_]; exact (by (with_reducible repeat (first | refine blk_drewN ?_ _ | refine blk_drew ?_ | refine blk_alloc ?_ _)); exact BK157.out)⟩; have n5_ : Aside0 (Below w.heap.size w wc) := ⟨by rw [← hq_]; exact (by repeat (first | (with_reducible first | exact HB.out | apply below_alloc | apply pw_below_drewN | apply below_drew1 | refine below_set ?_ GE145.out | refine below_set ?_ GE149.out | refine below_set ?_ GE153.out | refine below_set ?_ GE157.out) | exact HB.out))⟩; clear HO_33 BK145 BK149 BK153 BK157 HB hq_; have HO_33 := n0_; have BK145 := n1_; have BK149 := n2_; have BK153 := n3_; have BK157 := n4_; have HB := n5_; clear n0_ n1_ n2_ n3_ n4_ n5_))) | ((with_reducible refine gate_dst (N := 17) rfl ?_); refine box_event ?hg (N := 17) ?hd (cs := #[.int .i64 0, .int .i64 0]) (t := 28) ?hr ?_; (case hd => rfl); (case hg => rfl); (case hr => first | (go_simp; done) | (go_simp; rfl)); intro gb161 hg w76 hbox hb; have n0_ := Aside0.mk (Kd.R_below (by (with_reducible repeat (first | apply Kd.R_alloc | apply Kd.R_drewN | apply Kd.R_drew)); exact HO_33.out) hb); have n1_ := Aside0.mk (blk_below (g := gb145) (o := .cells #[.int .i64 ((rd_T62 y141 x35_1).f0), .int .i64 ((rd_T62 y141 x35_1).f1)] 62 (0, 0)) (by (with_reducible repeat (first | refine blk_drewN ?_ _ | refine blk_drew ?_ | refine blk_alloc ?_ _)); exact BK145.out) hb); have n2_ := Aside0.mk (blk_below (g := gb149) (o := .cells #[.int .i64 t146, .int .i64 t147] 28 (0, 0)) (by (with_reducible repeat (first | refine blk_drewN ?_ _ | refine blk_drew ?_ | refine blk_alloc ?_ _)); exact BK149.out) hb); have n3_ := Aside0.mk (blk_below (g := gb153) (o := .cells #[.int .i64 t150, .int .i64 t151] 28 (0, 0)) (by (with_reducible repeat (first | refine blk_drewN ?_ _ | refine blk_drew ?_ | refine blk_alloc ?_ _)); exact BK153.out) hb); have n4_ := Aside0.mk (blk_below (g := gb157) (o := .cells #[.int .i64 t154, .int .i64 t155] 28 (0, 0)) (by (with_reducible repeat (first | refine blk_drewN ?_ _ | refine blk_drew ?_ | refine blk_alloc ?_ _)); exact BK157.out) hb); have n5_ := Aside0.mk (below_step (by repeat (first | (with_reducible first | exact HB.out | apply below_alloc | apply pw_below_drewN | apply below_drew1 | refine below_set ?_ GE145.out | refine below_set ?_ GE149.out | refine below_set ?_ GE153.out | refine below_set ?_ GE157.out) | exact HB.out)) hb); have n6_ := Aside0.mk (hbox); have n7_ := Aside0.mk ((by rw [hg]; exact (below_size (by repeat (first | (with_reducible first | exact HB.out | apply below_alloc | apply pw_below_drewN | apply below_drew1 | refine below_set ?_ GE145.out | refine below_set ?_ GE149.out | refine below_set ?_ GE153.out | refine below_set ?_ GE157.out) | exact HB.out))) : w.heap.size ≤ gb161)); have n8_ := Aside0.mk ((by rw [hg]; exact (below_size (by repeat (first | (with_reducible first | exact HB.out | apply below_alloc | apply pw_below_drewN | apply below_drew1 | refine below_set ?_ GE145.out | refine below_set ?_ GE149.out | refine below_set ?_ GE153.out | refine below_set ?_ GE157.out) | exact HB.out))) : w.heap.size ≤ gb161)); have n9_ := Aside0.mk ((by rw [hg]; exact Nat.ne_of_lt (blk_lt (g := gb145) (o := .cells #[.int .i64 ((rd_T62 y141 x35_1).f0), .int .i64 ((rd_T62 y141 x35_1).f1)] 62 (0, 0)) (by (with_reducible repeat (first | refine blk_drewN ?_ _ | refine blk_drew ?_ | refine blk_alloc ?_ _)); exact BK145.out)) : gb145 ≠ gb161)); have n10_ := Aside0.mk ((by rw [hg]; exact Nat.ne_of_gt (blk_lt (g := gb145) (o := .cells #[.int .i64 ((rd_T62 y141 x35_1).f0), .int .i64 ((rd_T62 y141 x35_1).f1)] 62 (0, 0)) (by (with_reducible repeat (first | refine blk_drewN ?_ _ | refine blk_drew ?_ | refine blk_alloc ?_ _)); exact BK145.out)) : gb161 ≠ gb145)); have n11_ := Aside0.mk ((by rw [hg]; exact Nat.ne_of_lt (blk_lt (g := gb149) (o := .cells #[.int .i64 t146, .int .i64 t147] 28 (0, 0)) (by (with_reducible repeat (first | refine blk_drewN ?_ _ | refine blk_drew ?_ | refine blk_alloc ?_ _)); exact BK149.out)) : gb149 ≠ gb161)); have n12_ := Aside0.mk ((by rw [hg]; exact Nat.ne_of_gt (blk_lt (g := gb149) (o := .cells #[.int .i64 t146, .int .i64 t147] 28 (0, 0)) (by (with_reducible repeat (first | refine blk_drewN ?_ _ | refine blk_drew ?_ | refine blk_alloc ?_ _)); exact BK149.out)) : gb161 ≠ gb149)); have n13_ := Aside0.mk ((by rw [hg]; exact Nat.ne_of_lt (blk_lt (g := gb153) (o := .cells #[.int .i64 t150, .int .i64 t151] 28 (0, 0)) (by (with_reducible repeat (first | refine blk_drewN ?_ _ | refine blk_drew ?_ | refine blk_alloc ?_ _)); exact BK153.out)) : gb153 ≠ gb161)); have n14_ := Aside0.mk ((by rw [hg]; exact Nat.ne_of_gt (blk_lt (g := gb153) (o := .cells #[.int .i64 t150, .int .i64 t151] 28 (0, 0)) (by (with_reducible repeat (first | refine blk_drewN ?_ _ | refine blk_drew ?_ | refine blk_alloc ?_ _)); exact BK153.out)) : gb161 ≠ gb153)); have n15_ := Aside0.mk ((by rw [hg]; exact Nat.ne_of_lt (blk_lt (g := gb157) (o := .cells #[.int .i64 t154, .int .i64 t155] 28 (0, 0)) (by (with_reducible repeat (first | refine blk_drewN ?_ _ | refine blk_drew ?_ | refine blk_alloc ?_ _)); exact BK157.out)) : gb157 ≠ gb161)); have n16_ := Aside0.mk ((by rw [hg]; exact Nat.ne_of_gt (blk_lt (g := gb157) (o := .cells #[.int .i64 t154, .int .i64 t155] 28 (0, 0)) (by (with_reducible repeat (first | refine blk_drewN ?_ _ | refine blk_drew ?_ | refine blk_alloc ?_ _)); exact BK157.out)) : gb161 ≠ gb157)); clear HO_33; clear BK145; clear BK149; clear BK153; clear BK157; clear HB; have HO_33 := n0_; have BK145 := n1_; have BK149 := n2_; have BK153 := n3_; have BK157 := n4_; have HB := n5_; have BK161 := n6_; have GW161 := n7_; have GE161 := n8_; have NB145_161 := n9_; have NB161_145 := n10_; have NB149_161 := n11_; have NB161_149 := n12_; have NB153_161 := n13_; have NB161_153 := n14_; have NB157_161 := n15_; have NB161_157 := n16_; clear n0_ n1_ n2_ n3_ n4_ n5_ n6_ n7_ n8_ n9_ n10_ n11_ n12_ n13_ n14_ n15_ n16_; clear hb hbox hg; have hnb77 := NB161_145.out; have hnc77 := NB145_161.out; have hnb78 := NB161_149.out; have hnc78 := NB149_161.out; have hnb79 := NB161_153.out; have hnc79 := NB153_161.out; have hnb80 := NB161_157.out; have hnc80 := NB157_161.out; have hcz81_0 : w76.cell? ⟨gb161, 0, none⟩ = some (.int .i64 0) := (blk_cell BK161.out 0).trans rfl; have hcz81_1 : w76.cell? ⟨gb161, 1, none⟩ = some (.int .i64 0) := (blk_cell BK161.out 1).trans rfl; have hfz81_0 := blk_frozen BK161.out 0; have hfz81_1 := blk_frozen BK161.out 1) | ((with_reducible refine gate_store (t := 28) (p := 17) rfl ?_); refine store_event (t := 28) (p := 17) (v := ?vo_w82) (w1 := ((w76.setCell ⟨gb161, 0, none⟩ (.int .i64 t159)).setCell ⟨gb161, 1, none⟩ (.int .i64 (wrap64 (1 + t160))))) ?hg ?ho ?hn ?hr ?_; (case ho => rfl); (case hg => rfl); (case hn => rfl); (case hr => first | (go_simp; done) | (go_simp; rfl)); intro w82 hw; have n0_ : Aside0 (Kd.R k62 62 w82 w.heap.size (fun k_ => k_ ≠ gb145) (.slice (some ad144) y141.length co10) y141) := ⟨(by rw [hw]; exact (by (with_reducible repeat (first | apply Kd.R_alloc | apply Kd.R_drewN | apply Kd.R_drew)); exact Kd.R_mono (Kd.R_far (p := ⟨gb161, 1, none⟩) (Kd.R_far (p := ⟨gb161, 0, none⟩) (Kd.R_types HO_33.out BK161.out (by decide)) (fun _ hk => hk.2) (.int .i64 t159)) (fun _ hk => hk.2) (.int .i64 (wrap64 (1 + t160)))) (fun _ hk => hk.1)))⟩; have n1_ : Aside0 (w82.heap[gb145]? = some (.cells #[.int .i64 ((rd_T62 y141 x35_1).f0), .int .i64 ((rd_T62 y141 x35_1).f1)] 62 (0, 0))) := ⟨(by rw [hw]; exact (by (with_reducible repeat (first | refine blk_drewN ?_ _ | refine blk_drew ?_ | refine blk_alloc ?_ _)); refine blk_far ?_ NB145_161.out _; (with_reducible repeat (first | refine blk_drewN ?_ _ | refine blk_drew ?_ | refine blk_alloc ?_ _)); refine blk_far ?_ NB145_161.out _; (with_reducible repeat (first | refine blk_drewN ?_ _ | refine blk_drew ?_ | refine blk_alloc ?_ _)); exact BK145.out))⟩; have n2_ : Aside0 (w82.heap[gb149]? = some (.cells #[.int .i64 t146, .int .i64 t147] 28 (0, 0))) := ⟨(by rw [hw]; exact (by (with_reducible repeat (first | refine blk_drewN ?_ _ | refine blk_drew ?_ | refine blk_alloc ?_ _)); refine blk_far ?_ NB149_161.out _; (with_reducible repeat (first | refine blk_drewN ?_ _ | refine blk_drew ?_ | refine blk_alloc ?_ _)); refine blk_far ?_ NB149_161.out _; (with_reducible repeat (first | refine blk_drewN ?_ _ | refine blk_drew ?_ | refine blk_alloc ?_ _)); exact BK149.out))⟩; have n3_ : Aside0 (w82.heap[gb153]? = some (.cells #[.int .i64 t150, .int .i64 t151] 28 (0, 0))) := ⟨(by rw [hw]; exact (by (with_reducible repeat (first | refine blk_drewN ?_ _ | refine blk_drew ?_ | refine blk_alloc ?_ _)); refine blk_far ?_ NB153_161.out _; (with_reducible repeat (first | refine blk_drewN ?_ _ | refine blk_drew ?_ | refine blk_alloc ?_ _)); refine blk_far ?_ NB153_161.out _; (with_reducible repeat (first | refine blk_drewN ?_ _ | refine blk_drew ?_ | refine blk_alloc ?_ _)); exact BK153.out))⟩; have n4_ : Aside0 (w82.heap[gb157]? = some (.cells #[.int .i64 t154, .int .i64 t155] 28 (0, 0))) := ⟨(by rw [hw]; exact (by (with_reducible repeat (first | refine blk_drewN ?_ _ | refine blk_drew ?_ | refine blk_alloc ?_ _)); refine blk_far ?_ NB157_161.out _; (with_reducible repeat (first | refine blk_drewN ?_ _ | refine blk_drew ?_ | refine blk_alloc ?_ _)); refine blk_far ?_ NB157_161.out _; (with_reducible repeat (first | refine blk_drewN ?_ _ | refine blk_drew ?_ | refine blk_alloc ?_ _)); exact BK157.out))⟩; have n5_ : Aside0 (w82.heap[gb161]? = some (.cells #[.int .i64 t159, .int .i64 (wrap64 (1 + t160))] 28 (0, 0))) := ⟨(by rw [hw]; exact (by (with_reducible repeat (first | refine blk_drewN ?_ _ | refine blk_drew ?_ | refine blk_alloc ?_ _)); refine blk_put (cs := #[.int .i64 t159, .int .i64 0]) ?_ 1 _ rfl; (with_reducible repeat (first | refine blk_drewN ?_ _ | refine blk_drew ?_ | refine blk_alloc ?_ _)); refine blk_put (cs := #[.int .i64 0, .int .i64 0]) ?_ 0 _ rfl; (with_reducible repeat (first | refine blk_drewN ?_ _ | refine blk_drew ?_ | refine blk_alloc ?_ _)); exact BK161.out))⟩; have n6_ : Aside0 (Below w.heap.size w w82) := ⟨(by rw [hw]; exact (by repeat (first | (with_reducible first | exact HB.out | apply below_alloc | apply pw_below_drewN | apply below_drew1 | refine below_set ?_ GE145.out | refine below_set ?_ GE149.out | refine below_set ?_ GE153.out | refine below_set ?_ GE157.out | refine below_set ?_ GE161.out) | exact HB.out)))⟩; clear hw; clear HO_33; clear BK145; clear BK149; clear BK153; clear BK157; clear BK161; clear HB; have HO_33 := n0_; have BK145 := n1_; have BK149 := n2_; have BK153 := n3_; have BK157 := n4_; have BK161 := n5_; have HB := n6_; clear n0_ n1_ n2_ n3_ n4_ n5_ n6_))
                                have n0_ := Aside0.mk (Kd.R_drew HO_33.out)
                                have n1_ := Aside0.mk (blk_drew BK145.out)
                                have n2_ := Aside0.mk (blk_drew BK149.out)
                                have n3_ := Aside0.mk (blk_drew BK153.out)
                                have n4_ := Aside0.mk (blk_drew BK157.out)
                                have n5_ := Aside0.mk (blk_drew BK161.out)
                                have n6_ := Aside0.mk (below_drew1 HB.out)
                                clear HO_33
                                clear BK145
                                clear BK149
                                clear BK153
                                clear BK157
                                clear BK161
                                clear HB
                                have HO_33 := n0_
                                have BK145 := n1_
                                have BK149 := n2_
                                have BK153 := n3_
                                have BK157 := n4_
                                have BK161 := n5_
                                have HB := n6_
                                clear n0_ n1_ n2_ n3_ n4_ n5_ n6_
                                refine start_ (n := 17) (S := fun w' => w'.cell? ⟨gb149, 0, none⟩ = some (.int .i64 t146) ∧ w'.cell? ⟨gb149, 1, none⟩ = some (.int .i64 t147) ∧ w'.cell? ⟨gb161, 0, none⟩ = some (.int .i64 t159) ∧ w'.cell? ⟨gb161, 1, none⟩ = some (.int .i64 (wrap64 (1 + t160)))) (ds := []) #[false, false, false, false, false, false, false, false, false, false, false, false, false, false, false, false, false] (by kernel_rfl) rfl rfl ⟨(blk_cell BK149.out 0).trans rfl, (blk_cell BK149.out 1).trans rfl, (blk_cell BK161.out 0).trans rfl, (blk_cell BK161.out 1).trans rfl⟩ (fun hHeld => ?_); refine with_tabW synopticlaw38_ScoreFractions.tab15 synopticlaw38_ScoreFractions.bits15 (fun HT_ HW_ => ?_)
                                generalize w82.drew = w83 at HO_33 BK145 BK149 BK153 BK157 BK161 HB hHeld ⊢
                                refine take_ (i := 0) (N := some 97) (v := ?_) (a' := ?_) #[true, false, false, false, false, false, false, false, false, false, false, false, false, false, false, false, false] rfl rfl (take_ofW HT_.out HW_.out (by kernel_rfl)) (fun _ _ _ h => h) (Or.inl ⟨by rfl, ?_⟩) hHeld ?_ ?_
                                rotate_left
                                · rintro w' ⟨s0, s1, s2, s3⟩
                                  go_simp
                                  with_reducible rfl
                                rotate_left
                                · simp only [Act.put, List.setIfInBounds_toArray, List.set_cons_zero, List.set_cons_succ, i64_w, i32_w]
                                  rfl
                                refine take_ (i := 1) (N := some 98) (v := ?_) (a' := ?_) #[true, true, false, false, false, false, false, false, false, false, false, false, false, false, false, false, false] rfl rfl (take_ofW HT_.out HW_.out (by kernel_rfl)) (fun _ _ _ h => h) (Or.inl ⟨by rfl, ?_⟩) hHeld ?_ ?_
                                rotate_left
                                · rintro w' ⟨s0, s1, s2, s3⟩
                                  go_simp
                                  with_reducible rfl
                                rotate_left
                                · simp only [Act.put, List.setIfInBounds_toArray, List.set_cons_zero, List.set_cons_succ, i64_w, i32_w]
                                  rfl
                                refine take_ (i := 3) (N := some 100) (v := ?_) (a' := ?_) #[true, true, false, true, false, false, false, false, false, false, false, false, false, false, false, false, false] rfl rfl (take_ofW HT_.out HW_.out (by kernel_rfl)) (fun _ _ _ h => h) (Or.inl ⟨by rfl, ?_⟩) hHeld ?_ ?_
                                rotate_left
                                · rintro w' ⟨s0, s1, s2, s3⟩
                                  go_simp
                                  with_reducible rfl
                                rotate_left
                                · simp only [Act.put, List.setIfInBounds_toArray, List.set_cons_zero, List.set_cons_succ, i64_w, i32_w]
                                  rfl
                                refine take_ (i := 4) (N := some 101) (v := ?_) (a' := ?_) #[true, true, false, true, true, false, false, false, false, false, false, false, false, false, false, false, false] rfl rfl (take_ofW HT_.out HW_.out (by kernel_rfl)) (fun _ _ _ h => h) (Or.inl ⟨by rfl, ?_⟩) hHeld ?_ ?_
                                rotate_left
                                · rintro w' ⟨s0, s1, s2, s3⟩
                                  go_simp
                                  with_reducible rfl
                                rotate_left
                                · simp only [Act.put, List.setIfInBounds_toArray, List.set_cons_zero, List.set_cons_succ, i64_w, i32_w]
                                  rfl
                                refine one_ (i := 2) (N := some 99) #[true, true, true, true, true, false, false, false, false, false, false, false, false, false, false, false, false] rfl rfl (one_of HT_.out (by kernel_rfl)) (by decide) (fun K hK => ?_)
                                refine goes_ Try.func38 (by kernel_rfl) rfl #[.agg #[.int .i64 t146, .int .i64 t147], .agg #[.int .i64 t159, .int .i64 (wrap64 (1 + t160))]] (by rfl) rfl rfl (by (try simp only [List.map_toArray, List.map_cons, List.map_nil]); first | done | rfl | (simp only [List.length_drop, List.length_take]; rfl)) ?_
                                with_reducible refine (score_Compare.calls kj42 t146 t147 t159 (wrap64 (1 + t160)) t162 _ A70.out).mono ?_
                                rintro e w84 ⟨rfl, hb⟩
                                refine ⟨_, rfl, ?_⟩
                                have n0_ := Aside0.mk (Kd.R_below (by (with_reducible repeat (first | apply Kd.R_alloc | apply Kd.R_drewN | apply Kd.R_drew)); exact HO_33.out) hb)
                                have n1_ := Aside0.mk (blk_below (g := gb145) (o := .cells #[.int .i64 ((rd_T62 y141 x35_1).f0), .int .i64 ((rd_T62 y141 x35_1).f1)] 62 (0, 0)) (by (with_reducible repeat (first | refine blk_drewN ?_ _ | refine blk_drew ?_ | refine blk_alloc ?_ _)); exact BK145.out) hb)
                                have n2_ := Aside0.mk (blk_below (g := gb149) (o := .cells #[.int .i64 t146, .int .i64 t147] 28 (0, 0)) (by (with_reducible repeat (first | refine blk_drewN ?_ _ | refine blk_drew ?_ | refine blk_alloc ?_ _)); exact BK149.out) hb)
                                have n3_ := Aside0.mk (blk_below (g := gb153) (o := .cells #[.int .i64 t150, .int .i64 t151] 28 (0, 0)) (by (with_reducible repeat (first | refine blk_drewN ?_ _ | refine blk_drew ?_ | refine blk_alloc ?_ _)); exact BK153.out) hb)
                                have n4_ := Aside0.mk (blk_below (g := gb157) (o := .cells #[.int .i64 t154, .int .i64 t155] 28 (0, 0)) (by (with_reducible repeat (first | refine blk_drewN ?_ _ | refine blk_drew ?_ | refine blk_alloc ?_ _)); exact BK157.out) hb)
                                have n5_ := Aside0.mk (blk_below (g := gb161) (o := .cells #[.int .i64 t159, .int .i64 (wrap64 (1 + t160))] 28 (0, 0)) (by (with_reducible repeat (first | refine blk_drewN ?_ _ | refine blk_drew ?_ | refine blk_alloc ?_ _)); exact BK161.out) hb)
                                have n6_ := Aside0.mk (below_step (by repeat (first | (with_reducible first | exact HB.out | apply below_alloc | apply pw_below_drewN | apply below_drew1 | refine below_set ?_ GE145.out | refine below_set ?_ GE149.out | refine below_set ?_ GE153.out | refine below_set ?_ GE157.out | refine below_set ?_ GE161.out) | exact HB.out)) hb)
                                clear HO_33
                                clear BK145
                                clear BK149
                                clear BK153
                                clear BK157
                                clear BK161
                                clear HB
                                have HO_33 := n0_
                                have BK145 := n1_
                                have BK149 := n2_
                                have BK153 := n3_
                                have BK157 := n4_
                                have BK161 := n5_
                                have HB := n6_
                                clear n0_ n1_ n2_ n3_ n4_ n5_ n6_
                                (try clear hb)
                                (try clear hb2)
                                (try clear hk)
                                (try clear hi)
                                refine hK.out _ _ ⟨(blk_cell BK149.out 0).trans rfl, (blk_cell BK149.out 1).trans rfl, (blk_cell BK161.out 0).trans rfl, (blk_cell BK161.out 1).trans rfl⟩ (fun hHeld => ?_)
                                clear hK K
                                refine norm_ (a' := ?_) ?_ ?_
                                rotate_left
                                · show Act.put _ (some 99) _ = _
                                  simp only [Act.put, List.setIfInBounds_toArray, List.set_cons_zero, List.set_cons_succ, i64_w, i32_w]
                                  rfl
                                refine one_ (i := 5) (N := some 102) #[true, true, true, true, true, true, false, false, false, false, false, false, false, false, false, false, false] rfl rfl (one_of HT_.out (by kernel_rfl)) (by decide) (fun K hK => ?_)
                                refine goes_ Try.func39 (by kernel_rfl) rfl #[.agg #[.int .i64 t146, .int .i64 t147], .agg #[.int .i64 t159, .int .i64 (wrap64 (1 + t160))]] (by rfl) rfl rfl (by (try simp only [List.map_toArray, List.map_cons, List.map_nil]); first | done | rfl | (simp only [List.length_drop, List.length_take]; rfl)) ?_
                                with_reducible refine (synopticref38_Compare.calls kj42 t146 t147 t159 (wrap64 (1 + t160)) t163 _ A71.out).mono ?_
                                rintro e w85 ⟨rfl, hb⟩
                                refine ⟨_, rfl, ?_⟩
                                have n0_ := Aside0.mk (Kd.R_below (by (with_reducible repeat (first | apply Kd.R_alloc | apply Kd.R_drewN | apply Kd.R_drew)); exact HO_33.out) hb)
                                have n1_ := Aside0.mk (blk_below (g := gb145) (o := .cells #[.int .i64 ((rd_T62 y141 x35_1).f0), .int .i64 ((rd_T62 y141 x35_1).f1)] 62 (0, 0)) (by (with_reducible repeat (first | refine blk_drewN ?_ _ | refine blk_drew ?_ | refine blk_alloc ?_ _)); exact BK145.out) hb)
                                have n2_ := Aside0.mk (blk_below (g := gb149) (o := .cells #[.int .i64 t146, .int .i64 t147] 28 (0, 0)) (by (with_reducible repeat (first | refine blk_drewN ?_ _ | refine blk_drew ?_ | refine blk_alloc ?_ _)); exact BK149.out) hb)
                                have n3_ := Aside0.mk (blk_below (g := gb153) (o := .cells #[.int .i64 t150, .int .i64 t151] 28 (0, 0)) (by (with_reducible repeat (first | refine blk_drewN ?_ _ | refine blk_drew ?_ | refine blk_alloc ?_ _)); exact BK153.out) hb)
                                have n4_ := Aside0.mk (blk_below (g := gb157) (o := .cells #[.int .i64 t154, .int .i64 t155] 28 (0, 0)) (by (with_reducible repeat (first | refine blk_drewN ?_ _ | refine blk_drew ?_ | refine blk_alloc ?_ _)); exact BK157.out) hb)
                                have n5_ := Aside0.mk (blk_below (g := gb161) (o := .cells #[.int .i64 t159, .int .i64 (wrap64 (1 + t160))] 28 (0, 0)) (by (with_reducible repeat (first | refine blk_drewN ?_ _ | refine blk_drew ?_ | refine blk_alloc ?_ _)); exact BK161.out) hb)
                                have n6_ := Aside0.mk (below_step (by repeat (first | (with_reducible first | exact HB.out | apply below_alloc | apply pw_below_drewN | apply below_drew1 | refine below_set ?_ GE145.out | refine below_set ?_ GE149.out | refine below_set ?_ GE153.out | refine below_set ?_ GE157.out | refine below_set ?_ GE161.out) | exact HB.out)) hb)
                                clear HO_33
                                clear BK145
                                clear BK149
                                clear BK153
                                clear BK157
                                clear BK161
                                clear HB
                                have HO_33 := n0_
                                have BK145 := n1_
                                have BK149 := n2_
                                have BK153 := n3_
                                have BK157 := n4_
                                have BK161 := n5_
                                have HB := n6_
                                clear n0_ n1_ n2_ n3_ n4_ n5_ n6_
                                (try clear hb)
                                (try clear hb2)
                                (try clear hk)
                                (try clear hi)
                                refine hK.out _ _ ⟨(blk_cell BK149.out 0).trans rfl, (blk_cell BK149.out 1).trans rfl, (blk_cell BK161.out 0).trans rfl, (blk_cell BK161.out 1).trans rfl⟩ (fun hHeld => ?_)
                                clear hK K
                                refine norm_ (a' := ?_) ?_ ?_
                                rotate_left
                                · show Act.put _ (some 102) _ = _
                                  simp only [Act.put, List.setIfInBounds_toArray, List.set_cons_zero, List.set_cons_succ, i64_w, i32_w]
                                  rfl
                                refine pure_ (i := 6) (N := some 103) (v := ?_) (a' := ?_) #[true, true, true, true, true, true, true, false, false, false, false, false, false, false, false, false, false] rfl rfl (any_of HT_.out (by kernel_rfl)) (fun _ _ _ h => h) (Or.inl ⟨by rfl, ?_⟩) ?_ ?_
                                rotate_left
                                · intro w'
                                  go_simp
                                  with_reducible rfl
                                rotate_left
                                · simp only [Act.put, List.setIfInBounds_toArray, List.set_cons_zero, List.set_cons_succ, i64_w, i32_w]
                                  rfl
                                refine pure_ (i := 7) (N := some 104) (v := ?_) (a' := ?_) #[true, true, true, true, true, true, true, true, false, false, false, false, false, false, false, false, false] rfl rfl (any_of HT_.out (by kernel_rfl)) (fun _ _ _ h => h) (Or.inl ⟨by rfl, ?_⟩) ?_ ?_
                                rotate_left
                                · intro w'
                                  go_simp
                                  with_reducible rfl
                                rotate_left
                                · simp only [Act.put, List.setIfInBounds_toArray, List.set_cons_zero, List.set_cons_succ, i64_w, i32_w]
                                  rfl
                                refine take_ (i := 8) (N := some 105) (v := ?_) (a' := ?_) #[true, true, true, true, true, true, true, true, true, false, false, false, false, false, false, false, false] rfl rfl (take_ofW HT_.out HW_.out (by kernel_rfl)) (fun _ _ _ h => h) (Or.inl ⟨by rfl, ?_⟩) hHeld ?_ ?_
                                rotate_left
                                · rintro w' ⟨s0, s1, s2, s3⟩
                                  go_simp
                                  with_reducible rfl
                                rotate_left
                                · simp only [Act.put, List.setIfInBounds_toArray, List.set_cons_zero, List.set_cons_succ, i64_w, i32_w]
                                  rfl
                                refine take_ (i := 9) (N := some 106) (v := ?_) (a' := ?_) #[true, true, true, true, true, true, true, true, true, true, false, false, false, false, false, false, false] rfl rfl (take_ofW HT_.out HW_.out (by kernel_rfl)) (fun _ _ _ h => h) (Or.inl ⟨by rfl, ?_⟩) hHeld ?_ ?_
                                rotate_left
                                · rintro w' ⟨s0, s1, s2, s3⟩
                                  go_simp
                                  with_reducible rfl
                                rotate_left
                                · simp only [Act.put, List.setIfInBounds_toArray, List.set_cons_zero, List.set_cons_succ, i64_w, i32_w]
                                  rfl
                                refine take_ (i := 11) (N := some 108) (v := ?_) (a' := ?_) #[true, true, true, true, true, true, true, true, true, true, false, true, false, false, false, false, false] rfl rfl (take_ofW HT_.out HW_.out (by kernel_rfl)) (fun _ _ _ h => h) (Or.inl ⟨by rfl, ?_⟩) hHeld ?_ ?_
                                rotate_left
                                · rintro w' ⟨s0, s1, s2, s3⟩
                                  go_simp
                                  with_reducible rfl
                                rotate_left
                                · simp only [Act.put, List.setIfInBounds_toArray, List.set_cons_zero, List.set_cons_succ, i64_w, i32_w]
                                  rfl
                                refine take_ (i := 12) (N := some 109) (v := ?_) (a' := ?_) #[true, true, true, true, true, true, true, true, true, true, false, true, true, false, false, false, false] rfl rfl (take_ofW HT_.out HW_.out (by kernel_rfl)) (fun _ _ _ h => h) (Or.inl ⟨by rfl, ?_⟩) hHeld ?_ ?_
                                rotate_left
                                · rintro w' ⟨s0, s1, s2, s3⟩
                                  go_simp
                                  with_reducible rfl
                                rotate_left
                                · simp only [Act.put, List.setIfInBounds_toArray, List.set_cons_zero, List.set_cons_succ, i64_w, i32_w]
                                  rfl
                                refine one_ (i := 10) (N := some 107) #[true, true, true, true, true, true, true, true, true, true, true, true, true, false, false, false, false] rfl rfl (one_of HT_.out (by kernel_rfl)) (by decide) (fun K hK => ?_)
                                refine goes_ Try.func38 (by kernel_rfl) rfl #[.agg #[.int .i64 t159, .int .i64 (wrap64 (1 + t160))], .agg #[.int .i64 t146, .int .i64 t147]] (by rfl) rfl rfl (by (try simp only [List.map_toArray, List.map_cons, List.map_nil]); first | done | rfl | (simp only [List.length_drop, List.length_take]; rfl)) ?_
                                with_reducible refine (score_Compare.calls kj42 t159 (wrap64 (1 + t160)) t146 t147 t164 _ A73.out).mono ?_
                                rintro e w86 ⟨rfl, hb⟩
                                refine ⟨_, rfl, ?_⟩
                                have n0_ := Aside0.mk (Kd.R_below (by (with_reducible repeat (first | apply Kd.R_alloc | apply Kd.R_drewN | apply Kd.R_drew)); exact HO_33.out) hb)
                                have n1_ := Aside0.mk (blk_below (g := gb145) (o := .cells #[.int .i64 ((rd_T62 y141 x35_1).f0), .int .i64 ((rd_T62 y141 x35_1).f1)] 62 (0, 0)) (by (with_reducible repeat (first | refine blk_drewN ?_ _ | refine blk_drew ?_ | refine blk_alloc ?_ _)); exact BK145.out) hb)
                                have n2_ := Aside0.mk (blk_below (g := gb149) (o := .cells #[.int .i64 t146, .int .i64 t147] 28 (0, 0)) (by (with_reducible repeat (first | refine blk_drewN ?_ _ | refine blk_drew ?_ | refine blk_alloc ?_ _)); exact BK149.out) hb)
                                have n3_ := Aside0.mk (blk_below (g := gb153) (o := .cells #[.int .i64 t150, .int .i64 t151] 28 (0, 0)) (by (with_reducible repeat (first | refine blk_drewN ?_ _ | refine blk_drew ?_ | refine blk_alloc ?_ _)); exact BK153.out) hb)
                                have n4_ := Aside0.mk (blk_below (g := gb157) (o := .cells #[.int .i64 t154, .int .i64 t155] 28 (0, 0)) (by (with_reducible repeat (first | refine blk_drewN ?_ _ | refine blk_drew ?_ | refine blk_alloc ?_ _)); exact BK157.out) hb)
                                have n5_ := Aside0.mk (blk_below (g := gb161) (o := .cells #[.int .i64 t159, .int .i64 (wrap64 (1 + t160))] 28 (0, 0)) (by (with_reducible repeat (first | refine blk_drewN ?_ _ | refine blk_drew ?_ | refine blk_alloc ?_ _)); exact BK161.out) hb)
                                have n6_ := Aside0.mk (below_step (by repeat (first | (with_reducible first | exact HB.out | apply below_alloc | apply pw_below_drewN | apply below_drew1 | refine below_set ?_ GE145.out | refine below_set ?_ GE149.out | refine below_set ?_ GE153.out | refine below_set ?_ GE157.out | refine below_set ?_ GE161.out) | exact HB.out)) hb)
                                clear HO_33
                                clear BK145
                                clear BK149
                                clear BK153
                                clear BK157
                                clear BK161
                                clear HB
                                have HO_33 := n0_
                                have BK145 := n1_
                                have BK149 := n2_
                                have BK153 := n3_
                                have BK157 := n4_
                                have BK161 := n5_
                                have HB := n6_
                                clear n0_ n1_ n2_ n3_ n4_ n5_ n6_
                                (try clear hb)
                                (try clear hb2)
                                (try clear hk)
                                (try clear hi)
                                refine hK.out _ _ ⟨(blk_cell BK149.out 0).trans rfl, (blk_cell BK149.out 1).trans rfl, (blk_cell BK161.out 0).trans rfl, (blk_cell BK161.out 1).trans rfl⟩ (fun hHeld => ?_)
                                clear hK K
                                refine norm_ (a' := ?_) ?_ ?_
                                rotate_left
                                · show Act.put _ (some 107) _ = _
                                  simp only [Act.put, List.setIfInBounds_toArray, List.set_cons_zero, List.set_cons_succ, i64_w, i32_w]
                                  rfl
                                refine one_ (i := 13) (N := some 110) #[true, true, true, true, true, true, true, true, true, true, true, true, true, true, false, false, false] rfl rfl (one_of HT_.out (by kernel_rfl)) (by decide) (fun K hK => ?_)
                                refine goes_ Try.func38 (by kernel_rfl) rfl #[.agg #[.int .i64 t146, .int .i64 t147], .agg #[.int .i64 t159, .int .i64 (wrap64 (1 + t160))]] (by rfl) rfl rfl (by (try simp only [List.map_toArray, List.map_cons, List.map_nil]); first | done | rfl | (simp only [List.length_drop, List.length_take]; rfl)) ?_
                                with_reducible refine (score_Compare.calls kj42 t146 t147 t159 (wrap64 (1 + t160)) t165 _ A74.out).mono ?_
                                rintro e w87 ⟨rfl, hb⟩
                                refine ⟨_, rfl, ?_⟩
                                have n0_ := Aside0.mk (Kd.R_below (by (with_reducible repeat (first | apply Kd.R_alloc | apply Kd.R_drewN | apply Kd.R_drew)); exact HO_33.out) hb)
                                have n1_ := Aside0.mk (blk_below (g := gb145) (o := .cells #[.int .i64 ((rd_T62 y141 x35_1).f0), .int .i64 ((rd_T62 y141 x35_1).f1)] 62 (0, 0)) (by (with_reducible repeat (first | refine blk_drewN ?_ _ | refine blk_drew ?_ | refine blk_alloc ?_ _)); exact BK145.out) hb)
                                have n2_ := Aside0.mk (blk_below (g := gb149) (o := .cells #[.int .i64 t146, .int .i64 t147] 28 (0, 0)) (by (with_reducible repeat (first | refine blk_drewN ?_ _ | refine blk_drew ?_ | refine blk_alloc ?_ _)); exact BK149.out) hb)
                                have n3_ := Aside0.mk (blk_below (g := gb153) (o := .cells #[.int .i64 t150, .int .i64 t151] 28 (0, 0)) (by (with_reducible repeat (first | refine blk_drewN ?_ _ | refine blk_drew ?_ | refine blk_alloc ?_ _)); exact BK153.out) hb)
                                have n4_ := Aside0.mk (blk_below (g := gb157) (o := .cells #[.int .i64 t154, .int .i64 t155] 28 (0, 0)) (by (with_reducible repeat (first | refine blk_drewN ?_ _ | refine blk_drew ?_ | refine blk_alloc ?_ _)); exact BK157.out) hb)
                                have n5_ := Aside0.mk (blk_below (g := gb161) (o := .cells #[.int .i64 t159, .int .i64 (wrap64 (1 + t160))] 28 (0, 0)) (by (with_reducible repeat (first | refine blk_drewN ?_ _ | refine blk_drew ?_ | refine blk_alloc ?_ _)); exact BK161.out) hb)
                                have n6_ := Aside0.mk (below_step (by repeat (first | (with_reducible first | exact HB.out | apply below_alloc | apply pw_below_drewN | apply below_drew1 | refine below_set ?_ GE145.out | refine below_set ?_ GE149.out | refine below_set ?_ GE153.out | refine below_set ?_ GE157.out | refine below_set ?_ GE161.out) | exact HB.out)) hb)
                                clear HO_33
                                clear BK145
                                clear BK149
                                clear BK153
                                clear BK157
                                clear BK161
                                clear HB
                                have HO_33 := n0_
                                have BK145 := n1_
                                have BK149 := n2_
                                have BK153 := n3_
                                have BK157 := n4_
                                have BK161 := n5_
                                have HB := n6_
                                clear n0_ n1_ n2_ n3_ n4_ n5_ n6_
                                (try clear hb)
                                (try clear hb2)
                                (try clear hk)
                                (try clear hi)
                                refine hK.out _ _ ⟨(blk_cell BK149.out 0).trans rfl, (blk_cell BK149.out 1).trans rfl, (blk_cell BK161.out 0).trans rfl, (blk_cell BK161.out 1).trans rfl⟩ (fun hHeld => ?_)
                                clear hK K
                                refine norm_ (a' := ?_) ?_ ?_
                                rotate_left
                                · show Act.put _ (some 110) _ = _
                                  simp only [Act.put, List.setIfInBounds_toArray, List.set_cons_zero, List.set_cons_succ, i64_w, i32_w]
                                  rfl
                                refine pure_ (i := 14) (N := some 111) (v := ?_) (a' := ?_) #[true, true, true, true, true, true, true, true, true, true, true, true, true, true, true, false, false] rfl rfl (any_of HT_.out (by kernel_rfl)) (fun _ _ _ h => h) (Or.inl ⟨by rfl, ?_⟩) ?_ ?_
                                rotate_left
                                · intro w'
                                  go_simp
                                  with_reducible rfl
                                rotate_left
                                · simp only [Act.put, List.setIfInBounds_toArray, List.set_cons_zero, List.set_cons_succ, i64_w, i32_w]
                                  rfl
                                refine pure_ (i := 15) (N := some 112) (v := ?_) (a' := ?_) #[true, true, true, true, true, true, true, true, true, true, true, true, true, true, true, true, false] rfl rfl (any_of HT_.out (by kernel_rfl)) (fun _ _ _ h => h) (Or.inl ⟨by rfl, ?_⟩) ?_ ?_
                                rotate_left
                                · intro w'
                                  go_simp
                                  with_reducible rfl
                                rotate_left
                                · simp only [Act.put, List.setIfInBounds_toArray, List.set_cons_zero, List.set_cons_succ, i64_w, i32_w]
                                  rfl
                                refine pure_ (i := 16) (N := some 113) (v := ?_) (a' := ?_) #[true, true, true, true, true, true, true, true, true, true, true, true, true, true, true, true, true] rfl rfl (any_of HT_.out (by kernel_rfl)) (fun _ _ _ h => h) (Or.inl ⟨by rfl, ?_⟩) ?_ ?_
                                rotate_left
                                · intro w'
                                  go_simp
                                  with_reducible rfl
                                rotate_left
                                · simp only [Act.put, List.setIfInBounds_toArray, List.set_cons_zero, List.set_cons_succ, i64_w, i32_w]
                                  rfl
                                refine done_ (done_of HT_.out (by kernel_rfl)) ?_
                                try go_wp2
                                go_roundg kj42
                                case measure => have := HK1.out; have := HJ15.out; have := HJ42.out; omega
                                case rel => exact ⟨(wrap64 (x35_1 + 1)), (by first | rfl | (simp; done) | (simp [*]; done)), H', ⟨by have := HK1.out; have := HJ15.out; have := HJ42.out; omega⟩, ⟨by (with_reducible repeat (first | apply Kd.R_alloc | apply Kd.R_drewN | apply Kd.R_drew)); exact Kd.R_mono HO_33.out (fun _ hk => trivial)⟩, ⟨by repeat (first | (with_reducible first | exact HB.out | apply below_alloc | apply pw_below_drewN | apply below_drew1 | refine below_set ?_ GE145.out | refine below_set ?_ GE149.out | refine below_set ?_ GE153.out | refine below_set ?_ GE157.out | refine below_set ?_ GE161.out) | exact HB.out)⟩⟩
                              · rw [if_neg c75] at H
                                exact absurd H (by simp)
                            · rw [if_neg c72] at H
                              have c72b0 : (t162 == t163) = false := beq_eq_false_iff_ne.mpr c72
                              have c72b1 : (t162 != t163) = true := bne_iff_ne.mpr c72
                              exact absurd H (by simp)
                    · rw [if_neg c41] at H
                      have c41b0 : (t148 == 0) = false := beq_eq_false_iff_ne.mpr c41
                      have c41b1 : (t148 != 0) = true := bne_iff_ne.mpr c41
                      have H' := Aside0.mk H
                      clear H
                      go_wp2
                      go_roundg kj15
                      case measure => have := HK1.out; have := HJ15.out; omega
                      case rel => exact ⟨(wrap64 (x35_1 + 1)), (by first | rfl | (simp; done) | (simp [*]; done)), H', ⟨by have := HK1.out; have := HJ15.out; omega⟩, ⟨by (with_reducible repeat (first | apply Kd.R_alloc | apply Kd.R_drewN | apply Kd.R_drew)); exact Kd.R_mono HO_33.out (fun _ hk => trivial)⟩, ⟨by repeat (first | (with_reducible first | exact HB.out | apply below_alloc | apply pw_below_drewN | apply below_drew1 | refine below_set ?_ GE145.out | refine below_set ?_ GE149.out | refine below_set ?_ GE153.out) | exact HB.out)⟩⟩
            · rw [if_neg c13] at H
              exact absurd H (by simp)
          · rw [if_neg c12] at H
            exact absurd H (by simp)
        · rw [if_neg c11] at H
          have c11b0 : decide (x35_1 < (y141.length : Int)) = false := decide_eq_false c11
          clear c11
          have e_ := Option.some.inj H
          first | (simp only [Bool.and_eq_true, beq_iff_eq] at e_; obtain ⟨rfl, rfl⟩ := e_) | clear e_
          clear H
          go_wp2
          go_ret
          exact ⟨by first | rfl | (simp [errW_none, errW_some] <;> rfl) | (simp [*, errW_none, errW_some] <;> rfl), by repeat (first | (with_reducible first | exact HB.out | apply below_alloc | apply pw_below_drewN | apply below_drew1) | exact HB.out)⟩
  · replace c6 := Bool.eq_false_iff.mpr c6
    subst c6
    have H1 : (none) = some true := by rw [if_neg (show ¬ (false = true) by decide)] at H; exact H
    clear H
    have H := H1
    clear H1
    exact absurd H (by simp)

/-- THE ONE PURE STATEMENT of synopticlaw38_ScoreFractions: yours. -/
def synopticlaw38_ScoreFractions.Pure : Prop := ∀ (a0 : Int) (a1 : Int) (a2 : Int) (a3 : Int), (Lit.int .i64 a0).wf = true → (Lit.int .i64 a1).wf = true → (Lit.int .i64 a2).wf = true → (Lit.int .i64 a3).wf = true → ∃ k, synopticlaw38_ScoreFractions.f k a0 a1 a2 a3 = some true
theorem synopticlaw38_ScoreFractions.walk (P : synopticlaw38_ScoreFractions.Pure) (a0 : Int) (a1 : Int) (a2 : Int) (a3 : Int) (w : World) (w0 : (Lit.int .i64 a0).wf = true) (w1 : (Lit.int .i64 a1).wf = true) (w2 : (Lit.int .i64 a2).wf = true) (w3 : (Lit.int .i64 a3).wf = true) :
    Calls Try.prog 7 #[.int .i64 a0, .int .i64 a1, .int .i64 a2, .int .i64 a3] w fun e w' => e = .returned (.bool true) ∧ Below w.heap.size w w' := by
  obtain ⟨k, h⟩ := P a0 a1 a2 a3 w0 w1 w2 w3
  refine (synopticlaw38_ScoreFractions.calls k a0 a1 a2 a3 w h).mono ?_
  rintro e w' ⟨rfl, hd⟩
  exact ⟨rfl, hd⟩

end Go.Proofs.Ytbnjbdjjedndbaa.B
