/- Made by our program mkbase.py out of the printed functions of this seat: LAlone. -/
import Derived.Test.YtbnkcajdgmbidaaDoorB1
import Derived.Test.YtbnkcajdgmbidaaDoorBV
import Derived.Test.YtbnkcajdgmbidaaDoorBA
namespace Go.Proofs.YtbnkcajdgmbidaaDoor.B
open Go.RowKit Go.Proofs.YtbnkcajdgmbidaaDoorW.PrintWords Go.Proofs.YtbnkcajdgmbidaaDoorW.PrintLast Go.Proofs.YtbnkcajdgmbidaaDoorW.PrintMore
attribute [local go_sem] max2_int min2_int max_two min_two max_three min_three max_four min_four   -- for this text's walks alone
set_option linter.unusedVariables false
set_option linter.unusedSimpArgs false

/-! ### synopticlaw14_LimitsAlone: function 5 -/
mutual
def synopticlaw14_LimitsAlone.l0 : Nat → List Int → List (S30) → Int → Int → Option (Bool)
  | 0, _, _, _, _ => none
  | k + 1, x5, x16, x17, x18 => if x18 < x17 then (if 0 ≤ x18 then (if x18 < (x16.length : Int) then ((limits_Check.f (([(⟨(rd_T30 x16 x18).f0, (rd_T30 x16 x18).f1⟩ : S30)] : List (S30)))).bind fun t191 => (if ((rd_T30 x16 x18).f0) ≥ 2 then (synopticlaw14_LimitsAlone.j1 k x5 t191 (decide (((rd_T30 x16 x18).f0) ≤ 5)) x16 x17 x18 ((rd_T30 x16 x18).f0) ((rd_T30 x16 x18).f1)) else (synopticlaw14_LimitsAlone.j1 k x5 t191 false x16 x17 x18 ((rd_T30 x16 x18).f0) ((rd_T30 x16 x18).f1)))) else (none)) else (none)) else ((synopticlaw14_awake.f k).bind fun t185 => (some t185))
def synopticlaw14_LimitsAlone.j1 : Nat → List Int → List Int → Bool → List (S30) → Int → Int → Int → Int → Option (Bool)
  | 0, _, _, _, _, _, _, _, _ => none
  | k + 1, x5, x8, x9, x16, x17, x18, x188000, x188001 => if x9 = true then (if (x8.length : Int) > 0 then ((synoptickeep_In.f k x5 x188000).bind fun t194 => (if t194 = true then ((limits_Gross.f x188000 x188001).bind fun t195 => (if ((decide ((x8.length : Int) > 0)) == t195) = true then (none) else (synopticlaw14_LimitsAlone.l0 k x5 x16 x17 (wrap64 (x18 + 1))))) else (none))) else ((limits_Gross.f x188000 x188001).bind fun t196 => (if ((decide ((x8.length : Int) > 0)) == t196) = true then (none) else (synopticlaw14_LimitsAlone.l0 k x5 x16 x17 (wrap64 (x18 + 1)))))) else ((synoptickeep_In.f k x5 x188000).bind fun t197 => (if (t197 != (decide ((x8.length : Int) > 0))) = true then (none) else ((limits_Gross.f x188000 x188001).bind fun t198 => (if ((decide ((x8.length : Int) > 0)) == t198) = true then (none) else (synopticlaw14_LimitsAlone.l0 k x5 x16 x17 (wrap64 (x18 + 1)))))))
end
def synopticlaw14_LimitsAlone.f (k : Nat) (l0 : List Int) : Option (Bool) := (synoptickeep_New.f l0).bind fun bt175 => ((synopticref04_List.f k bt175.1 bt175.2).bind fun bt178 => ((limits_Check.f bt178.1).bind fun t182 => (synopticlaw14_LimitsAlone.l0 k t182 bt178.1 (bt178.1.length : Int) 0)))
theorem synopticlaw14_LimitsAlone.mono_l : ∀ k, (∀ y0 y1 y2 y3, LeO (synopticlaw14_LimitsAlone.l0 k y0 y1 y2 y3) (synopticlaw14_LimitsAlone.l0 (k + 1) y0 y1 y2 y3)) ∧ (∀ y0 y1 y2 y3 y4 y5 y6 y7, LeO (synopticlaw14_LimitsAlone.j1 k y0 y1 y2 y3 y4 y5 y6 y7) (synopticlaw14_LimitsAlone.j1 (k + 1) y0 y1 y2 y3 y4 y5 y6 y7))
  | 0 => ⟨fun _ _ _ _ r h => by simp [synopticlaw14_LimitsAlone.l0] at h, fun _ _ _ _ _ _ _ _ r h => by simp [synopticlaw14_LimitsAlone.j1] at h⟩
  | k + 1 => by
    obtain ⟨ih0, ih1⟩ := synopticlaw14_LimitsAlone.mono_l k
    refine ⟨?_, ?_⟩
    · intro y0 y1 y2 y3
      unfold synopticlaw14_LimitsAlone.l0
      repeat' first
      | (with_reducible exact ih0 _ _ _ _)
      | (with_reducible exact ih1 _ _ _ _ _ _ _ _)
      | (with_reducible exact synoptickeep_In.mono _ _ _)
      | (with_reducible exact synopticlaw14_awake.mono _)
      | (with_reducible exact synopticref04_List.mono _ _ _)
      | (with_reducible exact LeO.refl _)
      | (with_reducible exact LeO.none _)
      | (with_reducible refine LeO.ite ?_ ?_)
      | (with_reducible refine LeO.bind ?_ (fun _ => ?_))
      | exact ih0 _ _ _ _
      | exact ih1 _ _ _ _ _ _ _ _
      | exact synoptickeep_In.mono _ _ _
      | exact synopticlaw14_awake.mono _
      | exact synopticref04_List.mono _ _ _
      | exact LeO.none _
      | refine LeO.ite ?_ ?_
      | refine LeO.bind ?_ (fun _ => ?_)
    · intro y0 y1 y2 y3 y4 y5 y6 y7
      unfold synopticlaw14_LimitsAlone.j1
      repeat' first
      | (with_reducible exact ih0 _ _ _ _)
      | (with_reducible exact ih1 _ _ _ _ _ _ _ _)
      | (with_reducible exact synoptickeep_In.mono _ _ _)
      | (with_reducible exact synopticlaw14_awake.mono _)
      | (with_reducible exact synopticref04_List.mono _ _ _)
      | (with_reducible exact LeO.refl _)
      | (with_reducible exact LeO.none _)
      | (with_reducible refine LeO.ite ?_ ?_)
      | (with_reducible refine LeO.bind ?_ (fun _ => ?_))
      | exact ih0 _ _ _ _
      | exact ih1 _ _ _ _ _ _ _ _
      | exact synoptickeep_In.mono _ _ _
      | exact synopticlaw14_awake.mono _
      | exact synopticref04_List.mono _ _ _
      | exact LeO.none _
      | refine LeO.ite ?_ ?_
      | refine LeO.bind ?_ (fun _ => ?_)
theorem synopticlaw14_LimitsAlone.mono : ∀ a0 k, LeO (synopticlaw14_LimitsAlone.f k a0) (synopticlaw14_LimitsAlone.f (k + 1) a0) := by
  intro a0 k
  obtain ⟨ih0, ih1⟩ := synopticlaw14_LimitsAlone.mono_l k
  unfold synopticlaw14_LimitsAlone.f
  repeat' first
      | (with_reducible exact ih0 _ _ _ _)
      | (with_reducible exact ih1 _ _ _ _ _ _ _ _)
      | (with_reducible exact synoptickeep_In.mono _ _ _)
      | (with_reducible exact synopticlaw14_awake.mono _)
      | (with_reducible exact synopticref04_List.mono _ _ _)
      | (with_reducible exact LeO.refl _)
      | (with_reducible exact LeO.none _)
      | (with_reducible refine LeO.ite ?_ ?_)
      | (with_reducible refine LeO.bind ?_ (fun _ => ?_))
      | exact ih0 _ _ _ _
      | exact ih1 _ _ _ _ _ _ _ _
      | exact synoptickeep_In.mono _ _ _
      | exact synopticlaw14_awake.mono _
      | exact synopticref04_List.mono _ _ _
      | exact LeO.none _
      | refine LeO.ite ?_ ?_
      | refine LeO.bind ?_ (fun _ => ?_)
set_option maxHeartbeats 8000000 in
set_option maxRecDepth 100000 in
theorem synopticlaw14_LimitsAlone.calls (k : Nat) (A0 : Option Addr) (c0 : Nat) (l0 : List Int) (r : Bool) (w : World) (hL : Laid w) (hr0 : Kd.C (Kd.int .i64) w A0 l0.length l0) (hc0 : l0.length ≤ c0) (h : synopticlaw14_LimitsAlone.f k l0 = some r) :
    Calls Tryd.prog 5 #[.slice A0 l0.length c0] w fun e w' => e = .returned (.bool r) ∧ Below w.heap.size w w' := by
  have HL := Aside0.mk hL
  clear hL
  have hu30 := Tryd.underlying30
  have HR0 := Aside0.mk hr0
  have HC0 := Aside0.mk hc0
  clear hr0 hc0
  have HB := Aside0.mk (Below.refl w.heap.size w)
  have H : ((synoptickeep_New.f l0).bind fun bt175 => ((synopticref04_List.f k bt175.1 bt175.2).bind fun bt178 => ((limits_Check.f bt178.1).bind fun t182 => (synopticlaw14_LimitsAlone.l0 k t182 bt178.1 (bt178.1.length : Int) 0)))) = some r := h
  clear h
  replace H := Option.bind_eq_some_iff.mp H
  obtain ⟨⟨t175, t176⟩, A20, H⟩ := H
  replace H : ((synopticref04_List.f k t175 t176).bind fun bt178 => ((limits_Check.f bt178.1).bind fun t182 => (synopticlaw14_LimitsAlone.l0 k t182 bt178.1 (bt178.1.length : Int) 0))) = some r := H
  have A2 := Aside0.mk A20
  clear A20
  replace H := Option.bind_eq_some_iff.mp H
  obtain ⟨⟨t178, t181⟩, A30, H⟩ := H
  replace H : ((limits_Check.f t178).bind fun t182 => (synopticlaw14_LimitsAlone.l0 k t182 t178 (t178.length : Int) 0)) = some r := H
  have A3 := Aside0.mk A30
  clear A30
  replace H := Option.bind_eq_some_iff.mp H
  obtain ⟨t182, A40, H⟩ := H
  replace H : (synopticlaw14_LimitsAlone.l0 k t182 t178 (t178.length : Int) 0) = some r := H
  have A4 := Aside0.mk A40
  clear A40
  have H' := Aside0.mk H
  clear H
  go_enter Tryd.func5, Tryd.ntmps5
  go_wp2_with (first | ((with_reducible refine gate_callee (f := 6) rfl ?_); refine goesL_ (some 11) rfl rfl Tryd.func6 (by kernel_rfl) rfl #[.slice A0 l0.length c0] rfl (by (try simp only [List.map_toArray, List.map_cons, List.map_nil]); first | done | rfl | (simp only [List.length_drop, List.length_take]; rfl)) ?_; (with_reducible refine (synoptickeep_New.calls _ _ l0 t175 t176 w _ ?side1 ?side2 ?side3 A2.out).mono ?_); (case side1 => repeat (first | (with_reducible first | exact HB.out | apply below_alloc | apply pw_below_drewN | apply below_drew1) | exact HB.out)); (case side2 => exact HR0.out); (case side3 => exact HC0.out); rintro e w5 ⟨g177, rfl, hi, hb, hb2⟩; refine ⟨_, rfl, ?_⟩; have n0_ := Aside0.mk (hb); have n1_ := Aside0.mk (hi); clear HB; have HB := n0_; have HI177 := n1_; clear n0_ n1_; (try clear hb); (try clear hb2); (try clear hk); (try clear hi)) | ((with_reducible refine gate_callee (f := 7) rfl ?_); refine goesL_ (some 13) rfl rfl Tryd.func7 (by kernel_rfl) rfl #[.pointer (some ⟨g177, 0, none⟩)] rfl (by (try simp only [List.map_toArray, List.map_cons, List.map_nil]); first | done | rfl | (simp only [List.length_drop, List.length_take]; rfl)) ?_; (with_reducible refine (synopticref04_List.calls k g177 t175 t176 t178 t181 w _ ?side1 ?side2 A3.out).mono ?_); (case side1 => repeat (first | (with_reducible first | exact HI177.out | apply IsS45.alloc | apply IsS45.drewN | apply IsS45.drew | apply IsS45.set_1) | exact HI177.out)); (case side2 => repeat (first | (with_reducible first | exact HB.out | apply below_alloc | apply pw_below_drewN | apply below_drew1 | refine below_set ?_ (IsS45.ge HI177.out)) | exact HB.out)); rintro e w6 ⟨v179, rfl, ho0, hi, hb, hk⟩; refine ⟨_, rfl, ?_⟩; have n0_ := Aside0.mk (Kd.R_lower ho0 (below_size (by repeat (first | (with_reducible first | exact HB.out | apply below_alloc | apply pw_below_drewN | apply below_drew1 | refine below_set ?_ (IsS45.ge HI177.out)) | exact HB.out)))); have n1_ := Aside0.mk (hb); have n2_ := Aside0.mk (hi); clear HB; clear HI177; have HO180 := n0_; have HB := n1_; have HI177 := n2_; clear n0_ n1_ n2_; (try clear hb); (try clear hb2); (try clear hk); (try clear hi); (try clear ho0); obtain ⟨Ao7, co7, eo7⟩ := Kd.R_slice HO180.out; subst eo7) | ((with_reducible refine gate_callee (f := 8) rfl ?_); refine goesL_ (some 15) rfl rfl Tryd.func8 (by kernel_rfl) rfl #[.slice Ao7 t178.length co7] rfl (by (try simp only [List.map_toArray, List.map_cons, List.map_nil]); first | done | rfl | (simp only [List.length_drop, List.length_take]; rfl)) ?_; (with_reducible refine (limits_Check.calls _ _ t178 t182 _ (laid_below HL.out (by repeat (first | (with_reducible first | exact HB.out | apply below_alloc | apply pw_below_drewN | apply below_drew1 | refine below_set ?_ (IsS45.ge HI177.out)) | exact HB.out))) ?side1 ?side2 A4.out).mono ?_); (case side1 => repeat (first | exact (Kd.R_reads' HO180.out).2.2 | (with_reducible refine Kd.C_alloc ?_ _) | (with_reducible refine Kd.C_drewN ?_ _) | (with_reducible refine Kd.C_drew ?_))); (case side2 => exact (Kd.R_reads' HO180.out).2.1); rintro e w8 ⟨v183, rfl, ho0, hb⟩; refine ⟨_, rfl, ?_⟩; have n0_ := Aside0.mk (Kd.R_below (by (with_reducible repeat (first | apply Kd.R_alloc | apply Kd.R_drewN | apply Kd.R_drew)); exact HO180.out) hb); have n1_ := Aside0.mk (Kd.R_lower ho0 (below_size (by repeat (first | (with_reducible first | exact HB.out | apply below_alloc | apply pw_below_drewN | apply below_drew1 | refine below_set ?_ (IsS45.ge HI177.out)) | exact HB.out)))); have n2_ := Aside0.mk (IsS45.below (by repeat (first | (with_reducible first | exact HI177.out | apply IsS45.alloc | apply IsS45.drewN | apply IsS45.drew | apply IsS45.set_1) | exact HI177.out)) hb); have n3_ := Aside0.mk (below_step (by repeat (first | (with_reducible first | exact HB.out | apply below_alloc | apply pw_below_drewN | apply below_drew1 | refine below_set ?_ (IsS45.ge HI177.out)) | exact HB.out)) hb); clear HO180; clear HI177; clear HB; have HO180 := n0_; have HO184 := n1_; have HI177 := n2_; have HB := n3_; clear n0_ n1_ n2_ n3_; (try clear hb); (try clear hb2); (try clear hk); (try clear hi); (try clear ho0)))
  go_loopg [18] k (fun kq v18 w' => ∃ (x18_1 : Int), v18 = .int .i64 x18_1 ∧ Aside0 (synopticlaw14_LimitsAlone.l0 kq t182 t178 (t178.length : Int) x18_1 = some r) ∧ Aside0 (kq ≤ k) ∧ Aside0 (Kd.R (Kd.int .i64) 3 w' w.heap.size (fun _ => True) v183 t182) ∧ Aside0 (Kd.R k30 30 w' w.heap.size (fun _ => True) (.slice Ao7 t178.length co7) t178) ∧ Aside0 (Below w.heap.size w w'))
  case atStart => exact ⟨(0), (by first | rfl | (simp; done) | (simp [*]; done)), H', ⟨Nat.le_refl _⟩, ⟨by (with_reducible repeat (first | apply Kd.R_alloc | apply Kd.R_drewN | apply Kd.R_drew)); exact HO184.out⟩, ⟨by (with_reducible repeat (first | apply Kd.R_alloc | apply Kd.R_drewN | apply Kd.R_drew)); exact HO180.out⟩, ⟨by repeat (first | (with_reducible first | exact HB.out | apply below_alloc | apply pw_below_drewN | apply below_drew1 | refine below_set ?_ (IsS45.ge HI177.out)) | exact HB.out)⟩⟩
  case round =>
    clear H'
    try clear p2
    try clear c5
    try clear c6
    try clear c7
    try clear c8
    obtain ⟨x18_1, rfl, HA, HK1, HO_5, HO_16, HB⟩ := hrel
    cases gk with
    | zero => exact absurd HA.out (by simp [synopticlaw14_LimitsAlone.l0])
    | succ k1 =>
      have H := HA.out
      clear HA
      simp only [synopticlaw14_LimitsAlone.l0] at H
      by_cases c9 : x18_1 < (t178.length : Int)
      · rw [if_pos c9] at H
        have c9b0 : decide (x18_1 < (t178.length : Int)) = true := decide_eq_true c9
        clear c9
        by_cases c10 : 0 ≤ x18_1
        · rw [if_pos c10] at H
          have c10b0 : decide (0 ≤ x18_1) = true := decide_eq_true c10
          clear c10
          by_cases c11 : x18_1 < (t178.length : Int)
          · rw [if_pos c11] at H
            have c11b0 : decide (x18_1 < (t178.length : Int)) = true := decide_eq_true c11
            clear c11
            obtain ⟨y188, hy188⟩ : ∃ y_ : List (S30), y_ = (([(⟨(rd_T30 t178 x18_1).f0, (rd_T30 t178 x18_1).f1⟩ : S30)] : List (S30))) := ⟨_, rfl⟩
            replace H : ((limits_Check.f y188).bind fun t191 => (if ((rd_T30 t178 x18_1).f0) ≥ 2 then (synopticlaw14_LimitsAlone.j1 k1 t182 t191 (decide (((rd_T30 t178 x18_1).f0) ≤ 5)) t178 (t178.length : Int) x18_1 ((rd_T30 t178 x18_1).f0) ((rd_T30 t178 x18_1).f1)) else (synopticlaw14_LimitsAlone.j1 k1 t182 t191 false t178 (t178.length : Int) x18_1 ((rd_T30 t178 x18_1).f0) ((rd_T30 t178 x18_1).f1)))) = some r := by first | (rw [hy188]; with_reducible exact H) | (have H2_ := (Option.bind_some _ _).symm.trans H; rw [hy188]; with_reducible exact H2_) | (have H2_ := (Option.bind_some _ _).symm.trans H; with_reducible exact H2_) | with_reducible exact H | (rw [hy188]; exact H) | exact H
            have Ny188 := Aside0.mk hy188
            clear hy188
            replace H := Option.bind_eq_some_iff.mp H
            obtain ⟨t191, A120, H⟩ := H
            replace H : (if ((rd_T30 t178 x18_1).f0) ≥ 2 then (synopticlaw14_LimitsAlone.j1 k1 t182 t191 (decide (((rd_T30 t178 x18_1).f0) ≤ 5)) t178 (t178.length : Int) x18_1 ((rd_T30 t178 x18_1).f0) ((rd_T30 t178 x18_1).f1)) else (synopticlaw14_LimitsAlone.j1 k1 t182 t191 false t178 (t178.length : Int) x18_1 ((rd_T30 t178 x18_1).f0) ((rd_T30 t178 x18_1).f1))) = some r := H
            have A12 := Aside0.mk A120
            clear A120
            have HC13 := Aside0.mk H
            clear H
            have p186 : 0 ≤ (x18_1 : Int) := of_decide_eq_true (by first | (with_reducible assumption) | assumption)
            have q186 : x18_1 < (t178.length : Int) := of_decide_eq_true (by first | (with_reducible assumption) | assumption)
            obtain ⟨ad186, e186, hx186_0, hx186_1⟩ := at_T30 (Kd.R_reads' HO_16.out).2.2 x18_1 p186 q186
            cases e186
            replace p186 := eq_true p186
            replace q186 := eq_true q186
            go_upto_region 8 with (first | ((with_reducible refine gate_dst (N := 7) rfl ?_); (try (refine gate_guard (by rfl) ?_; dsimp only)); refine box_event ?hg (N := 7) ?hd (cs := #[.int .i64 0, .int .i64 0]) (t := 30) ?hr ?_; (case hd => rfl); (case hg => rfl); (case hr => first | (go_simp; done) | (go_simp; rfl)); intro gb187 hg w14 hbox hb; have n0_ := Aside0.mk (Kd.R_below (by (with_reducible repeat (first | apply Kd.R_alloc | apply Kd.R_drewN | apply Kd.R_drew)); exact HO_5.out) hb); have n1_ := Aside0.mk (Kd.R_below (Kd.R_elderB (by (with_reducible repeat (first | apply Kd.R_alloc | apply Kd.R_drewN | apply Kd.R_drew)); exact HO_16.out) gb187 (Nat.le_of_eq hg.symm)) hb); have n2_ := Aside0.mk (below_step (by repeat (first | (with_reducible first | exact HB.out | apply below_alloc | apply pw_below_drewN | apply below_drew1) | exact HB.out)) hb); have n3_ := Aside0.mk (hbox); have n4_ := Aside0.mk ((by rw [hg]; exact (below_size (by repeat (first | (with_reducible first | exact HB.out | apply below_alloc | apply pw_below_drewN | apply below_drew1) | exact HB.out))) : w.heap.size ≤ gb187)); have n5_ := Aside0.mk ((by rw [hg]; exact (below_size (by repeat (first | (with_reducible first | exact HB.out | apply below_alloc | apply pw_below_drewN | apply below_drew1) | exact HB.out))) : w.heap.size ≤ gb187)); clear HO_5; clear HO_16; clear HB; have HO_5 := n0_; have HO_16 := n1_; have HB := n2_; have BK187 := n3_; have GW187 := n4_; have GE187 := n5_; clear n0_ n1_ n2_ n3_ n4_ n5_; clear hb hbox hg; have hcz15_0 : w14.cell? ⟨gb187, 0, none⟩ = some (.int .i64 0) := (blk_cell BK187.out 0).trans rfl; have hcz15_1 : w14.cell? ⟨gb187, 1, none⟩ = some (.int .i64 0) := (blk_cell BK187.out 1).trans rfl; have hfz15_0 := blk_frozen BK187.out 0; have hfz15_1 := blk_frozen BK187.out 1) | ((with_reducible refine gate_store (t := 30) (p := 7) rfl ?_); refine store_event (t := 30) (p := 7) (v := ?vo_w16) (w1 := ((w14.setCell ⟨gb187, 0, none⟩ (.int .i64 ((rd_T30 t178 x18_1).f0))).setCell ⟨gb187, 1, none⟩ (.int .i64 ((rd_T30 t178 x18_1).f1)))) ?hg ?ho ?hn ?hr ?_; (case ho => rfl); (case hg => rfl); (case hn => rfl); (case hr => first | (go_simp; done) | (go_simp; rfl)); intro w16 hw; have n0_ : Aside0 (Kd.R (Kd.int .i64) 3 w16 w.heap.size (fun _ => True) v183 t182) := ⟨(by rw [hw]; exact (by (with_reducible repeat (first | apply Kd.R_alloc | apply Kd.R_drewN | apply Kd.R_drew)); exact Kd.R_mono (Kd.R_far (p := ⟨gb187, 1, none⟩) (Kd.R_far (p := ⟨gb187, 0, none⟩) (Kd.R_types HO_5.out BK187.out (by decide)) (fun _ hk => hk.2) (.int .i64 ((rd_T30 t178 x18_1).f0))) (fun _ hk => hk.2) (.int .i64 ((rd_T30 t178 x18_1).f1))) (fun _ hk => trivial)))⟩; have n1_ : Aside0 (Kd.R k30 30 w16 w.heap.size (fun k_ => k_ ≠ gb187) (.slice (some ad186) t178.length co7) t178) := ⟨(by rw [hw]; exact (by (with_reducible repeat (first | apply Kd.R_alloc | apply Kd.R_drewN | apply Kd.R_drew)); exact Kd.R_mono (Kd.R_far (p := ⟨gb187, 1, none⟩) (Kd.R_far (p := ⟨gb187, 0, none⟩) (Kd.R_mono HO_16.out (fun k_ hk => (⟨hk, hk.2⟩ : _ ∧ k_ ≠ gb187))) (fun _ hk => hk.2) (.int .i64 ((rd_T30 t178 x18_1).f0))) (fun _ hk => hk.2) (.int .i64 ((rd_T30 t178 x18_1).f1))) (fun _ hk => hk.1.2)))⟩; have n2_ : Aside0 (w16.heap[gb187]? = some (.cells #[.int .i64 ((rd_T30 t178 x18_1).f0), .int .i64 ((rd_T30 t178 x18_1).f1)] 30 (0, 0))) := ⟨(by rw [hw]; exact (by (with_reducible repeat (first | refine blk_drewN ?_ _ | refine blk_drew ?_ | refine blk_alloc ?_ _)); refine blk_put (cs := #[.int .i64 ((rd_T30 t178 x18_1).f0), .int .i64 0]) ?_ 1 _ rfl; (with_reducible repeat (first | refine blk_drewN ?_ _ | refine blk_drew ?_ | refine blk_alloc ?_ _)); refine blk_put (cs := #[.int .i64 0, .int .i64 0]) ?_ 0 _ rfl; (with_reducible repeat (first | refine blk_drewN ?_ _ | refine blk_drew ?_ | refine blk_alloc ?_ _)); exact BK187.out))⟩; have n3_ : Aside0 (Below w.heap.size w w16) := ⟨(by rw [hw]; exact (by repeat (first | (with_reducible first | exact HB.out | apply below_alloc | apply pw_below_drewN | apply below_drew1 | refine below_set ?_ GE187.out) | exact HB.out)))⟩; clear hw; clear HO_5; clear HO_16; clear BK187; clear HB; have HO_5 := n0_; have HO_16 := n1_; have BK187 := n2_; have HB := n3_; clear n0_ n1_ n2_ n3_; have hcz17_0 : w16.cell? ⟨gb187, 0, none⟩ = some (.int .i64 ((rd_T30 t178 x18_1).f0)) := (blk_cell BK187.out 0).trans rfl; have hcz17_1 : w16.cell? ⟨gb187, 1, none⟩ = some (.int .i64 ((rd_T30 t178 x18_1).f1)) := (blk_cell BK187.out 1).trans rfl; have hfz17_0 := blk_frozen BK187.out 0; have hfz17_1 := blk_frozen BK187.out 1) | ((with_reducible refine gate_dst (N := 23) rfl ?_); (try (refine gate_guard (by rfl) ?_; dsimp only)); refine Kd.R_lit k30 _ 30 ?hg (N := 23) ?hd (xs := ([(⟨(rd_T30 t178 x18_1).f0, (rd_T30 t178 x18_1).f1⟩ : S30)] : List (S30))) (inner := [.int .i64 ((rd_T30 t178 x18_1).f0), .int .i64 ((rd_T30 t178 x18_1).f1)]) (ok := fun _ => True) (okp := fun _ => True) ?hr ?hp (fun _ hk => hk) trivial (Below.refl _ _) (Nat.le_refl _) (by simp) ?_; (case hd => rfl); (case hg => rfl); (case hr => first | (go_simp; done) | (go_simp; rfl)); (case hp => exact (Reps.c2 (show Kd.M k30 _ _ _ (⟨(rd_T30 t178 x18_1).f0, (rd_T30 t178 x18_1).f1⟩ : S30) [.int .i64 ((rd_T30 t178 x18_1).f0), .int .i64 ((rd_T30 t178 x18_1).f1)] from (k30_mkM _ _ _ (⟨(rd_T30 t178 x18_1).f0, (rd_T30 t178 x18_1).f1⟩ : S30) )) (Reps.none _ _))); intro v189 w18 ho19 hb hg_ hnew_; clear hg_ hnew_; (first | rw [← Ny188.out] at ho19 | (simp only [Int.reduceToNat] at ho19; rw [← Ny188.out] at ho19)); have n0_ := Aside0.mk (Kd.R_below (by (with_reducible repeat (first | apply Kd.R_alloc | apply Kd.R_drewN | apply Kd.R_drew)); exact HO_5.out) hb); have n1_ := Aside0.mk (Kd.R_elder' (by (with_reducible repeat (first | apply Kd.R_alloc | apply Kd.R_drewN | apply Kd.R_drew)); exact HO_16.out) (Kd.R_base ho19) hb); have n2_ := Aside0.mk (Kd.R_lower (Kd.R_newB (Kd.R_new' ho19 (Kd.R_lt (by (with_reducible repeat (first | apply Kd.R_alloc | apply Kd.R_drewN | apply Kd.R_drew)); exact HO_16.out))) (g := gb187) (o := .cells #[.int .i64 ((rd_T30 t178 x18_1).f0), .int .i64 ((rd_T30 t178 x18_1).f1)] 30 (0, 0)) (by (with_reducible repeat (first | refine blk_drewN ?_ _ | refine blk_drew ?_ | refine blk_alloc ?_ _)); exact BK187.out)) (below_size (by repeat (first | (with_reducible first | exact HB.out | apply below_alloc | apply pw_below_drewN | apply below_drew1 | refine below_set ?_ GE187.out) | exact HB.out)))); have n3_ := Aside0.mk (blk_below (g := gb187) (o := .cells #[.int .i64 ((rd_T30 t178 x18_1).f0), .int .i64 ((rd_T30 t178 x18_1).f1)] 30 (0, 0)) (by (with_reducible repeat (first | refine blk_drewN ?_ _ | refine blk_drew ?_ | refine blk_alloc ?_ _)); exact BK187.out) hb); have n4_ := Aside0.mk (below_step (by repeat (first | (with_reducible first | exact HB.out | apply below_alloc | apply pw_below_drewN | apply below_drew1 | refine below_set ?_ GE187.out) | exact HB.out)) hb); clear HO_5; clear HO_16; clear BK187; clear HB; have HO_5 := n0_; have HO_16 := n1_; have HO190 := n2_; have BK187 := n3_; have HB := n4_; clear n0_ n1_ n2_ n3_ n4_; clear hb ho19; obtain ⟨Ao20, co20, eo20⟩ := Kd.R_slice HO190.out; subst eo20) | ((with_reducible refine gate_callee (f := 8) rfl ?_); refine goesL_ (some 24) rfl rfl Tryd.func8 (by kernel_rfl) rfl #[.slice Ao20 y188.length co20] rfl (by (try simp only [List.map_toArray, List.map_cons, List.map_nil]); first | done | rfl | (simp only [List.length_drop, List.length_take]; rfl)) ?_; (with_reducible refine (limits_Check.calls _ _ y188 t191 _ (laid_below HL.out (by repeat (first | (with_reducible first | exact HB.out | apply below_alloc | apply pw_below_drewN | apply below_drew1 | refine below_set ?_ GE187.out) | exact HB.out))) ?side1 ?side2 A12.out).mono ?_); (case side1 => repeat (first | exact (Kd.R_reads' HO190.out).2.2 | (with_reducible refine Kd.C_alloc ?_ _) | (with_reducible refine Kd.C_drewN ?_ _) | (with_reducible refine Kd.C_drew ?_))); (case side2 => exact (Kd.R_reads' HO190.out).2.1); rintro e w21 ⟨v192, rfl, ho0, hb⟩; refine ⟨_, rfl, ?_⟩; have n0_ := Aside0.mk (Kd.R_elder' (by (with_reducible repeat (first | apply Kd.R_alloc | apply Kd.R_drewN | apply Kd.R_drew)); exact HO_5.out) (Kd.R_base ho0) hb); have n1_ := Aside0.mk (Kd.R_below (by (with_reducible repeat (first | apply Kd.R_alloc | apply Kd.R_drewN | apply Kd.R_drew)); exact HO_16.out) hb); have n2_ := Aside0.mk (Kd.R_below (by (with_reducible repeat (first | apply Kd.R_alloc | apply Kd.R_drewN | apply Kd.R_drew)); exact HO190.out) hb); have n3_ := Aside0.mk (Kd.R_lower (Kd.R_new' ho0 (Kd.R_lt (by (with_reducible repeat (first | apply Kd.R_alloc | apply Kd.R_drewN | apply Kd.R_drew)); exact HO_5.out))) (below_size (by repeat (first | (with_reducible first | exact HB.out | apply below_alloc | apply pw_below_drewN | apply below_drew1 | refine below_set ?_ GE187.out) | exact HB.out)))); have n4_ := Aside0.mk (blk_below (g := gb187) (o := .cells #[.int .i64 ((rd_T30 t178 x18_1).f0), .int .i64 ((rd_T30 t178 x18_1).f1)] 30 (0, 0)) (by (with_reducible repeat (first | refine blk_drewN ?_ _ | refine blk_drew ?_ | refine blk_alloc ?_ _)); exact BK187.out) hb); have n5_ := Aside0.mk (below_step (by repeat (first | (with_reducible first | exact HB.out | apply below_alloc | apply pw_below_drewN | apply below_drew1 | refine below_set ?_ GE187.out) | exact HB.out)) hb); clear HO_5; clear HO_16; clear HO190; clear BK187; clear HB; have HO_5 := n0_; have HO_16 := n1_; have HO190 := n2_; have HO193 := n3_; have BK187 := n4_; have HB := n5_; clear n0_ n1_ n2_ n3_ n4_ n5_; (try clear hb); (try clear hb2); (try clear hk); (try clear hi); (try clear ho0)))
            (try simp only [Act.put, List.setIfInBounds_toArray, List.set_cons_zero, List.set_cons_succ])
            go_cut [9] (fun v9 wc => ∃ (kq : Nat) (x9_12 : Bool), v9 = .bool x9_12 ∧ Aside0 (synopticlaw14_LimitsAlone.j1 kq t182 t191 x9_12 t178 (t178.length : Int) x18_1 ((rd_T30 t178 x18_1).f0) ((rd_T30 t178 x18_1).f1) = some r) ∧ Aside0 (kq ≤ k1) ∧ Aside0 (Kd.R (Kd.int .i64) 3 wc w.heap.size (fun k_ => some k_ ≠ (v192 : Value).ownBlock) v183 t182) ∧ Aside0 (Kd.R (Kd.int .i64) 3 wc w.heap.size (fun k_ => some k_ ≠ (v183 : Value).ownBlock) v192 t191) ∧ Aside0 (Kd.R k30 30 wc w.heap.size (fun k_ => k_ ≠ gb187) (.slice (some ad186) t178.length co7) t178) ∧ Aside0 (wc.heap[gb187]? = some (.cells #[.int .i64 ((rd_T30 t178 x18_1).f0), .int .i64 ((rd_T30 t178 x18_1).f1)] 30 (0, 0))) ∧ Aside0 (Below w.heap.size w wc))
            case first =>
              have H := HC13.out
              clear HC13
              by_cases c22 : ((rd_T30 t178 x18_1).f0) ≥ 2
              · rw [if_pos c22] at H
                have c22b0 : decide (2 ≤ ((rd_T30 t178 x18_1).f0)) = true := decide_eq_true c22
                clear c22
                (first | rw [c22b0] | (simp only [i64_w, i32_w]; rw [c22b0]) | skip)
                have H' := Aside0.mk H
                clear H
                have hcz23_0 : w21.cell? ⟨gb187, 0, none⟩ = some (.int .i64 ((rd_T30 t178 x18_1).f0)) := (blk_cell BK187.out 0).trans rfl
                have hcz23_1 : w21.cell? ⟨gb187, 1, none⟩ = some (.int .i64 ((rd_T30 t178 x18_1).f1)) := (blk_cell BK187.out 1).trans rfl
                have hfz23_0 := blk_frozen BK187.out 0
                have hfz23_1 := blk_frozen BK187.out 1
                go_wp2
                go_meet
                case rel => exact ⟨_, (decide (((rd_T30 t178 x18_1).f0) ≤ 5)), (by first | rfl | (simp; done) | (simp [*]; done)), H', ⟨by have := HK1.out; first | omega | exact Nat.le_refl _⟩, ⟨by (with_reducible repeat (first | apply Kd.R_alloc | apply Kd.R_drewN | apply Kd.R_drew)); exact Kd.R_mono HO_5.out (fun _ hk => hk.2)⟩, ⟨by (with_reducible repeat (first | apply Kd.R_alloc | apply Kd.R_drewN | apply Kd.R_drew)); exact Kd.R_mono HO193.out (fun _ hk => hk.2)⟩, ⟨by (with_reducible repeat (first | apply Kd.R_alloc | apply Kd.R_drewN | apply Kd.R_drew)); exact Kd.R_mono HO_16.out (fun _ hk => hk.1)⟩, ⟨by (with_reducible repeat (first | refine blk_drewN ?_ _ | refine blk_drew ?_ | refine blk_alloc ?_ _)); exact BK187.out⟩, ⟨by repeat (first | (with_reducible first | exact HB.out | apply below_alloc | apply pw_below_drewN | apply below_drew1 | refine below_set ?_ GE187.out) | exact HB.out)⟩⟩
              · rw [if_neg c22] at H
                have c22b0 : decide (2 ≤ ((rd_T30 t178 x18_1).f0)) = false := decide_eq_false c22
                clear c22
                (first | rw [c22b0] | (simp only [i64_w, i32_w]; rw [c22b0]) | skip)
                have H' := Aside0.mk H
                clear H
                have hcz24_0 : w21.cell? ⟨gb187, 0, none⟩ = some (.int .i64 ((rd_T30 t178 x18_1).f0)) := (blk_cell BK187.out 0).trans rfl
                have hcz24_1 : w21.cell? ⟨gb187, 1, none⟩ = some (.int .i64 ((rd_T30 t178 x18_1).f1)) := (blk_cell BK187.out 1).trans rfl
                have hfz24_0 := blk_frozen BK187.out 0
                have hfz24_1 := blk_frozen BK187.out 1
                go_wp2
                go_meet
                case rel => exact ⟨_, (false), (by first | rfl | (simp; done) | (simp [*]; done)), H', ⟨by have := HK1.out; first | omega | exact Nat.le_refl _⟩, ⟨by (with_reducible repeat (first | apply Kd.R_alloc | apply Kd.R_drewN | apply Kd.R_drew)); exact Kd.R_mono HO_5.out (fun _ hk => hk.2)⟩, ⟨by (with_reducible repeat (first | apply Kd.R_alloc | apply Kd.R_drewN | apply Kd.R_drew)); exact Kd.R_mono HO193.out (fun _ hk => hk.2)⟩, ⟨by (with_reducible repeat (first | apply Kd.R_alloc | apply Kd.R_drewN | apply Kd.R_drew)); exact Kd.R_mono HO_16.out (fun _ hk => hk.1)⟩, ⟨by (with_reducible repeat (first | refine blk_drewN ?_ _ | refine blk_drew ?_ | refine blk_alloc ?_ _)); exact BK187.out⟩, ⟨by repeat (first | (with_reducible first | exact HB.out | apply below_alloc | apply pw_below_drewN | apply below_drew1 | refine below_set ?_ GE187.out) | exact HB.out)⟩⟩
            case rest =>
              clear HC13
              try clear c1
              try clear p1
              try clear q1
              try clear hx1
              try clear c2
              try clear p2
              try clear c5
              try clear c6
              try clear c7
              try clear c8
              try clear c9
              try clear c9b0
              try clear c10
              try clear c10b0
              try clear c11
              try clear c11b0
              try clear p18
              try clear q18
              try clear hx18
              try clear c22
              try clear c22b0
              try clear hcz15_0
              try clear hcz15_1
              try clear hcz17_0
              try clear hcz17_1
              try clear hcz23_0
              try clear hcz23_1
              try clear hcz24_0
              try clear hcz24_1
              try clear hfz15_0
              try clear hfz15_1
              try clear hfz17_0
              try clear hfz17_1
              try clear hfz23_0
              try clear hfz23_1
              try clear hfz24_0
              try clear hfz24_1
              try clear hx186_0
              try clear hx186_1
              try clear p186
              try clear p2
              try clear q186
              obtain ⟨kq, x9_12, rfl, HA, HJ12, HO_5, HO_8, HO_16, BK187, HB⟩ := hcut
              cases kq with
              | zero => exact absurd HA.out (by simp [synopticlaw14_LimitsAlone.j1])
              | succ kj12 =>
                have H := HA.out
                clear HA
                simp only [synopticlaw14_LimitsAlone.j1] at H
                by_cases c25 : x9_12 = true
                · subst c25
                  have H1 : (if (t191.length : Int) > 0 then ((synoptickeep_In.f kj12 t182 ((rd_T30 t178 x18_1).f0)).bind fun t194 => (if t194 = true then ((limits_Gross.f ((rd_T30 t178 x18_1).f0) ((rd_T30 t178 x18_1).f1)).bind fun t195 => (if ((decide ((t191.length : Int) > 0)) == t195) = true then (none) else (synopticlaw14_LimitsAlone.l0 kj12 t182 t178 (t178.length : Int) (wrap64 (x18_1 + 1))))) else (none))) else ((limits_Gross.f ((rd_T30 t178 x18_1).f0) ((rd_T30 t178 x18_1).f1)).bind fun t196 => (if ((decide ((t191.length : Int) > 0)) == t196) = true then (none) else (synopticlaw14_LimitsAlone.l0 kj12 t182 t178 (t178.length : Int) (wrap64 (x18_1 + 1)))))) = some r := by rw [if_pos rfl] at H; exact H
                  clear H
                  have H := H1
                  clear H1
                  by_cases c26 : (t191.length : Int) > 0
                  · rw [if_pos c26] at H
                    have c26b0 : decide (0 < (t191.length : Int)) = true := decide_eq_true c26
                    have c26b1 : decide (0 < t191.length) = true := decide_eq_true (by omega)
                    clear c26
                    replace H := Option.bind_eq_some_iff.mp H
                    obtain ⟨t194, A270, H⟩ := H
                    replace H : (if t194 = true then ((limits_Gross.f ((rd_T30 t178 x18_1).f0) ((rd_T30 t178 x18_1).f1)).bind fun t195 => (if ((decide ((t191.length : Int) > 0)) == t195) = true then (none) else (synopticlaw14_LimitsAlone.l0 kj12 t182 t178 (t178.length : Int) (wrap64 (x18_1 + 1))))) else (none)) = some r := H
                    have A27 := Aside0.mk A270
                    clear A270
                    by_cases c28 : t194 = true
                    · subst c28
                      have H1 : ((limits_Gross.f ((rd_T30 t178 x18_1).f0) ((rd_T30 t178 x18_1).f1)).bind fun t195 => (if ((decide ((t191.length : Int) > 0)) == t195) = true then (none) else (synopticlaw14_LimitsAlone.l0 kj12 t182 t178 (t178.length : Int) (wrap64 (x18_1 + 1))))) = some r := by rw [if_pos rfl] at H; exact H
                      clear H
                      have H := H1
                      clear H1
                      replace H := Option.bind_eq_some_iff.mp H
                      obtain ⟨t195, A290, H⟩ := H
                      replace H : (if ((decide ((t191.length : Int) > 0)) == t195) = true then (none) else (synopticlaw14_LimitsAlone.l0 kj12 t182 t178 (t178.length : Int) (wrap64 (x18_1 + 1)))) = some r := H
                      have A29 := Aside0.mk A290
                      clear A290
                      by_cases c30 : ((decide ((t191.length : Int) > 0)) == t195) = true
                      · rw [if_pos c30] at H
                        exact absurd H (by simp)
                      · rw [if_neg c30] at H
                        have c30b0 : ((decide ((t191.length : Int) > 0)) == t195) = false := by simpa using c30
                        (try (have c30b1 : decide ((decide ((t191.length : Int) > 0)) = t195) = false := by simpa using c30))
                        (try (have c30b2 : ((decide ((t191.length : Int) > 0)) == t195) = false := by simpa using c30))
                        (try (have c30b3 : ¬ ((decide ((t191.length : Int) > 0)) = t195) := by simpa using c30))
                        clear c30
                        have e_c30 : t195 = false := by revert c30b0; rw [show decide ((t191.length : Int) > 0) = true from c26b0]; cases t195 <;> simp
                        have H' := Aside0.mk H
                        clear H
                        obtain ⟨Ao31, co31, eo31⟩ := Kd.R_slice HO_8.out
                        subst eo31
                        have hcz32_0 : wc.cell? ⟨gb187, 0, none⟩ = some (.int .i64 ((rd_T30 t178 x18_1).f0)) := (blk_cell BK187.out 0).trans rfl
                        have hcz32_1 : wc.cell? ⟨gb187, 1, none⟩ = some (.int .i64 ((rd_T30 t178 x18_1).f1)) := (blk_cell BK187.out 1).trans rfl
                        have hfz32_0 := blk_frozen BK187.out 0
                        have hfz32_1 := blk_frozen BK187.out 1
                        obtain ⟨Ao33, co33, eo33⟩ := Kd.R_slice HO_5.out
                        subst eo33
                        go_wp2_with (first | (go_at_call 12; (with_reducible refine (synoptickeep_In.calls kj12 _ _ t182 ((rd_T30 t178 x18_1).f0) true _ ?side1 ?side2 A27.out).mono ?_); (case side1 => repeat (first | exact (Kd.R_reads' HO_5.out).2.2 | (with_reducible refine Kd.C_alloc ?_ _) | (with_reducible refine Kd.C_drewN ?_ _) | (with_reducible refine Kd.C_drew ?_))); (case side2 => exact (Kd.R_reads' HO_5.out).2.1); rintro e w' ⟨rfl, ⟨nd, rfl⟩⟩) | (go_at_call 16; (with_reducible refine (limits_Gross.calls ((rd_T30 t178 x18_1).f0) ((rd_T30 t178 x18_1).f1) t195 _ (laid_below HL.out (by repeat (first | (with_reducible first | exact HB.out | apply below_alloc | apply pw_below_drewN | apply below_drew1 | refine below_set ?_ GE187.out) | exact HB.out))) A29.out).mono ?_); rintro e w34 ⟨rfl, hb⟩; have n0_ := Aside0.mk (Kd.R_below (by (with_reducible repeat (first | apply Kd.R_alloc | apply Kd.R_drewN | apply Kd.R_drew)); exact HO_5.out) hb); have n1_ := Aside0.mk (Kd.R_below (by (with_reducible repeat (first | apply Kd.R_alloc | apply Kd.R_drewN | apply Kd.R_drew)); exact HO_8.out) hb); have n2_ := Aside0.mk (Kd.R_below (by (with_reducible repeat (first | apply Kd.R_alloc | apply Kd.R_drewN | apply Kd.R_drew)); exact HO_16.out) hb); have n3_ := Aside0.mk (blk_below (g := gb187) (o := .cells #[.int .i64 ((rd_T30 t178 x18_1).f0), .int .i64 ((rd_T30 t178 x18_1).f1)] 30 (0, 0)) (by (with_reducible repeat (first | refine blk_drewN ?_ _ | refine blk_drew ?_ | refine blk_alloc ?_ _)); exact BK187.out) hb); have n4_ := Aside0.mk (below_step (by repeat (first | (with_reducible first | exact HB.out | apply below_alloc | apply pw_below_drewN | apply below_drew1 | refine below_set ?_ GE187.out) | exact HB.out)) hb); clear HO_5; clear HO_8; clear HO_16; clear BK187; clear HB; have HO_5 := n0_; have HO_8 := n1_; have HO_16 := n2_; have BK187 := n3_; have HB := n4_; clear n0_ n1_ n2_ n3_ n4_; (try clear hb); (try clear hb2); (try clear hk); (try clear hi)))
                        go_roundg kj12
                        case measure => have := HK1.out; have := HJ12.out; omega
                        case rel => exact ⟨(wrap64 (x18_1 + 1)), (by first | rfl | (simp; done) | (simp [*]; done)), H', ⟨by have := HK1.out; have := HJ12.out; omega⟩, ⟨by (with_reducible repeat (first | apply Kd.R_alloc | apply Kd.R_drewN | apply Kd.R_drew)); exact Kd.R_mono HO_5.out (fun _ hk => trivial)⟩, ⟨by (with_reducible repeat (first | apply Kd.R_alloc | apply Kd.R_drewN | apply Kd.R_drew)); exact Kd.R_mono HO_16.out (fun _ hk => trivial)⟩, ⟨by repeat (first | (with_reducible first | exact HB.out | apply below_alloc | apply pw_below_drewN | apply below_drew1 | refine below_set ?_ GE187.out) | exact HB.out)⟩⟩
                    · replace c28 := Bool.eq_false_iff.mpr c28
                      subst c28
                      have H1 : (none) = some r := by rw [if_neg (show ¬ (false = true) by decide)] at H; exact H
                      clear H
                      have H := H1
                      clear H1
                      exact absurd H (by simp)
                  · rw [if_neg c26] at H
                    have c26b0 : decide (0 < (t191.length : Int)) = false := decide_eq_false c26
                    have c26b1 : decide (0 < t191.length) = false := decide_eq_false (by omega)
                    clear c26
                    replace H := Option.bind_eq_some_iff.mp H
                    obtain ⟨t196, A350, H⟩ := H
                    replace H : (if ((decide ((t191.length : Int) > 0)) == t196) = true then (none) else (synopticlaw14_LimitsAlone.l0 kj12 t182 t178 (t178.length : Int) (wrap64 (x18_1 + 1)))) = some r := H
                    have A35 := Aside0.mk A350
                    clear A350
                    by_cases c36 : ((decide ((t191.length : Int) > 0)) == t196) = true
                    · rw [if_pos c36] at H
                      exact absurd H (by simp)
                    · rw [if_neg c36] at H
                      have c36b0 : ((decide ((t191.length : Int) > 0)) == t196) = false := by simpa using c36
                      (try (have c36b1 : decide ((decide ((t191.length : Int) > 0)) = t196) = false := by simpa using c36))
                      (try (have c36b2 : ((decide ((t191.length : Int) > 0)) == t196) = false := by simpa using c36))
                      (try (have c36b3 : ¬ ((decide ((t191.length : Int) > 0)) = t196) := by simpa using c36))
                      clear c36
                      have e_c36 : t196 = true := by revert c36b0; rw [show decide ((t191.length : Int) > 0) = false from c26b0]; cases t196 <;> simp
                      have H' := Aside0.mk H
                      clear H
                      obtain ⟨Ao37, co37, eo37⟩ := Kd.R_slice HO_8.out
                      subst eo37
                      have hcz38_0 : wc.cell? ⟨gb187, 0, none⟩ = some (.int .i64 ((rd_T30 t178 x18_1).f0)) := (blk_cell BK187.out 0).trans rfl
                      have hcz38_1 : wc.cell? ⟨gb187, 1, none⟩ = some (.int .i64 ((rd_T30 t178 x18_1).f1)) := (blk_cell BK187.out 1).trans rfl
                      have hfz38_0 := blk_frozen BK187.out 0
                      have hfz38_1 := blk_frozen BK187.out 1
                      go_wp2_with (first | (go_at_call 16; (with_reducible refine (limits_Gross.calls ((rd_T30 t178 x18_1).f0) ((rd_T30 t178 x18_1).f1) t196 _ (laid_below HL.out (by repeat (first | (with_reducible first | exact HB.out | apply below_alloc | apply pw_below_drewN | apply below_drew1 | refine below_set ?_ GE187.out) | exact HB.out))) A35.out).mono ?_); rintro e w39 ⟨rfl, hb⟩; have n0_ := Aside0.mk (Kd.R_below (by (with_reducible repeat (first | apply Kd.R_alloc | apply Kd.R_drewN | apply Kd.R_drew)); exact HO_5.out) hb); have n1_ := Aside0.mk (Kd.R_below (by (with_reducible repeat (first | apply Kd.R_alloc | apply Kd.R_drewN | apply Kd.R_drew)); exact HO_8.out) hb); have n2_ := Aside0.mk (Kd.R_below (by (with_reducible repeat (first | apply Kd.R_alloc | apply Kd.R_drewN | apply Kd.R_drew)); exact HO_16.out) hb); have n3_ := Aside0.mk (blk_below (g := gb187) (o := .cells #[.int .i64 ((rd_T30 t178 x18_1).f0), .int .i64 ((rd_T30 t178 x18_1).f1)] 30 (0, 0)) (by (with_reducible repeat (first | refine blk_drewN ?_ _ | refine blk_drew ?_ | refine blk_alloc ?_ _)); exact BK187.out) hb); have n4_ := Aside0.mk (below_step (by repeat (first | (with_reducible first | exact HB.out | apply below_alloc | apply pw_below_drewN | apply below_drew1 | refine below_set ?_ GE187.out) | exact HB.out)) hb); clear HO_5; clear HO_8; clear HO_16; clear BK187; clear HB; have HO_5 := n0_; have HO_8 := n1_; have HO_16 := n2_; have BK187 := n3_; have HB := n4_; clear n0_ n1_ n2_ n3_ n4_; (try clear hb); (try clear hb2); (try clear hk); (try clear hi)))
                      go_roundg kj12
                      case measure => have := HK1.out; have := HJ12.out; omega
                      case rel => exact ⟨(wrap64 (x18_1 + 1)), (by first | rfl | (simp; done) | (simp [*]; done)), H', ⟨by have := HK1.out; have := HJ12.out; omega⟩, ⟨by (with_reducible repeat (first | apply Kd.R_alloc | apply Kd.R_drewN | apply Kd.R_drew)); exact Kd.R_mono HO_5.out (fun _ hk => trivial)⟩, ⟨by (with_reducible repeat (first | apply Kd.R_alloc | apply Kd.R_drewN | apply Kd.R_drew)); exact Kd.R_mono HO_16.out (fun _ hk => trivial)⟩, ⟨by repeat (first | (with_reducible first | exact HB.out | apply below_alloc | apply pw_below_drewN | apply below_drew1 | refine below_set ?_ GE187.out) | exact HB.out)⟩⟩
                · replace c25 := Bool.eq_false_iff.mpr c25
                  subst c25
                  have H1 : ((synoptickeep_In.f kj12 t182 ((rd_T30 t178 x18_1).f0)).bind fun t197 => (if (t197 != (decide ((t191.length : Int) > 0))) = true then (none) else ((limits_Gross.f ((rd_T30 t178 x18_1).f0) ((rd_T30 t178 x18_1).f1)).bind fun t198 => (if ((decide ((t191.length : Int) > 0)) == t198) = true then (none) else (synopticlaw14_LimitsAlone.l0 kj12 t182 t178 (t178.length : Int) (wrap64 (x18_1 + 1))))))) = some r := by rw [if_neg (show ¬ (false = true) by decide)] at H; exact H
                  clear H
                  have H := H1
                  clear H1
                  replace H := Option.bind_eq_some_iff.mp H
                  obtain ⟨t197, A400, H⟩ := H
                  replace H : (if (t197 != (decide ((t191.length : Int) > 0))) = true then (none) else ((limits_Gross.f ((rd_T30 t178 x18_1).f0) ((rd_T30 t178 x18_1).f1)).bind fun t198 => (if ((decide ((t191.length : Int) > 0)) == t198) = true then (none) else (synopticlaw14_LimitsAlone.l0 kj12 t182 t178 (t178.length : Int) (wrap64 (x18_1 + 1)))))) = some r := H
                  have A40 := Aside0.mk A400
                  clear A400
                  by_cases c41 : (t197 != (decide ((t191.length : Int) > 0))) = true
                  · rw [if_pos c41] at H
                    exact absurd H (by simp)
                  · rw [if_neg c41] at H
                    have c41b0 : (t197 != (decide ((t191.length : Int) > 0))) = false := by simpa using c41
                    (try (have c41b1 : decide (t197 = (decide ((t191.length : Int) > 0))) = true := by simpa using c41))
                    (try (have c41b2 : (t197 == (decide ((t191.length : Int) > 0))) = true := by simpa using c41))
                    clear c41
                    have e_c41 : t197 = decide (0 < t191.length) := by revert c41b0; rw [show decide ((t191.length : Int) > 0) = decide (0 < t191.length) from decide_eq_decide.2 (by omega)]; generalize decide (0 < t191.length) = q_; cases q_ <;> cases t197 <;> simp
                    replace H := Option.bind_eq_some_iff.mp H
                    obtain ⟨t198, A420, H⟩ := H
                    replace H : (if ((decide ((t191.length : Int) > 0)) == t198) = true then (none) else (synopticlaw14_LimitsAlone.l0 kj12 t182 t178 (t178.length : Int) (wrap64 (x18_1 + 1)))) = some r := H
                    have A42 := Aside0.mk A420
                    clear A420
                    by_cases c43 : ((decide ((t191.length : Int) > 0)) == t198) = true
                    · rw [if_pos c43] at H
                      exact absurd H (by simp)
                    · rw [if_neg c43] at H
                      have c43b0 : ((decide ((t191.length : Int) > 0)) == t198) = false := by simpa using c43
                      (try (have c43b1 : decide ((decide ((t191.length : Int) > 0)) = t198) = false := by simpa using c43))
                      (try (have c43b2 : ((decide ((t191.length : Int) > 0)) == t198) = false := by simpa using c43))
                      (try (have c43b3 : ¬ ((decide ((t191.length : Int) > 0)) = t198) := by simpa using c43))
                      clear c43
                      have e_c43 : t198 = !(decide (0 < t191.length)) := by revert c43b0; rw [show decide ((t191.length : Int) > 0) = decide (0 < t191.length) from decide_eq_decide.2 (by omega)]; generalize decide (0 < t191.length) = q_; cases q_ <;> cases t198 <;> simp
                      have H' := Aside0.mk H
                      clear H
                      have hcz44_0 : wc.cell? ⟨gb187, 0, none⟩ = some (.int .i64 ((rd_T30 t178 x18_1).f0)) := (blk_cell BK187.out 0).trans rfl
                      have hcz44_1 : wc.cell? ⟨gb187, 1, none⟩ = some (.int .i64 ((rd_T30 t178 x18_1).f1)) := (blk_cell BK187.out 1).trans rfl
                      have hfz44_0 := blk_frozen BK187.out 0
                      have hfz44_1 := blk_frozen BK187.out 1
                      obtain ⟨Ao45, co45, eo45⟩ := Kd.R_slice HO_5.out
                      subst eo45
                      go_wp2_with (first | (go_at_call 12; (with_reducible refine (synoptickeep_In.calls kj12 _ _ t182 ((rd_T30 t178 x18_1).f0) t197 _ ?side1 ?side2 A40.out).mono ?_); (case side1 => repeat (first | exact (Kd.R_reads' HO_5.out).2.2 | (with_reducible refine Kd.C_alloc ?_ _) | (with_reducible refine Kd.C_drewN ?_ _) | (with_reducible refine Kd.C_drew ?_))); (case side2 => exact (Kd.R_reads' HO_5.out).2.1); rintro e w' ⟨rfl, ⟨nd, rfl⟩⟩; obtain ⟨Ao46, co46, eo46⟩ := Kd.R_slice HO_8.out; subst eo46) | (go_at_call 16; (with_reducible refine (limits_Gross.calls ((rd_T30 t178 x18_1).f0) ((rd_T30 t178 x18_1).f1) t198 _ (laid_below HL.out (by repeat (first | (with_reducible first | exact HB.out | apply below_alloc | apply pw_below_drewN | apply below_drew1 | refine below_set ?_ GE187.out) | exact HB.out))) A42.out).mono ?_); rintro e w47 ⟨rfl, hb⟩; have n0_ := Aside0.mk (Kd.R_below (by (with_reducible repeat (first | apply Kd.R_alloc | apply Kd.R_drewN | apply Kd.R_drew)); exact HO_5.out) hb); have n1_ := Aside0.mk (Kd.R_below (by (with_reducible repeat (first | apply Kd.R_alloc | apply Kd.R_drewN | apply Kd.R_drew)); exact HO_8.out) hb); have n2_ := Aside0.mk (Kd.R_below (by (with_reducible repeat (first | apply Kd.R_alloc | apply Kd.R_drewN | apply Kd.R_drew)); exact HO_16.out) hb); have n3_ := Aside0.mk (blk_below (g := gb187) (o := .cells #[.int .i64 ((rd_T30 t178 x18_1).f0), .int .i64 ((rd_T30 t178 x18_1).f1)] 30 (0, 0)) (by (with_reducible repeat (first | refine blk_drewN ?_ _ | refine blk_drew ?_ | refine blk_alloc ?_ _)); exact BK187.out) hb); have n4_ := Aside0.mk (below_step (by repeat (first | (with_reducible first | exact HB.out | apply below_alloc | apply pw_below_drewN | apply below_drew1 | refine below_set ?_ GE187.out) | exact HB.out)) hb); clear HO_5; clear HO_8; clear HO_16; clear BK187; clear HB; have HO_5 := n0_; have HO_8 := n1_; have HO_16 := n2_; have BK187 := n3_; have HB := n4_; clear n0_ n1_ n2_ n3_ n4_; (try clear hb); (try clear hb2); (try clear hk); (try clear hi)))
                      go_roundg kj12
                      case measure => have := HK1.out; have := HJ12.out; omega
                      case rel => exact ⟨(wrap64 (x18_1 + 1)), (by first | rfl | (simp; done) | (simp [*]; done)), H', ⟨by have := HK1.out; have := HJ12.out; omega⟩, ⟨by (with_reducible repeat (first | apply Kd.R_alloc | apply Kd.R_drewN | apply Kd.R_drew)); exact Kd.R_mono HO_5.out (fun _ hk => trivial)⟩, ⟨by (with_reducible repeat (first | apply Kd.R_alloc | apply Kd.R_drewN | apply Kd.R_drew)); exact Kd.R_mono HO_16.out (fun _ hk => trivial)⟩, ⟨by repeat (first | (with_reducible first | exact HB.out | apply below_alloc | apply pw_below_drewN | apply below_drew1 | refine below_set ?_ GE187.out) | exact HB.out)⟩⟩
          · rw [if_neg c11] at H
            exact absurd H (by simp)
        · rw [if_neg c10] at H
          exact absurd H (by simp)
      · rw [if_neg c9] at H
        have c9b0 : decide (x18_1 < (t178.length : Int)) = false := decide_eq_false c9
        clear c9
        replace H := Option.bind_eq_some_iff.mp H
        obtain ⟨t185, A480, H⟩ := H
        replace H : (some t185) = some r := H
        have A48 := Aside0.mk A480
        clear A480
        obtain rfl := Option.some.inj H
        go_wp2_with (first | ((with_reducible refine gate_callee (f := 13) rfl ?_); refine goesL_ (some 69) rfl rfl Tryd.func13 (by kernel_rfl) rfl #[] rfl (by (try simp only [List.map_toArray, List.map_cons, List.map_nil]); first | done | rfl | (simp only [List.length_drop, List.length_take]; rfl)) ?_; (with_reducible refine (synopticlaw14_awake.calls k1  t185 _ (laid_below HL.out (by repeat (first | (with_reducible first | exact HB.out | apply below_alloc | apply pw_below_drewN | apply below_drew1) | exact HB.out))) A48.out).mono ?_); rintro e w49 ⟨rfl, hb⟩; refine ⟨_, rfl, ?_⟩; have n0_ := Aside0.mk (Kd.R_below (by (with_reducible repeat (first | apply Kd.R_alloc | apply Kd.R_drewN | apply Kd.R_drew)); exact HO_5.out) hb); have n1_ := Aside0.mk (Kd.R_below (by (with_reducible repeat (first | apply Kd.R_alloc | apply Kd.R_drewN | apply Kd.R_drew)); exact HO_16.out) hb); have n2_ := Aside0.mk (below_step (by repeat (first | (with_reducible first | exact HB.out | apply below_alloc | apply pw_below_drewN | apply below_drew1) | exact HB.out)) hb); clear HO_5; clear HO_16; clear HB; have HO_5 := n0_; have HO_16 := n1_; have HB := n2_; clear n0_ n1_ n2_; (try clear hb); (try clear hb2); (try clear hk); (try clear hi)))
        go_ret
        exact ⟨by first | rfl | (simp [errW_none, errW_some] <;> rfl) | (simp [*, errW_none, errW_some] <;> rfl), by repeat (first | (with_reducible first | exact HB.out | apply below_alloc | apply pw_below_drewN | apply below_drew1) | exact HB.out)⟩

/-- THE ONE PURE STATEMENT of synopticlaw14_LimitsAlone: yours. -/
def synopticlaw14_LimitsAlone.Pure : Prop := ∀ (l0 : List Int), l0.length ≤ maxLen → l0.length * 8 ≤ 140737488351232 → (∀ x ∈ l0, (Lit.int .i64 x).wf = true) → ∃ k, synopticlaw14_LimitsAlone.f k l0 = some true
theorem synopticlaw14_LimitsAlone.walk (P : synopticlaw14_LimitsAlone.Pure) (a0 : Option Addr) (len0 cap0 : Nat) (z0 : List Int) (w : World) (hL : Laid w) (w0 : (a0 = none ∧ len0 = 0 ∧ cap0 = 0 ∧ z0 = []) ∨ ∃ x, a0 = some x ∧ len0 ≤ cap0 ∧ cap0 ≤ maxLen ∧ z0.length = cap0 ∧ (∀ i, i < z0.length → w.cell? (x.add i) = some (.int .i64 (z0.getD i 0))) ∧ ∀ n ∈ z0, (Lit.int .i64 n).wf = true) (y0 : len0 * 8 ≤ 140737488351232) :
    Calls Tryd.prog 5 #[.slice a0 len0 cap0] w fun e w' => e = .returned (.bool true) ∧ Below w.heap.size w w' := by
  obtain ⟨l0, rfl, hr0, hm0, hw0, hc0⟩ := ReadsInt.ofRowC w0
  obtain ⟨k, h⟩ := P l0 hm0 y0 hw0
  refine (synopticlaw14_LimitsAlone.calls k _ _ l0 true w hL (Kd.C_of_reads (d := (0 : Int)) (h1 := fun _ => rfl) hr0) hc0 h).mono ?_
  rintro e w' ⟨rfl, hd⟩
  exact ⟨rfl, hd⟩

end Go.Proofs.YtbnkcajdgmbidaaDoor.B
