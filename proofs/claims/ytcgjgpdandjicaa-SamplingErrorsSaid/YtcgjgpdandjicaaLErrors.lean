/- Made by our program mkbase.py out of the printed functions of this seat: LErrors. -/
import Derived.Test.YtcgjgpdandjicaaB1
import Derived.Test.YtcgjgpdandjicaaBC
import Derived.Test.YtcgjgpdandjicaaBW
import Derived.Test.YtcgjgpdandjicaaExch
namespace Go.Proofs.Ytcgjgpdandjicaa.B
open Go.RowKit Go.Proofs.YtcgjgpdandjicaaW.PrintWords Go.Proofs.YtcgjgpdandjicaaW.PrintLast Go.Proofs.YtcgjgpdandjicaaW.PrintMore
attribute [local go_sem] max2_int min2_int max_two min_two max_three min_three max_four min_four   -- for this text's walks alone
set_option linter.unusedVariables false
set_option linter.unusedSimpArgs false

attribute [local go_sem high] eqA31 eqA90
/-! ### synopticlaw39_SamplingErrors: function 5 -/
mutual
def synopticlaw39_SamplingErrors.l0 : Nat → List Int → List Int → List Int → List Int → Int → List Int → Int → Option (Bool)
  | 0, _, _, _, _, _, _, _ => none
  | k + 1, x6, x7, x9, x10, x13, x144000, x144001 => if x13 > 0 then ((synopticfield_Codes_Next.f x144000 x144001 (wrap64 (x13 + 1))).bind fun bt150 => (if 0 ≤ x13 then (if x13 < (x9.length : Int) then (if 0 ≤ bt150.1 then (if bt150.1 < (x9.length : Int) then (synopticlaw39_SamplingErrors.l0 k x6 x7 ((x9.set (bt150.1 : Int).toNat (rd x9 x13)).set (x13 : Int).toNat (rd x9 bt150.1)) x10 (wrap64 (x13 - 1)) x144000 bt150.2) else (none)) else (none)) else (none)) else (none))) else (synopticlaw39_SamplingErrors.l1 k x6 x7 x9 x10 (wrap64 ((x10.length : Int) - 1)) x144000 x144001)
def synopticlaw39_SamplingErrors.l1 : Nat → List Int → List Int → List Int → List Int → Int → List Int → Int → Option (Bool)
  | 0, _, _, _, _, _, _, _ => none
  | k + 1, x6, x7, x9, x10, x13, x144000, x144001 => if x13 > 0 then ((synopticfield_Codes_Next.f x144000 x144001 (wrap64 (x13 + 1))).bind fun bt156 => (if 0 ≤ x13 then (if x13 < (x10.length : Int) then (if 0 ≤ bt156.1 then (if bt156.1 < (x10.length : Int) then (synopticlaw39_SamplingErrors.l1 k x6 x7 x9 ((x10.set (bt156.1 : Int).toNat (rd x10 x13)).set (x13 : Int).toNat (rd x10 bt156.1)) (wrap64 (x13 - 1)) x144000 bt156.2) else (none)) else (none)) else (none)) else (none))) else (synopticlaw39_SamplingErrors.l2 k x6 x7 x9 x10 ([] : List Int) x6 (x6.length : Int) 0)
def synopticlaw39_SamplingErrors.l2 : Nat → List Int → List Int → List Int → List Int → List Int → List Int → Int → Int → Option (Bool)
  | 0, _, _, _, _, _, _, _, _ => none
  | k + 1, x6, x7, x9, x10, x15, x76, x77, x78 => if x78 < x77 then (if 0 ≤ x78 then (if x78 < (x76.length : Int) then (if x15.length < 17592186044416 then (synopticlaw39_SamplingErrors.l2 k x6 x7 x9 x10 (x15 ++ [wrap64 (-(rd x76 x78))]) x76 x77 (wrap64 (x78 + 1))) else (none)) else (none)) else (none)) else ((sampling_Signs.f x6).bind fun bt166 => ((sampling_Signs.f x9).bind fun bt170 => ((sampling_Signs.f x15).bind fun bt174 => ((sampling_Exchange.f x6 x7).bind fun bt178 => ((sampling_Exchange.f x9 x10).bind fun bt182 => (if bt166.2.2 = 0 then (if bt170.2.2 = 0 then (if bt174.2.2 = 0 then (if bt178.2.2 = 0 then (if bt182.2.2 = 0 then (if (bt166.1 == bt170.1 && (bt166.2.1 == bt170.2.1)) = true then (if (bt170.1 == bt174.1 && (bt170.2.1 == bt174.2.1)) = true then (some (bt178.1 == bt182.1 && (bt178.2.1 == bt182.2.1))) else (none)) else (none)) else (none)) else (none)) else (none)) else (none)) else (none)))))))
end
def synopticlaw39_SamplingErrors.f (k : Nat) (l0 : List Int) (l1 : List Int) : Option (Bool) := (synopticlaw39_awake.f).bind fun t129 => (if t129 = true then ((synopticfield_New.f l0 80).bind fun bt130 => ((synopticlaw39_sample.f k bt130.1 bt130.2 5).bind fun bt133 => ((synopticlaw39_sample.f k bt130.1 bt133.2 5).bind fun bt137 => ((synopticfield_New.f l1 20).bind fun bt141 => (if ([] : List Int).length + bt133.1.length < 17592186044416 then ((some (([] : List Int) ++ bt133.1 : List Int)).bind fun y144 => (if ([] : List Int).length + bt137.1.length < 17592186044416 then (synopticlaw39_SamplingErrors.l0 k bt133.1 bt137.1 y144 (([] : List Int) ++ bt137.1) (wrap64 ((y144.length : Int) - 1)) bt141.1 bt141.2) else (none))) else (none)))))) else (none))
theorem synopticlaw39_SamplingErrors.mono_l : ∀ k, (∀ y0 y1 y2 y3 y4 y5 y6, LeO (synopticlaw39_SamplingErrors.l0 k y0 y1 y2 y3 y4 y5 y6) (synopticlaw39_SamplingErrors.l0 (k + 1) y0 y1 y2 y3 y4 y5 y6)) ∧ (∀ y0 y1 y2 y3 y4 y5 y6, LeO (synopticlaw39_SamplingErrors.l1 k y0 y1 y2 y3 y4 y5 y6) (synopticlaw39_SamplingErrors.l1 (k + 1) y0 y1 y2 y3 y4 y5 y6)) ∧ (∀ y0 y1 y2 y3 y4 y5 y6 y7, LeO (synopticlaw39_SamplingErrors.l2 k y0 y1 y2 y3 y4 y5 y6 y7) (synopticlaw39_SamplingErrors.l2 (k + 1) y0 y1 y2 y3 y4 y5 y6 y7))
  | 0 => ⟨fun _ _ _ _ _ _ _ r h => by simp [synopticlaw39_SamplingErrors.l0] at h, fun _ _ _ _ _ _ _ r h => by simp [synopticlaw39_SamplingErrors.l1] at h, fun _ _ _ _ _ _ _ _ r h => by simp [synopticlaw39_SamplingErrors.l2] at h⟩
  | k + 1 => by
    obtain ⟨ih0, ih1, ih2⟩ := synopticlaw39_SamplingErrors.mono_l k
    refine ⟨?_, ?_, ?_⟩
    · intro y0 y1 y2 y3 y4 y5 y6
      unfold synopticlaw39_SamplingErrors.l0
      repeat' first
      | (with_reducible exact ih0 _ _ _ _ _ _ _)
      | (with_reducible exact ih1 _ _ _ _ _ _ _)
      | (with_reducible exact ih2 _ _ _ _ _ _ _ _)
      | (with_reducible exact synopticlaw39_sample.mono _ _ _ _)
      | (with_reducible exact LeO.refl _)
      | (with_reducible exact LeO.none _)
      | (with_reducible refine LeO.ite ?_ ?_)
      | (with_reducible refine LeO.bind ?_ (fun _ => ?_))
      | exact ih0 _ _ _ _ _ _ _
      | exact ih1 _ _ _ _ _ _ _
      | exact ih2 _ _ _ _ _ _ _ _
      | exact synopticlaw39_sample.mono _ _ _ _
      | exact LeO.none _
      | refine LeO.ite ?_ ?_
      | refine LeO.bind ?_ (fun _ => ?_)
    · intro y0 y1 y2 y3 y4 y5 y6
      unfold synopticlaw39_SamplingErrors.l1
      repeat' first
      | (with_reducible exact ih0 _ _ _ _ _ _ _)
      | (with_reducible exact ih1 _ _ _ _ _ _ _)
      | (with_reducible exact ih2 _ _ _ _ _ _ _ _)
      | (with_reducible exact synopticlaw39_sample.mono _ _ _ _)
      | (with_reducible exact LeO.refl _)
      | (with_reducible exact LeO.none _)
      | (with_reducible refine LeO.ite ?_ ?_)
      | (with_reducible refine LeO.bind ?_ (fun _ => ?_))
      | exact ih0 _ _ _ _ _ _ _
      | exact ih1 _ _ _ _ _ _ _
      | exact ih2 _ _ _ _ _ _ _ _
      | exact synopticlaw39_sample.mono _ _ _ _
      | exact LeO.none _
      | refine LeO.ite ?_ ?_
      | refine LeO.bind ?_ (fun _ => ?_)
    · intro y0 y1 y2 y3 y4 y5 y6 y7
      unfold synopticlaw39_SamplingErrors.l2
      repeat' first
      | (with_reducible exact ih0 _ _ _ _ _ _ _)
      | (with_reducible exact ih1 _ _ _ _ _ _ _)
      | (with_reducible exact ih2 _ _ _ _ _ _ _ _)
      | (with_reducible exact synopticlaw39_sample.mono _ _ _ _)
      | (with_reducible exact LeO.refl _)
      | (with_reducible exact LeO.none _)
      | (with_reducible refine LeO.ite ?_ ?_)
      | (with_reducible refine LeO.bind ?_ (fun _ => ?_))
      | exact ih0 _ _ _ _ _ _ _
      | exact ih1 _ _ _ _ _ _ _
      | exact ih2 _ _ _ _ _ _ _ _
      | exact synopticlaw39_sample.mono _ _ _ _
      | exact LeO.none _
      | refine LeO.ite ?_ ?_
      | refine LeO.bind ?_ (fun _ => ?_)
theorem synopticlaw39_SamplingErrors.mono : ∀ a0 a1 k, LeO (synopticlaw39_SamplingErrors.f k a0 a1) (synopticlaw39_SamplingErrors.f (k + 1) a0 a1) := by
  intro a0 a1 k
  obtain ⟨ih0, ih1, ih2⟩ := synopticlaw39_SamplingErrors.mono_l k
  unfold synopticlaw39_SamplingErrors.f
  repeat' first
      | (with_reducible exact ih0 _ _ _ _ _ _ _)
      | (with_reducible exact ih1 _ _ _ _ _ _ _)
      | (with_reducible exact ih2 _ _ _ _ _ _ _ _)
      | (with_reducible exact synopticlaw39_sample.mono _ _ _ _)
      | (with_reducible exact LeO.refl _)
      | (with_reducible exact LeO.none _)
      | (with_reducible refine LeO.ite ?_ ?_)
      | (with_reducible refine LeO.bind ?_ (fun _ => ?_))
      | exact ih0 _ _ _ _ _ _ _
      | exact ih1 _ _ _ _ _ _ _
      | exact ih2 _ _ _ _ _ _ _ _
      | exact synopticlaw39_sample.mono _ _ _ _
      | exact LeO.none _
      | refine LeO.ite ?_ ?_
      | refine LeO.bind ?_ (fun _ => ?_)
def synopticlaw39_SamplingErrors.T114 : Bool × List (List Nat × List Nat) := (true, [([], []), ([], []), ([], []), ([], []), ([], []), ([], []), ([4, 5], [4, 5]), ([6], [6]), ([], []), ([], []), ([8, 9], [8, 9]), ([10], [10]), ([0, 1, 0, 1, 4, 5, 6, 7, 11], [0, 1]), ([12, 7, 0, 1, 4, 5, 6, 7, 11], [7, 12]), ([2, 3, 0, 1, 2, 3, 4, 5, 6, 7, 8, 9, 10, 11, 12, 13], [2, 3]), ([14, 11, 13, 0, 1, 2, 3, 4, 5, 6, 7, 8, 9, 10, 11, 12, 13], [11, 14])])
def synopticlaw39_SamplingErrors.B114 : List Nat := [0, 0, 0, 0, 0, 0, 48, 112, 0, 0, 768, 1792, 4083, 8179, 16383, 32767]
theorem synopticlaw39_SamplingErrors.tab114 : rtab .any (opsOf Try.f5 14) = synopticlaw39_SamplingErrors.T114 := by kernel_rfl
theorem synopticlaw39_SamplingErrors.bits114 : waitsOk synopticlaw39_SamplingErrors.T114.2 synopticlaw39_SamplingErrors.B114 = true := by kernel_rfl
set_option maxHeartbeats 8000000 in
set_option maxRecDepth 100000 in
theorem synopticlaw39_SamplingErrors.calls (k : Nat) (A0 : Option Addr) (c0 : Nat) (l0 : List Int) (A1 : Option Addr) (c1 : Nat) (l1 : List Int) (r : Bool) (w : World) (hr0 : Kd.C (Kd.int .u8) w A0 l0.length l0) (hc0 : l0.length ≤ c0) (hr1 : Kd.C (Kd.int .u8) w A1 l1.length l1) (hc1 : l1.length ≤ c1) (h : synopticlaw39_SamplingErrors.f k l0 l1 = some r) :
    Calls Try.prog 5 #[.slice A0 l0.length c0, .slice A1 l1.length c1] w fun e w' => e = .returned (.bool r) ∧ Below w.heap.size w w' := by
  have hu31 := Try.underlying31
  have HR0 := Aside0.mk hr0
  have HC0 := Aside0.mk hc0
  clear hr0 hc0
  have HR1 := Aside0.mk hr1
  have HC1 := Aside0.mk hc1
  clear hr1 hc1
  have HB := Aside0.mk (Below.refl w.heap.size w)
  have H : ((synopticlaw39_awake.f).bind fun t129 => (if t129 = true then ((synopticfield_New.f l0 80).bind fun bt130 => ((synopticlaw39_sample.f k bt130.1 bt130.2 5).bind fun bt133 => ((synopticlaw39_sample.f k bt130.1 bt133.2 5).bind fun bt137 => ((synopticfield_New.f l1 20).bind fun bt141 => (if ([] : List Int).length + bt133.1.length < 17592186044416 then ((some (([] : List Int) ++ bt133.1 : List Int)).bind fun y144 => (if ([] : List Int).length + bt137.1.length < 17592186044416 then (synopticlaw39_SamplingErrors.l0 k bt133.1 bt137.1 y144 (([] : List Int) ++ bt137.1) (wrap64 ((y144.length : Int) - 1)) bt141.1 bt141.2) else (none))) else (none)))))) else (none))) = some r := h
  clear h
  replace H := Option.bind_eq_some_iff.mp H
  obtain ⟨t129, A30, H⟩ := H
  replace H : (if t129 = true then ((synopticfield_New.f l0 80).bind fun bt130 => ((synopticlaw39_sample.f k bt130.1 bt130.2 5).bind fun bt133 => ((synopticlaw39_sample.f k bt130.1 bt133.2 5).bind fun bt137 => ((synopticfield_New.f l1 20).bind fun bt141 => (if ([] : List Int).length + bt133.1.length < 17592186044416 then ((some (([] : List Int) ++ bt133.1 : List Int)).bind fun y144 => (if ([] : List Int).length + bt137.1.length < 17592186044416 then (synopticlaw39_SamplingErrors.l0 k bt133.1 bt137.1 y144 (([] : List Int) ++ bt137.1) (wrap64 ((y144.length : Int) - 1)) bt141.1 bt141.2) else (none))) else (none)))))) else (none)) = some r := H
  have A3 := Aside0.mk A30
  clear A30
  by_cases c4 : t129 = true
  · subst c4
    have H1 : ((synopticfield_New.f l0 80).bind fun bt130 => ((synopticlaw39_sample.f k bt130.1 bt130.2 5).bind fun bt133 => ((synopticlaw39_sample.f k bt130.1 bt133.2 5).bind fun bt137 => ((synopticfield_New.f l1 20).bind fun bt141 => (if ([] : List Int).length + bt133.1.length < 17592186044416 then ((some (([] : List Int) ++ bt133.1 : List Int)).bind fun y144 => (if ([] : List Int).length + bt137.1.length < 17592186044416 then (synopticlaw39_SamplingErrors.l0 k bt133.1 bt137.1 y144 (([] : List Int) ++ bt137.1) (wrap64 ((y144.length : Int) - 1)) bt141.1 bt141.2) else (none))) else (none)))))) = some r := by rw [if_pos rfl] at H; exact H
    clear H
    have H := H1
    clear H1
    replace H := Option.bind_eq_some_iff.mp H
    obtain ⟨⟨t130, t131⟩, A50, H⟩ := H
    replace H : ((synopticlaw39_sample.f k t130 t131 5).bind fun bt133 => ((synopticlaw39_sample.f k t130 bt133.2 5).bind fun bt137 => ((synopticfield_New.f l1 20).bind fun bt141 => (if ([] : List Int).length + bt133.1.length < 17592186044416 then ((some (([] : List Int) ++ bt133.1 : List Int)).bind fun y144 => (if ([] : List Int).length + bt137.1.length < 17592186044416 then (synopticlaw39_SamplingErrors.l0 k bt133.1 bt137.1 y144 (([] : List Int) ++ bt137.1) (wrap64 ((y144.length : Int) - 1)) bt141.1 bt141.2) else (none))) else (none))))) = some r := H
    have A5 := Aside0.mk A50
    clear A50
    replace H := Option.bind_eq_some_iff.mp H
    obtain ⟨⟨t133, t136⟩, A60, H⟩ := H
    replace H : ((synopticlaw39_sample.f k t130 t136 5).bind fun bt137 => ((synopticfield_New.f l1 20).bind fun bt141 => (if ([] : List Int).length + t133.length < 17592186044416 then ((some (([] : List Int) ++ t133 : List Int)).bind fun y144 => (if ([] : List Int).length + bt137.1.length < 17592186044416 then (synopticlaw39_SamplingErrors.l0 k t133 bt137.1 y144 (([] : List Int) ++ bt137.1) (wrap64 ((y144.length : Int) - 1)) bt141.1 bt141.2) else (none))) else (none)))) = some r := H
    have A6 := Aside0.mk A60
    clear A60
    replace H := Option.bind_eq_some_iff.mp H
    obtain ⟨⟨t137, t140⟩, A70, H⟩ := H
    replace H : ((synopticfield_New.f l1 20).bind fun bt141 => (if ([] : List Int).length + t133.length < 17592186044416 then ((some (([] : List Int) ++ t133 : List Int)).bind fun y144 => (if ([] : List Int).length + t137.length < 17592186044416 then (synopticlaw39_SamplingErrors.l0 k t133 t137 y144 (([] : List Int) ++ t137) (wrap64 ((y144.length : Int) - 1)) bt141.1 bt141.2) else (none))) else (none))) = some r := H
    have A7 := Aside0.mk A70
    clear A70
    replace H := Option.bind_eq_some_iff.mp H
    obtain ⟨⟨t141, t142⟩, A80, H⟩ := H
    replace H : (if ([] : List Int).length + t133.length < 17592186044416 then ((some (([] : List Int) ++ t133 : List Int)).bind fun y144 => (if ([] : List Int).length + t137.length < 17592186044416 then (synopticlaw39_SamplingErrors.l0 k t133 t137 y144 (([] : List Int) ++ t137) (wrap64 ((y144.length : Int) - 1)) t141 t142) else (none))) else (none)) = some r := H
    have A8 := Aside0.mk A80
    clear A80
    by_cases c9 : ([] : List Int).length + t133.length < 17592186044416
    · rw [if_pos c9] at H
      have LMc9 := Aside0.mk c9
      clear c9
      obtain ⟨y144, hy144⟩ : ∃ y_ : List Int, y_ = (([] : List Int) ++ t133) := ⟨_, rfl⟩
      replace H : (if ([] : List Int).length + t137.length < 17592186044416 then (synopticlaw39_SamplingErrors.l0 k t133 t137 y144 (([] : List Int) ++ t137) (wrap64 ((y144.length : Int) - 1)) t141 t142) else (none)) = some r := by first | (rw [hy144]; with_reducible exact H) | (have H2_ := (Option.bind_some _ _).symm.trans H; rw [hy144]; with_reducible exact H2_) | (have H2_ := (Option.bind_some _ _).symm.trans H; with_reducible exact H2_) | with_reducible exact H | (rw [hy144]; exact H) | exact H
      have Ny144 := Aside0.mk hy144
      clear hy144
      by_cases c10 : ([] : List Int).length + t137.length < 17592186044416
      · rw [if_pos c10] at H
        have LMc10 := Aside0.mk c10
        clear c10
        obtain ⟨y147, hy147⟩ : ∃ y_ : List Int, y_ = (([] : List Int) ++ t137) := ⟨_, rfl⟩
        replace H : (synopticlaw39_SamplingErrors.l0 k t133 t137 y144 y147 (wrap64 ((y144.length : Int) - 1)) t141 t142) = some r := by first | (rw [hy147]; with_reducible exact H) | (have H2_ := (Option.bind_some _ _).symm.trans H; rw [hy147]; with_reducible exact H2_) | (have H2_ := (Option.bind_some _ _).symm.trans H; with_reducible exact H2_) | with_reducible exact H | (rw [hy147]; exact H) | exact H
        have Ny147 := Aside0.mk hy147
        clear hy147
        have H' := Aside0.mk H
        clear H
        go_enter Try.func5, Try.ntmps5
        go_wp2_with (first | ((with_reducible refine gate_callee (f := 9) rfl ?_); refine goesL_ (some 28) rfl rfl Try.func9 (by kernel_rfl) rfl #[] rfl (by (try simp only [List.map_toArray, List.map_cons, List.map_nil]); first | done | rfl | (simp only [List.length_drop, List.length_take]; rfl)) ?_; (with_reducible refine (synopticlaw39_awake.calls  true _ A3.out).mono ?_); rintro e w11 ⟨rfl, hb⟩; refine ⟨_, rfl, ?_⟩; have n0_ := Aside0.mk (below_step (by repeat (first | (with_reducible first | exact HB.out | apply below_alloc | apply pw_below_drewN | apply below_drew1) | exact HB.out)) hb); clear HB; have HB := n0_; clear n0_; (try clear hb); (try clear hb2); (try clear hk); (try clear hi)) | ((with_reducible refine gate_callee (f := 11) rfl ?_); refine goesL_ (some 31) rfl rfl Try.func11 (by kernel_rfl) rfl #[.slice A0 l0.length c0, .int .i64 80] rfl (by (try simp only [List.map_toArray, List.map_cons, List.map_nil]); first | done | rfl | (simp only [List.length_drop, List.length_take]; rfl)) ?_; (with_reducible refine (synopticfield_New.calls _ _ l0 80 t130 t131 w _ ?side1 ?side2 ?side3 A5.out).mono ?_); (case side1 => repeat (first | (with_reducible first | exact HB.out | apply below_alloc | apply pw_below_drewN | apply below_drew1) | exact HB.out)); (case side2 => exact HR0.out); (case side3 => exact HC0.out); rintro e w12 ⟨g132, rfl, hi, hb, hb2⟩; refine ⟨_, rfl, ?_⟩; have n0_ := Aside0.mk (hb); have n1_ := Aside0.mk (hi); clear HB; have HB := n0_; have HI132 := n1_; clear n0_ n1_; (try clear hb); (try clear hb2); (try clear hk); (try clear hi)) | ((with_reducible refine gate_callee (f := 10) rfl ?_); refine goesL_ (some 33) rfl rfl Try.func10 (by kernel_rfl) rfl #[.pointer (some ⟨g132, 0, none⟩), .int .i64 5] rfl (by (try simp only [List.map_toArray, List.map_cons, List.map_nil]); first | done | rfl | (simp only [List.length_drop, List.length_take]; rfl)) ?_; (with_reducible refine (synopticlaw39_sample.calls k g132 t130 t131 5 t133 t136 w _ ?side1 ?side2 A6.out).mono ?_); (case side1 => repeat (first | (with_reducible first | exact HI132.out | apply IsS59.alloc | apply IsS59.drewN | apply IsS59.drew | apply IsS59.set_1) | exact HI132.out)); (case side2 => repeat (first | (with_reducible first | exact HB.out | apply below_alloc | apply pw_below_drewN | apply below_drew1 | refine below_set ?_ (IsS59.ge HI132.out)) | exact HB.out)); rintro e w13 ⟨v134, rfl, ho0, hi, hb, hk⟩; refine ⟨_, rfl, ?_⟩; have n0_ := Aside0.mk (Kd.R_lower ho0 (below_size (by repeat (first | (with_reducible first | exact HB.out | apply below_alloc | apply pw_below_drewN | apply below_drew1 | refine below_set ?_ (IsS59.ge HI132.out)) | exact HB.out)))); have n1_ := Aside0.mk (hb); have n2_ := Aside0.mk (hi); clear HB; clear HI132; have HO135 := n0_; have HB := n1_; have HI132 := n2_; clear n0_ n1_ n2_; (try clear hb); (try clear hb2); (try clear hk); (try clear hi); (try clear ho0)) | ((with_reducible refine gate_callee (f := 10) rfl ?_); refine goesL_ (some 35) rfl rfl Try.func10 (by kernel_rfl) rfl #[.pointer (some ⟨g132, 0, none⟩), .int .i64 5] rfl (by (try simp only [List.map_toArray, List.map_cons, List.map_nil]); first | done | rfl | (simp only [List.length_drop, List.length_take]; rfl)) ?_; (with_reducible refine (synopticlaw39_sample.calls k g132 t130 t136 5 t137 t140 w _ ?side1 ?side2 A7.out).mono ?_); (case side1 => repeat (first | (with_reducible first | exact HI132.out | apply IsS59.alloc | apply IsS59.drewN | apply IsS59.drew | apply IsS59.set_1) | exact HI132.out)); (case side2 => repeat (first | (with_reducible first | exact HB.out | apply below_alloc | apply pw_below_drewN | apply below_drew1 | refine below_set ?_ (IsS59.ge HI132.out)) | exact HB.out)); rintro e w14 ⟨v138, rfl, ho0, hi, hb, hk⟩; refine ⟨_, rfl, ?_⟩; have n0_ := Aside0.mk (Kd.R_mono (Kd.R_told (Kd.R_oldK (IsS59.apart (show IsS59 w _ g132 t130 t136 from by repeat (first | (with_reducible first | exact HI132.out | apply IsS59.alloc | apply IsS59.drewN | apply IsS59.drew | apply IsS59.set_1) | exact HI132.out)) (by (with_reducible repeat (first | apply Kd.R_alloc | apply Kd.R_drewN | apply Kd.R_drew)); exact HO135.out) (by decide)) hk) (Kd.R_base ho0)) (fun _ h_ => h_.1)); have n1_ := Aside0.mk (Kd.R_lower (Kd.R_new' ho0 (Kd.R_lt (by (with_reducible repeat (first | apply Kd.R_alloc | apply Kd.R_drewN | apply Kd.R_drew)); exact HO135.out))) (below_size (by repeat (first | (with_reducible first | exact HB.out | apply below_alloc | apply pw_below_drewN | apply below_drew1 | refine below_set ?_ (IsS59.ge HI132.out)) | exact HB.out)))); have n2_ := Aside0.mk (hb); have n3_ := Aside0.mk (hi); clear HO135; clear HB; clear HI132; have HO135 := n0_; have HO139 := n1_; have HB := n2_; have HI132 := n3_; clear n0_ n1_ n2_ n3_; (try clear hb); (try clear hb2); (try clear hk); (try clear hi); (try clear ho0)) | ((with_reducible refine gate_callee (f := 11) rfl ?_); refine goesL_ (some 37) rfl rfl Try.func11 (by kernel_rfl) rfl #[.slice A1 l1.length c1, .int .i64 20] rfl (by (try simp only [List.map_toArray, List.map_cons, List.map_nil]); first | done | rfl | (simp only [List.length_drop, List.length_take]; rfl)) ?_; (with_reducible refine (synopticfield_New.calls _ _ l1 20 t141 t142 w _ ?side1 ?side2 ?side3 A8.out).mono ?_); (case side1 => repeat (first | (with_reducible first | exact HB.out | apply below_alloc | apply pw_below_drewN | apply below_drew1 | refine below_set ?_ (IsS59.ge HI132.out)) | exact HB.out)); (case side2 => exact HR1.out); (case side3 => exact HC1.out); rintro e w15 ⟨g143, rfl, hi, hb, hb2⟩; refine ⟨_, rfl, ?_⟩; have n0_ := Aside0.mk (Kd.R_below (by (with_reducible repeat (first | apply Kd.R_alloc | apply Kd.R_drewN | apply Kd.R_drew)); exact HO135.out) hb2); have n1_ := Aside0.mk (Kd.R_below (by (with_reducible repeat (first | apply Kd.R_alloc | apply Kd.R_drewN | apply Kd.R_drew)); exact HO139.out) hb2); have n2_ := Aside0.mk (hb); have n3_ := Aside0.mk (hi); clear HO135; clear HO139; clear HB; have HO135 := n0_; have HO139 := n1_; have HB := n2_; have HI143 := n3_; clear n0_ n1_ n2_ n3_; (try clear hb); (try clear hb2); (try clear hk); (try clear hi); obtain ⟨Ao17, co17, eo17⟩ := Kd.R_slice HO135.out; subst eo17) | ((with_reducible refine gate_builtin (b := .append) (xs := #[.const (.slice none 0 0), .tmp 38]) rfl ?_); at_builtin; refine Kd.R_append_rows (Kd.int .i64) (w0 := w) w.heap.size rfl (.const (.slice none 0 0)) (.tmp 38) 24 3 (.int .i64 0) 8 rfl Try.underlying24 info3 rfl (by decide) (by omega) (.slice none 0 0) ([] : List Int) t133 _ _ _ (fun k_ => some k_ ≠ (.slice Ao17 t133.length co17 : Value).ownBlock ∧ some k_ ≠ (v138 : Value).ownBlock) (fun _ => False) rfl rfl ?aO ?aR (fun _ _ h => h) (fun _ h => h.elim) ?aF ?aB ?aS ?aL ?_; (case aR => repeat (first | exact (Kd.R_reads' HO135.out).2.2 | (with_reducible refine Kd.C_alloc ?_ _) | (with_reducible refine Kd.C_drewN ?_ _) | (with_reducible refine Kd.C_drew ?_))); (case aB => exact (by repeat (first | (with_reducible first | exact HB.out | apply below_alloc | apply pw_below_drewN | apply below_drew1 | refine below_set ?_ (IsS59.ge HI143.out)) | exact HB.out))); (case aF => exact (fun k_ hk => ⟨Kd.fresh' (Kd.R_lt (by (with_reducible repeat (first | apply Kd.R_alloc | apply Kd.R_drewN | apply Kd.R_drew)); exact HO135.out)) k_ hk, Kd.fresh' (Kd.R_lt (by (with_reducible repeat (first | apply Kd.R_alloc | apply Kd.R_drewN | apply Kd.R_drew)); exact HO139.out)) k_ hk⟩)); (case aO => exact ((Kd.R_nil _ _ _ _ (fun k_ => some k_ ≠ (.slice Ao17 t133.length co17 : Value).ownBlock ∧ some k_ ≠ (v138 : Value).ownBlock)))); (case aS => exact (below_size (by repeat (first | (with_reducible first | exact HB.out | apply below_alloc | apply pw_below_drewN | apply below_drew1 | refine below_set ?_ (IsS59.ge HI143.out)) | exact HB.out)))); (case aL => have := LMc9.out; omega); intro v145 w16 ho hb hg hat; rw [← Ny144.out] at ho; have n0_ := Aside0.mk (Kd.R_after (Kd.R_apart_nil (by (with_reducible repeat (first | apply Kd.R_alloc | apply Kd.R_drewN | apply Kd.R_drew)); exact HO135.out)) hg hat); have n1_ := Aside0.mk (Kd.R_after (Kd.R_apart_nil (by (with_reducible repeat (first | apply Kd.R_alloc | apply Kd.R_drewN | apply Kd.R_drew)); exact HO139.out)) hg hat); have n2_ := Aside0.mk (IsS59.grown (by repeat (first | (with_reducible first | exact HI143.out | apply IsS59.alloc | apply IsS59.drewN | apply IsS59.drew | apply IsS59.set_1) | exact HI143.out)) hg (by simp [Value.ownBlock])); have n3_ := Aside0.mk (hb); have n4_ := Aside0.mk (ho); clear HO135; clear HO139; clear HI143; clear HB; have HO135 := n0_; have HO139 := n1_; have HI143 := n2_; have HB := n3_; have HO146 := n4_; clear n0_ n1_ n2_ n3_ n4_; clear ho hb hg hat; obtain ⟨Ao19, co19, eo19⟩ := Kd.R_slice HO139.out; subst eo19) | ((with_reducible refine gate_builtin (b := .append) (xs := #[.const (.slice none 0 0), .tmp 40]) rfl ?_); at_builtin; refine Kd.R_append_rows (Kd.int .i64) (w0 := w) w.heap.size rfl (.const (.slice none 0 0)) (.tmp 40) 24 3 (.int .i64 0) 8 rfl Try.underlying24 info3 rfl (by decide) (by omega) (.slice none 0 0) ([] : List Int) t137 _ _ _ (fun k_ => some k_ ≠ (.slice Ao17 t133.length co17 : Value).ownBlock ∧ some k_ ≠ (.slice Ao19 t137.length co19 : Value).ownBlock ∧ some k_ ≠ (v145 : Value).ownBlock) (fun _ => False) rfl rfl ?aO ?aR (fun _ _ h => h) (fun _ h => h.elim) ?aF ?aB ?aS ?aL ?_; (case aR => repeat (first | exact (Kd.R_reads' HO139.out).2.2 | (with_reducible refine Kd.C_alloc ?_ _) | (with_reducible refine Kd.C_drewN ?_ _) | (with_reducible refine Kd.C_drew ?_))); (case aB => exact (by repeat (first | (with_reducible first | exact HB.out | apply below_alloc | apply pw_below_drewN | apply below_drew1 | refine below_set ?_ (IsS59.ge HI143.out)) | exact HB.out))); (case aF => exact (fun k_ hk => ⟨Kd.fresh' (Kd.R_lt (by (with_reducible repeat (first | apply Kd.R_alloc | apply Kd.R_drewN | apply Kd.R_drew)); exact HO135.out)) k_ hk, Kd.fresh' (Kd.R_lt (by (with_reducible repeat (first | apply Kd.R_alloc | apply Kd.R_drewN | apply Kd.R_drew)); exact HO139.out)) k_ hk, Kd.fresh' (Kd.R_lt (by (with_reducible repeat (first | apply Kd.R_alloc | apply Kd.R_drewN | apply Kd.R_drew)); exact HO146.out)) k_ hk⟩)); (case aO => exact ((Kd.R_nil _ _ _ _ (fun k_ => some k_ ≠ (.slice Ao17 t133.length co17 : Value).ownBlock ∧ some k_ ≠ (.slice Ao19 t137.length co19 : Value).ownBlock ∧ some k_ ≠ (v145 : Value).ownBlock)))); (case aS => exact (below_size (by repeat (first | (with_reducible first | exact HB.out | apply below_alloc | apply pw_below_drewN | apply below_drew1 | refine below_set ?_ (IsS59.ge HI143.out)) | exact HB.out)))); (case aL => have := LMc10.out; omega); intro v148 w18 ho hb hg hat; rw [← Ny147.out] at ho; have n0_ := Aside0.mk (Kd.R_after (Kd.R_apart_nil (by (with_reducible repeat (first | apply Kd.R_alloc | apply Kd.R_drewN | apply Kd.R_drew)); exact HO135.out)) hg hat); have n1_ := Aside0.mk (Kd.R_after (Kd.R_apart_nil (by (with_reducible repeat (first | apply Kd.R_alloc | apply Kd.R_drewN | apply Kd.R_drew)); exact HO139.out)) hg hat); have n2_ := Aside0.mk (IsS59.grown (by repeat (first | (with_reducible first | exact HI143.out | apply IsS59.alloc | apply IsS59.drewN | apply IsS59.drew | apply IsS59.set_1) | exact HI143.out)) hg (by simp [Value.ownBlock])); have n3_ := Aside0.mk (Kd.R_after (Kd.R_apart_nil (by (with_reducible repeat (first | apply Kd.R_alloc | apply Kd.R_drewN | apply Kd.R_drew)); exact HO146.out)) hg hat); have n4_ := Aside0.mk (hb); have n5_ := Aside0.mk (ho); clear HO135; clear HO139; clear HI143; clear HO146; clear HB; have HO135 := n0_; have HO139 := n1_; have HI143 := n2_; have HO146 := n3_; have HB := n4_; have HO149 := n5_; clear n0_ n1_ n2_ n3_ n4_ n5_; clear ho hb hg hat; obtain ⟨Ao20, co20, eo20⟩ := Kd.R_slice HO146.out; subst eo20; obtain ⟨Ao33, co33, eo33⟩ := Kd.R_slice HO149.out; subst eo33))
        try clear HL_
        obtain ⟨gB, hgB⟩ : ∃ g : Nat, g = w18.heap.size := ⟨_, rfl⟩
        have HGB := Aside0.mk (show gB ≠ g143 from by rw [hgB]; exact (IsS59.fresh HI143.out) _ (Nat.le_refl _))
        have HGM := Aside0.mk (show some gB ≠ ((.slice Ao20 y144.length co20) : Value).ownBlock from by rw [hgB]; exact Kd.fresh' (Kd.R_lt HO146.out) _ (Nat.le_refl _))
        have HGN := Aside0.mk (show some gB ≠ ((.slice Ao33 y147.length co33) : Value).ownBlock from by rw [hgB]; exact Kd.fresh' (Kd.R_lt HO149.out) _ (Nat.le_refl _))
        obtain ⟨cs_, hcs_⟩ : ∃ c : Array Value, c = #[.slice Ao20 y144.length co20, .slice Ao33 y147.length co33] := ⟨_, rfl⟩
        have HG : Aside0 ((w18.alloc (.cells #[.slice Ao20 y144.length co20, .slice Ao33 y147.length co33] 24)).heap[gB]? = some (.cells cs_ 24 (0, 0))) := ⟨by rw [hcs_, hgB]; exact blk_new _ _⟩
        have HCS := Aside0.mk hcs_
        clear hcs_
        rw [← hgB]
        clear hgB
        go_loopg [46] 2 (fun kq v46 w' => ∃ (x9_1 x10_2 : List Int) (x144001_1 : Int), Aside0 ((kq = 2 ∧ v46 = .int .i64 0 ∧ y144 = x9_1 ∧ y147 = x10_2 ∧ t142 = x144001_1 ∧ synopticlaw39_SamplingErrors.l0 k t133 t137 y144 y147 (wrap64 ((y144.length : Int) - 1)) t141 t142 = some r) ∨ (kq = 1 ∧ v46 = .int .i64 1 ∧ y147 = x10_2 ∧ ∃ k1, k1 ≤ k ∧ synopticlaw39_SamplingErrors.l1 k1 t133 t137 x9_1 y147 (wrap64 ((y147.length : Int) - 1)) t141 x144001_1 = some r) ∨ (kq = 0 ∧ v46 = .int .i64 2 ∧ ∃ k2, k2 ≤ k ∧ synopticlaw39_SamplingErrors.l2 k2 t133 t137 x9_1 x10_2 ([] : List Int) t133 (t133.length : Int) 0 = some r)) ∧ Aside0 (Kd.R (Kd.int .i64) 3 w' w.heap.size (fun k_ => some k_ ≠ ((.slice Ao19 t137.length co19) : Value).ownBlock ∧ some k_ ≠ ((.slice Ao20 y144.length co20) : Value).ownBlock ∧ some k_ ≠ ((.slice Ao33 y147.length co33) : Value).ownBlock) (.slice Ao17 t133.length co17) t133) ∧ Aside0 (Kd.R (Kd.int .i64) 3 w' w.heap.size (fun k_ => some k_ ≠ ((.slice Ao17 t133.length co17) : Value).ownBlock ∧ some k_ ≠ ((.slice Ao20 y144.length co20) : Value).ownBlock ∧ some k_ ≠ ((.slice Ao33 y147.length co33) : Value).ownBlock) (.slice Ao19 t137.length co19) t137) ∧ Aside0 (Kd.R (Kd.int .i64) 3 w' w.heap.size (fun k_ => some k_ ≠ ((.slice Ao17 t133.length co17) : Value).ownBlock ∧ some k_ ≠ ((.slice Ao19 t137.length co19) : Value).ownBlock ∧ some k_ ≠ ((.slice Ao33 y147.length co33) : Value).ownBlock) (.slice Ao20 y144.length co20) x9_1) ∧ Aside0 (Kd.R (Kd.int .i64) 3 w' w.heap.size (fun k_ => some k_ ≠ ((.slice Ao17 t133.length co17) : Value).ownBlock ∧ some k_ ≠ ((.slice Ao19 t137.length co19) : Value).ownBlock ∧ some k_ ≠ ((.slice Ao20 y144.length co20) : Value).ownBlock) (.slice Ao33 y147.length co33) x10_2) ∧ Aside0 (IsS59 w w' g143 t141 x144001_1) ∧ Aside0 (Below w.heap.size w w') ∧ Aside0 (w'.heap[gB]? = some (.cells cs_ 24 (0, 0))))
        case atStart => exact ⟨y144, y147, t142, ⟨.inl ⟨rfl, rfl, rfl, rfl, rfl, H'.out⟩⟩, ⟨by (with_reducible repeat (first | apply Kd.R_alloc | apply Kd.R_drewN | apply Kd.R_drew)); exact Kd.R_mono HO135.out (fun _ hk => ⟨hk.1.1.2, ⟨hk.1.2, hk.2⟩⟩)⟩, ⟨by (with_reducible repeat (first | apply Kd.R_alloc | apply Kd.R_drewN | apply Kd.R_drew)); exact Kd.R_mono HO139.out (fun _ hk => ⟨hk.1.1.2, ⟨hk.1.2, hk.2⟩⟩)⟩, ⟨by (with_reducible repeat (first | apply Kd.R_alloc | apply Kd.R_drewN | apply Kd.R_drew)); exact Kd.R_mono HO146.out (fun _ hk => ⟨hk.1.1, ⟨hk.1.2, hk.2⟩⟩)⟩, ⟨by (with_reducible repeat (first | apply Kd.R_alloc | apply Kd.R_drewN | apply Kd.R_drew)); exact HO149.out⟩, ⟨by repeat (first | (with_reducible first | exact HI143.out | apply IsS59.alloc | apply IsS59.drewN | apply IsS59.drew | apply IsS59.set_1) | exact HI143.out)⟩, ⟨by repeat (first | (with_reducible first | exact HB.out | apply below_alloc | apply pw_below_drewN | apply below_drew1 | refine below_set ?_ (IsS59.ge HI143.out)) | exact HB.out)⟩, ⟨by repeat (first | (with_reducible first | exact HG.out | refine blk_alloc ?_ _ | refine blk_drewN ?_ _ | refine blk_drew ?_) | exact HG.out)⟩⟩
        case round =>
          clear H' HO135 HO139 HO146 HO149 HI143 HB HG
          obtain ⟨x9_1, x10_2, x144001_1, ST, HO_6, HO_7, HO_9, HO_10, HI143, HB, HG⟩ := hrel
          have hcA_ := (blk_cell HG.out 0)
          rw [HCS.out] at hcA_
          have hcB_ := (blk_cell HG.out 1)
          rw [HCS.out] at hcB_
          rcases ST.out with ⟨rfl, rfl, rfl, rfl, rfl, H'⟩ | ⟨rfl, rfl, rfl, k1, HK1, H'⟩ | ⟨rfl, rfl, k2, HK2, H'⟩
          · clear ST
            replace H' := Aside0.mk H'
            go_wp2
            clear hcA_ hcB_
            go_loopg [13] k (fun kq v13 w' => ∃ (x9_1 : List Int) (x13_1 : Int) (x144001_1 : Int), v13 = .int .i64 x13_1 ∧ Aside0 (synopticlaw39_SamplingErrors.l0 kq t133 t137 x9_1 y147 x13_1 t141 x144001_1 = some r) ∧ Aside0 (kq ≤ k) ∧ Aside0 (Kd.R (Kd.int .i64) 3 w' w.heap.size (fun k_ => some k_ ≠ ((.slice Ao19 t137.length co19) : Value).ownBlock ∧ some k_ ≠ ((.slice Ao20 y144.length co20) : Value).ownBlock ∧ some k_ ≠ (.slice Ao33 y147.length co33 : Value).ownBlock) (.slice Ao17 t133.length co17) t133) ∧ Aside0 (Kd.R (Kd.int .i64) 3 w' w.heap.size (fun k_ => some k_ ≠ ((.slice Ao17 t133.length co17) : Value).ownBlock ∧ some k_ ≠ ((.slice Ao20 y144.length co20) : Value).ownBlock ∧ some k_ ≠ (.slice Ao33 y147.length co33 : Value).ownBlock) (.slice Ao19 t137.length co19) t137) ∧ Aside0 (Kd.R (Kd.int .i64) 3 w' w.heap.size (fun k_ => some k_ ≠ ((.slice Ao17 t133.length co17) : Value).ownBlock ∧ some k_ ≠ ((.slice Ao19 t137.length co19) : Value).ownBlock ∧ some k_ ≠ (.slice Ao33 y147.length co33 : Value).ownBlock) (.slice Ao20 y144.length co20) x9_1) ∧ Aside0 (Kd.R (Kd.int .i64) 3 w' w.heap.size (fun k_ => some k_ ≠ ((.slice Ao17 t133.length co17) : Value).ownBlock ∧ some k_ ≠ ((.slice Ao19 t137.length co19) : Value).ownBlock ∧ some k_ ≠ ((.slice Ao20 y144.length co20) : Value).ownBlock) (.slice Ao33 y147.length co33) y147) ∧ Aside0 (IsS59 w w' g143 t141 x144001_1) ∧ Aside0 (Below w.heap.size w w') ∧ Aside0 (w'.heap[gB]? = some (.cells cs_ 24 (0, 0))))
            case atStart => exact ⟨(y144), (wrap64 ((y144.length : Int) - 1)), (t142), (by first | rfl | (simp; done)), H', ⟨Nat.le_refl _⟩, ⟨by (with_reducible repeat (first | apply Kd.R_alloc | apply Kd.R_drewN | apply Kd.R_drew)); exact HO_6.out⟩, ⟨by (with_reducible repeat (first | apply Kd.R_alloc | apply Kd.R_drewN | apply Kd.R_drew)); exact HO_7.out⟩, ⟨by (with_reducible repeat (first | apply Kd.R_alloc | apply Kd.R_drewN | apply Kd.R_drew)); exact HO_9.out⟩, ⟨by (with_reducible repeat (first | apply Kd.R_alloc | apply Kd.R_drewN | apply Kd.R_drew)); exact HO_10.out⟩, ⟨by repeat (first | (with_reducible first | exact HI143.out | apply IsS59.alloc | apply IsS59.drewN | apply IsS59.drew) | exact HI143.out)⟩, ⟨by repeat (first | (with_reducible first | exact HB.out | apply below_alloc | apply pw_below_drewN | apply below_drew1) | exact HB.out)⟩, ⟨by repeat (first | (with_reducible first | exact HG.out | refine blk_alloc ?_ _ | refine blk_drewN ?_ _ | refine blk_drew ?_) | exact HG.out)⟩⟩
            case round =>
              clear H'
              try clear c1
              try clear p2
              try clear c4
              try clear c5
              try clear p6
              try clear c9
              try clear c10
              try clear c11
              obtain ⟨x9_1, x13_1, x144001_1, rfl, HA, HK1, HO_6, HO_7, HO_9, HO_10, HI143, HB, HG⟩ := hrel
              have hl9_1 := (Kd.R_reads' HO_9.out).1
              rw [hl9_1] at HO_9
              (try simp only [hl9_1])
              (try simp only [hl9_1] at HO_6)
              (try simp only [hl9_1] at HO_7)
              (try simp only [hl9_1] at HO_10)
              cases gk with
              | zero => exact absurd HA.out (by simp [synopticlaw39_SamplingErrors.l0])
              | succ k1 =>
                have H := HA.out
                clear HA
                simp only [synopticlaw39_SamplingErrors.l0] at H
                by_cases c21 : x13_1 > 0
                · rw [if_pos c21] at H
                  have c21b0 : decide (0 < x13_1) = true := decide_eq_true c21
                  clear c21
                  replace H := Option.bind_eq_some_iff.mp H
                  obtain ⟨⟨t150, t151⟩, A220, H⟩ := H
                  replace H : (if 0 ≤ x13_1 then (if x13_1 < (x9_1.length : Int) then (if 0 ≤ t150 then (if t150 < (x9_1.length : Int) then (synopticlaw39_SamplingErrors.l0 k1 t133 t137 ((x9_1.set (t150 : Int).toNat (rd x9_1 x13_1)).set (x13_1 : Int).toNat (rd x9_1 t150)) y147 (wrap64 (x13_1 - 1)) t141 t151) else (none)) else (none)) else (none)) else (none)) = some r := H
                  have A22 := Aside0.mk A220
                  clear A220
                  by_cases c23 : 0 ≤ x13_1
                  · rw [if_pos c23] at H
                    have c23b0 : decide (0 ≤ x13_1) = true := decide_eq_true c23
                    clear c23
                    by_cases c24 : x13_1 < (x9_1.length : Int)
                    · rw [if_pos c24] at H
                      have c24b0 : decide (x13_1 < (x9_1.length : Int)) = true := decide_eq_true c24
                      clear c24
                      by_cases c25 : 0 ≤ t150
                      · rw [if_pos c25] at H
                        have c25b0 : decide (0 ≤ t150) = true := decide_eq_true c25
                        clear c25
                        by_cases c26 : t150 < (x9_1.length : Int)
                        · rw [if_pos c26] at H
                          have c26b0 : decide (t150 < (x9_1.length : Int)) = true := decide_eq_true c26
                          clear c26
                          obtain ⟨y154, hy154⟩ : ∃ y_ : List Int, y_ = (x9_1.set (t150 : Int).toNat (rd x9_1 x13_1)) := ⟨_, rfl⟩
                          replace H : (synopticlaw39_SamplingErrors.l0 k1 t133 t137 (y154.set (x13_1 : Int).toNat (rd x9_1 t150)) y147 (wrap64 (x13_1 - 1)) t141 t151) = some r := by first | (rw [hy154]; with_reducible exact H) | (have H2_ := (Option.bind_some _ _).symm.trans H; rw [hy154]; with_reducible exact H2_) | (have H2_ := (Option.bind_some _ _).symm.trans H; with_reducible exact H2_) | with_reducible exact H | (rw [hy154]; exact H) | exact H
                          have Ny154 := Aside0.mk hy154
                          clear hy154
                          obtain ⟨y155, hy155⟩ : ∃ y_ : List Int, y_ = (y154.set (x13_1 : Int).toNat (rd x9_1 t150)) := ⟨_, rfl⟩
                          replace H : (synopticlaw39_SamplingErrors.l0 k1 t133 t137 y155 y147 (wrap64 (x13_1 - 1)) t141 t151) = some r := by first | (rw [hy155]; with_reducible exact H) | (have H2_ := (Option.bind_some _ _).symm.trans H; rw [hy155]; with_reducible exact H2_) | (have H2_ := (Option.bind_some _ _).symm.trans H; with_reducible exact H2_) | with_reducible exact H | (rw [hy155]; exact H) | exact H
                          have Ny155 := Aside0.mk hy155
                          clear hy155
                          have H' := Aside0.mk H
                          clear H
                          try go_wp2_with (first | ((with_reducible refine gate_callee (f := 17) rfl ?_); refine goesL_ (some 60) rfl rfl Try.func17 (by kernel_rfl) rfl #[.pointer (some ⟨g143, 0, none⟩), .int .i64 (wrap64 (x13_1 + 1))] rfl (by (try simp only [List.map_toArray, List.map_cons, List.map_nil]); first | done | rfl | (simp only [List.length_drop, List.length_take]; rfl)) ?_; (with_reducible refine (synopticfield_Codes_Next.calls g143 t141 x144001_1 (wrap64 (x13_1 + 1)) t150 t151 w _ ?side1 ?side2 A22.out).mono ?_); (case side1 => repeat (first | (with_reducible first | exact HI143.out | apply IsS59.alloc | apply IsS59.drewN | apply IsS59.drew | apply IsS59.set_1) | exact HI143.out)); (case side2 => repeat (first | (with_reducible first | exact HB.out | apply below_alloc | apply pw_below_drewN | apply below_drew1 | refine below_set ?_ (IsS59.ge HI143.out)) | exact HB.out)); rintro e w29 ⟨rfl, hi, hb, hk⟩; refine ⟨_, rfl, ?_⟩; have ng_ := Aside0.mk (KeepBut.blk hk (show _ = _ from HG.out) HGB.out (by simp)); clear HG; have HG := ng_; clear ng_; have n0_ := Aside0.mk (Kd.R_mono (Kd.R_keep (IsS59.apart (show IsS59 w _ g143 t141 x144001_1 from by repeat (first | (with_reducible first | exact HI143.out | apply IsS59.alloc | apply IsS59.drewN | apply IsS59.drew | apply IsS59.set_1) | exact HI143.out)) (by (with_reducible repeat (first | apply Kd.R_alloc | apply Kd.R_drewN | apply Kd.R_drew)); exact HO_6.out) (by decide)) hk (fun _ h => h.2)) (fun _ h => h.1)); have n1_ := Aside0.mk (Kd.R_mono (Kd.R_keep (IsS59.apart (show IsS59 w _ g143 t141 x144001_1 from by repeat (first | (with_reducible first | exact HI143.out | apply IsS59.alloc | apply IsS59.drewN | apply IsS59.drew | apply IsS59.set_1) | exact HI143.out)) (by (with_reducible repeat (first | apply Kd.R_alloc | apply Kd.R_drewN | apply Kd.R_drew)); exact HO_7.out) (by decide)) hk (fun _ h => h.2)) (fun _ h => h.1)); have n2_ := Aside0.mk (Kd.R_mono (Kd.R_keep (IsS59.apart (show IsS59 w _ g143 t141 x144001_1 from by repeat (first | (with_reducible first | exact HI143.out | apply IsS59.alloc | apply IsS59.drewN | apply IsS59.drew | apply IsS59.set_1) | exact HI143.out)) (by (with_reducible repeat (first | apply Kd.R_alloc | apply Kd.R_drewN | apply Kd.R_drew)); exact HO_9.out) (by decide)) hk (fun _ h => h.2)) (fun _ h => h.1)); have n3_ := Aside0.mk (Kd.R_mono (Kd.R_keep (IsS59.apart (show IsS59 w _ g143 t141 x144001_1 from by repeat (first | (with_reducible first | exact HI143.out | apply IsS59.alloc | apply IsS59.drewN | apply IsS59.drew | apply IsS59.set_1) | exact HI143.out)) (by (with_reducible repeat (first | apply Kd.R_alloc | apply Kd.R_drewN | apply Kd.R_drew)); exact HO_10.out) (by decide)) hk (fun _ h => h.2)) (fun _ h => h.1)); have n4_ := Aside0.mk (hb); have n5_ := Aside0.mk (hi); clear HO_6; clear HO_7; clear HO_9; clear HO_10; clear HB; clear HI143; have HO_6 := n0_; have HO_7 := n1_; have HO_9 := n2_; have HO_10 := n3_; have HB := n4_; have HI143 := n5_; clear n0_ n1_ n2_ n3_ n4_ n5_; (try clear hb); (try clear hb2); (try clear hk); (try clear hi)))
                          have n0_ := Aside0.mk (Kd.R_drew HO_6.out)
                          have n1_ := Aside0.mk (Kd.R_drew HO_7.out)
                          have n2_ := Aside0.mk (Kd.R_drew HO_9.out)
                          have n3_ := Aside0.mk (Kd.R_drew HO_10.out)
                          have n4_ := Aside0.mk (IsS59.drew HI143.out)
                          have n5_ := Aside0.mk (below_drew1 HB.out)
                          clear HO_6
                          clear HO_7
                          clear HO_9
                          clear HO_10
                          clear HI143
                          clear HB
                          have HO_6 := n0_
                          have HO_7 := n1_
                          have HO_9 := n2_
                          have HO_10 := n3_
                          have HI143 := n4_
                          have HB := n5_
                          have ng_ := Aside0.mk (blk_drew HG.out)
                          clear HG
                          have HG := ng_
                          clear ng_
                          clear n0_ n1_ n2_ n3_ n4_ n5_
                          have p152 : 0 ≤ (x13_1 : Int) := of_decide_eq_true (by first | (with_reducible assumption) | assumption)
                          have q152 : x13_1 < (x9_1.length : Int) := of_decide_eq_true (by first | (with_reducible assumption) | assumption)
                          obtain ⟨ad152, e152, hx152_0⟩ := Kd.at_int (Kd.R_reads' HO_9.out).2.2 x13_1 p152 q152
                          cases e152
                          replace p152 := eq_true p152
                          replace q152 := eq_true q152
                          have p153 : 0 ≤ (t150 : Int) := of_decide_eq_true (by first | (with_reducible assumption) | assumption)
                          have q153 : t150 < (x9_1.length : Int) := of_decide_eq_true (by first | (with_reducible assumption) | assumption)
                          obtain ⟨ad153, e153, hx153_0⟩ := Kd.at_int (Kd.R_reads' HO_9.out).2.2 t150 p153 q153
                          obtain rfl : ad152 = ad153 := (by injection e153)
                          replace p153 := eq_true p153
                          replace q153 := eq_true q153
                          have p27 : 0 ≤ (t150 : Int) := of_decide_eq_true (by first | (with_reducible assumption) | assumption)
                          have q27 : (t150 : Int) < ((x9_1.length : Int) : Int) := of_decide_eq_true (by first | (with_reducible assumption) | assumption)
                          obtain ⟨go27, co27, eo27, gb27, gl27, cl27, HG27⟩ := Kd.R_form HO_9.out (by omega)
                          (first | cases eo27 | (injection eo27 with ea_ en_ ec_; (first | subst ea_ | (injection ea_ with ea_; subst ea_)); subst ec_; clear en_))
                          have GB27 := Aside0.mk gb27
                          have GG27 := Aside0.mk HG27
                          clear gb27 gl27 HG27
                          (first | simp only [add_plain] at hx152_0 | skip)
                          (first | simp only [add_plain] at hx153_0 | skip)
                          obtain ⟨hx27_0, hf27_0⟩ := Kd.R_celln 0 HO_9.out (t150 : Int) p27 q27
                          replace p27 := eq_true p27
                          replace q27 := eq_true q27
                          have HNG := Aside0.mk (show gB ≠ go27 from by intro e_; exact HGM.out (by rw [e_]; rfl))
                          have HN143_go27 := Aside0.mk (show g143 ≠ go27 from by have h_ := IsS59.own_ne HI143.out HO_9.out (by decide); intro e_; exact h_ (by rw [e_]; rfl))
                          have HP31 := Kd.R_putn HO_9.out (t150 : Int) (rd x9_1 x13_1)
                          rw [← Ny154.out] at HP31
                          have HQ31 := Aside0.mk HP31
                          clear HP31
                          have p28 : 0 ≤ (x13_1 : Int) := of_decide_eq_true (by first | (with_reducible assumption) | assumption)
                          have q28 : (x13_1 : Int) < ((x9_1.length : Int) : Int) := of_decide_eq_true (by first | (with_reducible assumption) | assumption)
                          obtain ⟨hx28_0, hf28_0⟩ := Kd.R_celln 0 HQ31.out (x13_1 : Int) p28 q28
                          replace p28 := eq_true p28
                          replace q28 := eq_true q28
                          have HN143_go27 := Aside0.mk (show g143 ≠ go27 from by have h_ := IsS59.own_ne HI143.out HO_9.out (by decide); intro e_; exact h_ (by rw [e_]; rfl))
                          have HP32 := Kd.R_putn HQ31.out (x13_1 : Int) (rd x9_1 t150)
                          rw [← Ny155.out] at HP32
                          have HQ32 := Aside0.mk HP32
                          clear HP32
                          refine start_ (n := 16) (S := fun w' => w'.cell? ⟨go27, (x13_1).toNat, none⟩ = some (.int .i64 (rd x9_1 x13_1)) ∧ w'.cell? ⟨go27, (t150).toNat, none⟩ = some (.int .i64 (rd x9_1 t150))) (ds := [13, 15]) #[false, false, false, false, false, false, false, false, false, false, false, false, false, false, false, false] (by kernel_rfl) rfl rfl ⟨hx152_0, hx153_0⟩ (fun hHeld => ?_); refine with_tabW synopticlaw39_SamplingErrors.tab114 synopticlaw39_SamplingErrors.bits114 (fun HT_ HW_ => ?_)
                          generalize w29.drew = w30 at HO_6 HO_7 HO_9 HO_10 HI143 HB GG27 HQ31 HQ32 hf27_0 hf28_0 hx152_0 hx153_0 hx27_0 hx28_0 hHeld HG ⊢
                          refine pure_ (i := 0) (N := some 61) (v := ?_) (a' := ?_) #[true, false, false, false, false, false, false, false, false, false, false, false, false, false, false, false] rfl rfl (any_of HT_.out (by kernel_rfl)) (fun _ _ _ h => h) (Or.inl ⟨by rfl, ?_⟩) ?_ ?_
                          rotate_left
                          · intro w'
                            go_simp
                            with_reducible rfl
                          rotate_left
                          · simp only [Act.put, List.setIfInBounds_toArray, List.set_cons_zero, List.set_cons_succ, i64_w, i32_w]
                            rfl
                          refine pure_ (i := 1) (N := some 62) (v := ?_) (a' := ?_) #[true, true, false, false, false, false, false, false, false, false, false, false, false, false, false, false] rfl rfl (any_of HT_.out (by kernel_rfl)) (fun _ _ _ h => h) (Or.inl ⟨by rfl, ?_⟩) ?_ ?_
                          rotate_left
                          · intro w'
                            go_simp
                            with_reducible rfl
                          rotate_left
                          · simp only [Act.put, List.setIfInBounds_toArray, List.set_cons_zero, List.set_cons_succ, i64_w, i32_w]
                            rfl
                          refine pure_ (i := 2) (N := some 63) (v := ?_) (a' := ?_) #[true, true, true, false, false, false, false, false, false, false, false, false, false, false, false, false] rfl rfl (any_of HT_.out (by kernel_rfl)) (fun _ _ _ h => h) (Or.inl ⟨by rfl, ?_⟩) ?_ ?_
                          rotate_left
                          · intro w'
                            go_simp
                            with_reducible rfl
                          rotate_left
                          · simp only [Act.put, List.setIfInBounds_toArray, List.set_cons_zero, List.set_cons_succ, i64_w, i32_w]
                            rfl
                          refine pure_ (i := 3) (N := some 64) (v := ?_) (a' := ?_) #[true, true, true, true, false, false, false, false, false, false, false, false, false, false, false, false] rfl rfl (any_of HT_.out (by kernel_rfl)) (fun _ _ _ h => h) (Or.inl ⟨by rfl, ?_⟩) ?_ ?_
                          rotate_left
                          · intro w'
                            go_simp
                            with_reducible rfl
                          rotate_left
                          · simp only [Act.put, List.setIfInBounds_toArray, List.set_cons_zero, List.set_cons_succ, i64_w, i32_w]
                            rfl
                          refine pure_ (i := 4) (N := some 65) (v := ?_) (a' := ?_) #[true, true, true, true, true, false, false, false, false, false, false, false, false, false, false, false] rfl rfl (any_of HT_.out (by kernel_rfl)) (fun _ _ _ h => h) (Or.inl ⟨by rfl, ?_⟩) ?_ ?_
                          rotate_left
                          · intro w'
                            go_simp
                            with_reducible rfl
                          rotate_left
                          · simp only [Act.put, List.setIfInBounds_toArray, List.set_cons_zero, List.set_cons_succ, i64_w, i32_w]
                            rfl
                          refine pure_ (i := 5) (N := some 66) (v := ?_) (a' := ?_) #[true, true, true, true, true, true, false, false, false, false, false, false, false, false, false, false] rfl rfl (any_of HT_.out (by kernel_rfl)) (fun _ _ _ h => h) (Or.inl ⟨by rfl, ?_⟩) ?_ ?_
                          rotate_left
                          · intro w'
                            go_simp
                            with_reducible rfl
                          rotate_left
                          · simp only [Act.put, List.setIfInBounds_toArray, List.set_cons_zero, List.set_cons_succ, i64_w, i32_w]
                            rfl
                          refine pure_ (i := 6) (N := some 67) (v := ?_) (a' := ?_) #[true, true, true, true, true, true, true, false, false, false, false, false, false, false, false, false] rfl rfl (any_of HT_.out (by kernel_rfl)) (fun _ _ _ h => h) (Or.inl ⟨by rfl, ?_⟩) ?_ ?_
                          rotate_left
                          · intro w'
                            go_simp
                            with_reducible rfl
                          rotate_left
                          · simp only [Act.put, List.setIfInBounds_toArray, List.set_cons_zero, List.set_cons_succ, i64_w, i32_w]
                            rfl
                          refine pure_ (i := 8) (N := some 69) (v := ?_) (a' := ?_) #[true, true, true, true, true, true, true, false, true, false, false, false, false, false, false, false] rfl rfl (any_of HT_.out (by kernel_rfl)) (fun _ _ _ h => h) (Or.inl ⟨by rfl, ?_⟩) ?_ ?_
                          rotate_left
                          · intro w'
                            go_simp
                            with_reducible rfl
                          rotate_left
                          · simp only [Act.put, List.setIfInBounds_toArray, List.set_cons_zero, List.set_cons_succ, i64_w, i32_w]
                            rfl
                          refine pure_ (i := 9) (N := some 70) (v := ?_) (a' := ?_) #[true, true, true, true, true, true, true, false, true, true, false, false, false, false, false, false] rfl rfl (any_of HT_.out (by kernel_rfl)) (fun _ _ _ h => h) (Or.inl ⟨by rfl, ?_⟩) ?_ ?_
                          rotate_left
                          · intro w'
                            go_simp
                            with_reducible rfl
                          rotate_left
                          · simp only [Act.put, List.setIfInBounds_toArray, List.set_cons_zero, List.set_cons_succ, i64_w, i32_w]
                            rfl
                          refine pure_ (i := 10) (N := some 71) (v := ?_) (a' := ?_) #[true, true, true, true, true, true, true, false, true, true, true, false, false, false, false, false] rfl rfl (any_of HT_.out (by kernel_rfl)) (fun _ _ _ h => h) (Or.inl ⟨by rfl, ?_⟩) ?_ ?_
                          rotate_left
                          · intro w'
                            go_simp
                            with_reducible rfl
                          rotate_left
                          · simp only [Act.put, List.setIfInBounds_toArray, List.set_cons_zero, List.set_cons_succ, i64_w, i32_w]
                            rfl
                          refine take_ (i := 7) (N := some 68) (v := ?_) (a' := ?_) #[true, true, true, true, true, true, true, true, true, true, true, false, false, false, false, false] rfl rfl (take_ofW HT_.out HW_.out (by kernel_rfl)) (fun _ _ _ h => h) (Or.inl ⟨by rfl, ?_⟩) hHeld ?_ ?_
                          rotate_left
                          · rintro w' ⟨s0, s1⟩
                            go_simp
                            with_reducible rfl
                          rotate_left
                          · simp only [Act.put, List.setIfInBounds_toArray, List.set_cons_zero, List.set_cons_succ, i64_w, i32_w]
                            rfl
                          refine take_ (i := 11) (N := some 72) (v := ?_) (a' := ?_) #[true, true, true, true, true, true, true, true, true, true, true, true, false, false, false, false] rfl rfl (take_ofW HT_.out HW_.out (by kernel_rfl)) (fun _ _ _ h => h) (Or.inl ⟨by rfl, ?_⟩) hHeld ?_ ?_
                          rotate_left
                          · rintro w' ⟨s0, s1⟩
                            go_simp
                            with_reducible rfl
                          rotate_left
                          · simp only [Act.put, List.setIfInBounds_toArray, List.set_cons_zero, List.set_cons_succ, i64_w, i32_w]
                            rfl
                          refine pure_ (i := 12) (N := some 73) (v := ?_) (a' := ?_) #[true, true, true, true, true, true, true, true, true, true, true, true, true, false, false, false] rfl rfl (any_of HT_.out (by kernel_rfl)) (fun _ _ _ h => h) (Or.inl ⟨by rfl, ?_⟩) ?_ ?_
                          rotate_left
                          · intro w'
                            go_simp
                            with_reducible rfl
                          rotate_left
                          · simp only [Act.put, List.setIfInBounds_toArray, List.set_cons_zero, List.set_cons_succ, i64_w, i32_w]
                            rfl
                          refine last_ (i := 13) (N := none) #[true, true, true, true, true, true, true, true, true, true, true, true, true, true, false, false] rfl rfl (one_of HT_.out (by kernel_rfl)) (by decide) (fun K hK => ?_)
                          refine skip_ (w1 := ?_) (by rfl) rfl ?_ ?_
                          rotate_left
                          · go_simp
                            rfl
                          refine hK.out _ _ ?_
                          clear hK K
                          refine pure_ (i := 14) (N := some 74) (v := ?_) (a' := ?_) #[true, true, true, true, true, true, true, true, true, true, true, true, true, true, true, false] rfl rfl (any_of HT_.out (by kernel_rfl)) (fun _ _ _ h => h) (Or.inl ⟨by rfl, ?_⟩) ?_ ?_
                          rotate_left
                          · intro w'
                            go_simp
                            with_reducible rfl
                          rotate_left
                          · simp only [Act.put, List.setIfInBounds_toArray, List.set_cons_zero, List.set_cons_succ, i64_w, i32_w]
                            rfl
                          refine last_ (i := 15) (N := none) #[true, true, true, true, true, true, true, true, true, true, true, true, true, true, true, true] rfl rfl (one_of HT_.out (by kernel_rfl)) (by decide) (fun K hK => ?_)
                          refine skip_ (w1 := ?_) (by rfl) rfl ?_ ?_
                          rotate_left
                          · go_simp
                            rfl
                          refine hK.out _ _ ?_
                          clear hK K
                          refine done_ (done_of HT_.out (by kernel_rfl)) ?_
                          try go_wp2
                          (try simp only [← hl9_1])
                          go_roundg k1
                          case measure => have := HK1.out; omega
                          case rel => exact ⟨(y155), (wrap64 (x13_1 - 1)), (t151), (by first | rfl | (simp; done) | (simp [*]; done)), H', ⟨by have := HK1.out; omega⟩, ⟨by (try simp only [hl9_1]); (with_reducible repeat (first | apply Kd.R_alloc | apply Kd.R_drewN | apply Kd.R_drew)); exact Kd.R_mono (Kd.R_far (p := ⟨go27, (x13_1 : Int).toNat, none⟩) (Kd.R_far (p := ⟨go27, (t150 : Int).toNat, none⟩) (Kd.R_mono HO_6.out (fun k_ hk => (⟨hk, fun e_ => hk.2.1 (by rw [e_]; rfl)⟩ : _ ∧ k_ ≠ go27))) (fun _ hk => hk.2) (.int .i64 (rd x9_1 x13_1))) (fun _ hk => hk.2) (.int .i64 (rd x9_1 t150))) (fun _ hk => ⟨hk.1.1, ⟨hk.1.2.1, hk.1.2.2⟩⟩)⟩, ⟨by (try simp only [hl9_1]); (with_reducible repeat (first | apply Kd.R_alloc | apply Kd.R_drewN | apply Kd.R_drew)); exact Kd.R_mono (Kd.R_far (p := ⟨go27, (x13_1 : Int).toNat, none⟩) (Kd.R_far (p := ⟨go27, (t150 : Int).toNat, none⟩) (Kd.R_mono HO_7.out (fun k_ hk => (⟨hk, fun e_ => hk.2.1 (by rw [e_]; rfl)⟩ : _ ∧ k_ ≠ go27))) (fun _ hk => hk.2) (.int .i64 (rd x9_1 x13_1))) (fun _ hk => hk.2) (.int .i64 (rd x9_1 t150))) (fun _ hk => ⟨hk.1.1, ⟨hk.1.2.1, hk.1.2.2⟩⟩)⟩, ⟨by (try simp only [hl9_1]); (with_reducible repeat (first | apply Kd.R_alloc | apply Kd.R_drewN | apply Kd.R_drew)); exact HQ32.out⟩, ⟨by (try simp only [hl9_1]); (with_reducible repeat (first | apply Kd.R_alloc | apply Kd.R_drewN | apply Kd.R_drew)); exact Kd.R_mono (Kd.R_far (p := ⟨go27, (x13_1 : Int).toNat, none⟩) (Kd.R_far (p := ⟨go27, (t150 : Int).toNat, none⟩) (Kd.R_mono HO_10.out (fun k_ hk => (⟨hk, fun e_ => hk.2.2 (by rw [e_]; rfl)⟩ : _ ∧ k_ ≠ go27))) (fun _ hk => hk.2) (.int .i64 (rd x9_1 x13_1))) (fun _ hk => hk.2) (.int .i64 (rd x9_1 t150))) (fun _ hk => ⟨hk.1.1, ⟨hk.1.2.1, hk.1.2.2⟩⟩)⟩, ⟨by repeat (first | (with_reducible first | exact HI143.out | apply IsS59.alloc | apply IsS59.drewN | apply IsS59.drew | apply IsS59.set_1 | refine IsS59.far ?_ HN143_go27.out _ | refine IsS59.far ?_ HN143_go27.out _) | exact HI143.out)⟩, ⟨by repeat (first | (with_reducible first | exact HB.out | apply below_alloc | apply pw_below_drewN | apply below_drew1 | refine below_set ?_ GB27.out | refine below_set ?_ GB27.out | refine below_set ?_ (IsS59.ge HI143.out)) | exact HB.out)⟩, ⟨by repeat (first | (with_reducible first | exact HG.out | refine blk_far ?_ HNG.out _ | refine blk_drewN ?_ _ | refine blk_drew ?_) | exact HG.out)⟩⟩
                        · rw [if_neg c26] at H
                          exact absurd H (by simp)
                      · rw [if_neg c25] at H
                        exact absurd H (by simp)
                    · rw [if_neg c24] at H
                      exact absurd H (by simp)
                  · rw [if_neg c23] at H
                    exact absurd H (by simp)
                · rw [if_neg c21] at H
                  have c21b0 : decide (0 < x13_1) = false := decide_eq_false c21
                  clear c21
                  have H' := Aside0.mk H
                  clear H
                  go_wp2
                  (try simp only [← hl9_1])
                  go_roundg 1
                  case measure => decide
                  case rel => exact ⟨x9_1, y147, x144001_1, ⟨.inr (.inl ⟨rfl, by first | rfl | (simp; done), rfl, k1, by have := HK1.out; omega, H'.out⟩)⟩, ⟨by (try simp only [hl9_1]); (with_reducible repeat (first | apply Kd.R_alloc | apply Kd.R_drewN | apply Kd.R_drew)); exact HO_6.out⟩, ⟨by (try simp only [hl9_1]); (with_reducible repeat (first | apply Kd.R_alloc | apply Kd.R_drewN | apply Kd.R_drew)); exact HO_7.out⟩, ⟨by (try simp only [hl9_1]); (with_reducible repeat (first | apply Kd.R_alloc | apply Kd.R_drewN | apply Kd.R_drew)); exact HO_9.out⟩, ⟨by (try simp only [hl9_1]); (with_reducible repeat (first | apply Kd.R_alloc | apply Kd.R_drewN | apply Kd.R_drew)); exact HO_10.out⟩, ⟨by repeat (first | (with_reducible first | exact HI143.out | apply IsS59.alloc | apply IsS59.drewN | apply IsS59.drew) | exact HI143.out)⟩, ⟨by repeat (first | (with_reducible first | exact HB.out | apply below_alloc | apply pw_below_drewN | apply below_drew1) | exact HB.out)⟩, ⟨by repeat (first | (with_reducible first | exact HG.out | refine blk_alloc ?_ _ | refine blk_drewN ?_ _ | refine blk_drew ?_) | exact HG.out)⟩⟩
          · clear ST
            replace H' := Aside0.mk H'
            replace HK1 := Aside0.mk HK1
            go_wp2
            clear hcA_ hcB_
            have hl9_1 := (Kd.R_reads' HO_9.out).1
            rw [hl9_1] at HO_9 HGM
            (try simp only [hl9_1])
            (try simp only [hl9_1] at HO_6)
            (try simp only [hl9_1] at HO_7)
            (try simp only [hl9_1] at HO_10)
            go_loopg [13] k1 (fun kq v13 w' => ∃ (x10_2 : List Int) (x13_2 : Int) (x144001_2 : Int), v13 = .int .i64 x13_2 ∧ Aside0 (synopticlaw39_SamplingErrors.l1 kq t133 t137 x9_1 x10_2 x13_2 t141 x144001_2 = some r) ∧ Aside0 (kq ≤ k1) ∧ Aside0 (Kd.R (Kd.int .i64) 3 w' w.heap.size (fun k_ => some k_ ≠ ((.slice Ao19 t137.length co19) : Value).ownBlock ∧ some k_ ≠ ((.slice Ao20 x9_1.length co20) : Value).ownBlock ∧ some k_ ≠ ((.slice Ao33 y147.length co33) : Value).ownBlock) (.slice Ao17 t133.length co17) t133) ∧ Aside0 (Kd.R (Kd.int .i64) 3 w' w.heap.size (fun k_ => some k_ ≠ ((.slice Ao17 t133.length co17) : Value).ownBlock ∧ some k_ ≠ ((.slice Ao20 x9_1.length co20) : Value).ownBlock ∧ some k_ ≠ ((.slice Ao33 y147.length co33) : Value).ownBlock) (.slice Ao19 t137.length co19) t137) ∧ Aside0 (Kd.R (Kd.int .i64) 3 w' w.heap.size (fun k_ => some k_ ≠ ((.slice Ao17 t133.length co17) : Value).ownBlock ∧ some k_ ≠ ((.slice Ao19 t137.length co19) : Value).ownBlock ∧ some k_ ≠ ((.slice Ao33 y147.length co33) : Value).ownBlock) (.slice Ao20 x9_1.length co20) x9_1) ∧ Aside0 (Kd.R (Kd.int .i64) 3 w' w.heap.size (fun k_ => some k_ ≠ ((.slice Ao17 t133.length co17) : Value).ownBlock ∧ some k_ ≠ ((.slice Ao19 t137.length co19) : Value).ownBlock ∧ some k_ ≠ ((.slice Ao20 x9_1.length co20) : Value).ownBlock) (.slice Ao33 y147.length co33) x10_2) ∧ Aside0 (IsS59 w w' g143 t141 x144001_2) ∧ Aside0 (Below w.heap.size w w') ∧ Aside0 (w'.heap[gB]? = some (.cells cs_ 24 (0, 0))))
            case atStart => exact ⟨(y147), (wrap64 ((y147.length : Int) - 1)), (x144001_1), (by first | rfl | (simp; done)), H', ⟨Nat.le_refl _⟩, ⟨by (try simp only [hl9_1]); (with_reducible repeat (first | apply Kd.R_alloc | apply Kd.R_drewN | apply Kd.R_drew)); exact HO_6.out⟩, ⟨by (try simp only [hl9_1]); (with_reducible repeat (first | apply Kd.R_alloc | apply Kd.R_drewN | apply Kd.R_drew)); exact HO_7.out⟩, ⟨by (try simp only [hl9_1]); (with_reducible repeat (first | apply Kd.R_alloc | apply Kd.R_drewN | apply Kd.R_drew)); exact HO_9.out⟩, ⟨by (try simp only [hl9_1]); (with_reducible repeat (first | apply Kd.R_alloc | apply Kd.R_drewN | apply Kd.R_drew)); exact HO_10.out⟩, ⟨by repeat (first | (with_reducible first | exact HI143.out | apply IsS59.alloc | apply IsS59.drewN | apply IsS59.drew) | exact HI143.out)⟩, ⟨by repeat (first | (with_reducible first | exact HB.out | apply below_alloc | apply pw_below_drewN | apply below_drew1) | exact HB.out)⟩, ⟨by repeat (first | (with_reducible first | exact HG.out | refine blk_alloc ?_ _ | refine blk_drewN ?_ _ | refine blk_drew ?_) | exact HG.out)⟩⟩
            case round =>
              clear H'
              try clear c1
              try clear p1
              try clear q1
              try clear hx1
              try clear c2
              try clear p2
              try clear q2
              try clear hx2
              try clear hf2
              try clear c4
              try clear c5
              try clear p6
              try clear c9
              try clear c10
              try clear c11
              try clear p15
              try clear q15
              try clear hx15
              try clear c17
              try clear c21
              try clear c21b0
              try clear c23
              try clear c23b0
              try clear c24
              try clear c24b0
              try clear c25
              try clear c25b0
              try clear c26
              try clear c26b0
              try clear p27
              try clear q27
              try clear hx27
              try clear hf27
              try clear p28
              try clear q28
              try clear hx28
              try clear hf28
              try clear hx152_0
              try clear hx153_0
              try clear hx27_0
              try clear hx28_0
              try clear p152
              try clear p153
              try clear p2
              try clear p27
              try clear p28
              try clear p6
              try clear q152
              try clear q153
              try clear q27
              try clear q28
              obtain ⟨x10_2, x13_2, x144001_2, rfl, HA, HK2, HO_6, HO_7, HO_9, HO_10, HI143, HB, HG⟩ := hrel
              have hl10_2 := (Kd.R_reads' HO_10.out).1
              rw [hl10_2] at HO_10
              (try simp only [hl10_2])
              (try simp only [hl10_2] at HO_6)
              (try simp only [hl10_2] at HO_7)
              (try simp only [hl10_2] at HO_9)
              cases gk with
              | zero => exact absurd HA.out (by simp [synopticlaw39_SamplingErrors.l1])
              | succ k2 =>
                have H := HA.out
                clear HA
                simp only [synopticlaw39_SamplingErrors.l1] at H
                by_cases c34 : x13_2 > 0
                · rw [if_pos c34] at H
                  have c34b0 : decide (0 < x13_2) = true := decide_eq_true c34
                  clear c34
                  replace H := Option.bind_eq_some_iff.mp H
                  obtain ⟨⟨t156, t157⟩, A350, H⟩ := H
                  replace H : (if 0 ≤ x13_2 then (if x13_2 < (x10_2.length : Int) then (if 0 ≤ t156 then (if t156 < (x10_2.length : Int) then (synopticlaw39_SamplingErrors.l1 k2 t133 t137 x9_1 ((x10_2.set (t156 : Int).toNat (rd x10_2 x13_2)).set (x13_2 : Int).toNat (rd x10_2 t156)) (wrap64 (x13_2 - 1)) t141 t157) else (none)) else (none)) else (none)) else (none)) = some r := H
                  have A35 := Aside0.mk A350
                  clear A350
                  by_cases c36 : 0 ≤ x13_2
                  · rw [if_pos c36] at H
                    have c36b0 : decide (0 ≤ x13_2) = true := decide_eq_true c36
                    clear c36
                    by_cases c37 : x13_2 < (x10_2.length : Int)
                    · rw [if_pos c37] at H
                      have c37b0 : decide (x13_2 < (x10_2.length : Int)) = true := decide_eq_true c37
                      clear c37
                      by_cases c38 : 0 ≤ t156
                      · rw [if_pos c38] at H
                        have c38b0 : decide (0 ≤ t156) = true := decide_eq_true c38
                        clear c38
                        by_cases c39 : t156 < (x10_2.length : Int)
                        · rw [if_pos c39] at H
                          have c39b0 : decide (t156 < (x10_2.length : Int)) = true := decide_eq_true c39
                          clear c39
                          obtain ⟨y160, hy160⟩ : ∃ y_ : List Int, y_ = (x10_2.set (t156 : Int).toNat (rd x10_2 x13_2)) := ⟨_, rfl⟩
                          replace H : (synopticlaw39_SamplingErrors.l1 k2 t133 t137 x9_1 (y160.set (x13_2 : Int).toNat (rd x10_2 t156)) (wrap64 (x13_2 - 1)) t141 t157) = some r := by first | (rw [hy160]; with_reducible exact H) | (have H2_ := (Option.bind_some _ _).symm.trans H; rw [hy160]; with_reducible exact H2_) | (have H2_ := (Option.bind_some _ _).symm.trans H; with_reducible exact H2_) | with_reducible exact H | (rw [hy160]; exact H) | exact H
                          have Ny160 := Aside0.mk hy160
                          clear hy160
                          obtain ⟨y161, hy161⟩ : ∃ y_ : List Int, y_ = (y160.set (x13_2 : Int).toNat (rd x10_2 t156)) := ⟨_, rfl⟩
                          replace H : (synopticlaw39_SamplingErrors.l1 k2 t133 t137 x9_1 y161 (wrap64 (x13_2 - 1)) t141 t157) = some r := by first | (rw [hy161]; with_reducible exact H) | (have H2_ := (Option.bind_some _ _).symm.trans H; rw [hy161]; with_reducible exact H2_) | (have H2_ := (Option.bind_some _ _).symm.trans H; with_reducible exact H2_) | with_reducible exact H | (rw [hy161]; exact H) | exact H
                          have Ny161 := Aside0.mk hy161
                          clear hy161
                          have H' := Aside0.mk H
                          clear H
                          try go_wp2_with (first | ((with_reducible refine gate_callee (f := 17) rfl ?_); refine goesL_ (some 60) rfl rfl Try.func17 (by kernel_rfl) rfl #[.pointer (some ⟨g143, 0, none⟩), .int .i64 (wrap64 (x13_2 + 1))] rfl (by (try simp only [List.map_toArray, List.map_cons, List.map_nil]); first | done | rfl | (simp only [List.length_drop, List.length_take]; rfl)) ?_; (with_reducible refine (synopticfield_Codes_Next.calls g143 t141 x144001_2 (wrap64 (x13_2 + 1)) t156 t157 w _ ?side1 ?side2 A35.out).mono ?_); (case side1 => repeat (first | (with_reducible first | exact HI143.out | apply IsS59.alloc | apply IsS59.drewN | apply IsS59.drew | apply IsS59.set_1) | exact HI143.out)); (case side2 => repeat (first | (with_reducible first | exact HB.out | apply below_alloc | apply pw_below_drewN | apply below_drew1 | refine below_set ?_ (IsS59.ge HI143.out)) | exact HB.out)); rintro e w42 ⟨rfl, hi, hb, hk⟩; refine ⟨_, rfl, ?_⟩; have ng_ := Aside0.mk (KeepBut.blk hk (show _ = _ from HG.out) HGB.out (by simp)); clear HG; have HG := ng_; clear ng_; have n0_ := Aside0.mk (Kd.R_mono (Kd.R_keep (IsS59.apart (show IsS59 w _ g143 t141 x144001_2 from by repeat (first | (with_reducible first | exact HI143.out | apply IsS59.alloc | apply IsS59.drewN | apply IsS59.drew | apply IsS59.set_1) | exact HI143.out)) (by (with_reducible repeat (first | apply Kd.R_alloc | apply Kd.R_drewN | apply Kd.R_drew)); exact HO_6.out) (by decide)) hk (fun _ h => h.2)) (fun _ h => h.1)); have n1_ := Aside0.mk (Kd.R_mono (Kd.R_keep (IsS59.apart (show IsS59 w _ g143 t141 x144001_2 from by repeat (first | (with_reducible first | exact HI143.out | apply IsS59.alloc | apply IsS59.drewN | apply IsS59.drew | apply IsS59.set_1) | exact HI143.out)) (by (with_reducible repeat (first | apply Kd.R_alloc | apply Kd.R_drewN | apply Kd.R_drew)); exact HO_7.out) (by decide)) hk (fun _ h => h.2)) (fun _ h => h.1)); have n2_ := Aside0.mk (Kd.R_mono (Kd.R_keep (IsS59.apart (show IsS59 w _ g143 t141 x144001_2 from by repeat (first | (with_reducible first | exact HI143.out | apply IsS59.alloc | apply IsS59.drewN | apply IsS59.drew | apply IsS59.set_1) | exact HI143.out)) (by (with_reducible repeat (first | apply Kd.R_alloc | apply Kd.R_drewN | apply Kd.R_drew)); exact HO_9.out) (by decide)) hk (fun _ h => h.2)) (fun _ h => h.1)); have n3_ := Aside0.mk (Kd.R_mono (Kd.R_keep (IsS59.apart (show IsS59 w _ g143 t141 x144001_2 from by repeat (first | (with_reducible first | exact HI143.out | apply IsS59.alloc | apply IsS59.drewN | apply IsS59.drew | apply IsS59.set_1) | exact HI143.out)) (by (with_reducible repeat (first | apply Kd.R_alloc | apply Kd.R_drewN | apply Kd.R_drew)); exact HO_10.out) (by decide)) hk (fun _ h => h.2)) (fun _ h => h.1)); have n4_ := Aside0.mk (hb); have n5_ := Aside0.mk (hi); clear HO_6; clear HO_7; clear HO_9; clear HO_10; clear HB; clear HI143; have HO_6 := n0_; have HO_7 := n1_; have HO_9 := n2_; have HO_10 := n3_; have HB := n4_; have HI143 := n5_; clear n0_ n1_ n2_ n3_ n4_ n5_; (try clear hb); (try clear hb2); (try clear hk); (try clear hi)))
                          have n0_ := Aside0.mk (Kd.R_drew HO_6.out)
                          have n1_ := Aside0.mk (Kd.R_drew HO_7.out)
                          have n2_ := Aside0.mk (Kd.R_drew HO_9.out)
                          have n3_ := Aside0.mk (Kd.R_drew HO_10.out)
                          have n4_ := Aside0.mk (IsS59.drew HI143.out)
                          have n5_ := Aside0.mk (below_drew1 HB.out)
                          clear HO_6
                          clear HO_7
                          clear HO_9
                          clear HO_10
                          clear HI143
                          clear HB
                          have HO_6 := n0_
                          have HO_7 := n1_
                          have HO_9 := n2_
                          have HO_10 := n3_
                          have HI143 := n4_
                          have HB := n5_
                          have ng_ := Aside0.mk (blk_drew HG.out)
                          clear HG
                          have HG := ng_
                          clear ng_
                          clear n0_ n1_ n2_ n3_ n4_ n5_
                          have p158 : 0 ≤ (x13_2 : Int) := of_decide_eq_true (by first | (with_reducible assumption) | assumption)
                          have q158 : x13_2 < (x10_2.length : Int) := of_decide_eq_true (by first | (with_reducible assumption) | assumption)
                          obtain ⟨ad158, e158, hx158_0⟩ := Kd.at_int (Kd.R_reads' HO_10.out).2.2 x13_2 p158 q158
                          cases e158
                          replace p158 := eq_true p158
                          replace q158 := eq_true q158
                          have p159 : 0 ≤ (t156 : Int) := of_decide_eq_true (by first | (with_reducible assumption) | assumption)
                          have q159 : t156 < (x10_2.length : Int) := of_decide_eq_true (by first | (with_reducible assumption) | assumption)
                          obtain ⟨ad159, e159, hx159_0⟩ := Kd.at_int (Kd.R_reads' HO_10.out).2.2 t156 p159 q159
                          obtain rfl : ad158 = ad159 := (by injection e159)
                          replace p159 := eq_true p159
                          replace q159 := eq_true q159
                          have p40 : 0 ≤ (t156 : Int) := of_decide_eq_true (by first | (with_reducible assumption) | assumption)
                          have q40 : (t156 : Int) < ((x10_2.length : Int) : Int) := of_decide_eq_true (by first | (with_reducible assumption) | assumption)
                          obtain ⟨go40, co40, eo40, gb40, gl40, cl40, HG40⟩ := Kd.R_form HO_10.out (by omega)
                          (first | cases eo40 | (injection eo40 with ea_ en_ ec_; (first | subst ea_ | (injection ea_ with ea_; subst ea_)); subst ec_; clear en_))
                          have GB40 := Aside0.mk gb40
                          have GG40 := Aside0.mk HG40
                          clear gb40 gl40 HG40
                          (first | simp only [add_plain] at hx158_0 | skip)
                          (first | simp only [add_plain] at hx159_0 | skip)
                          obtain ⟨hx40_0, hf40_0⟩ := Kd.R_celln 0 HO_10.out (t156 : Int) p40 q40
                          replace p40 := eq_true p40
                          replace q40 := eq_true q40
                          have HNG := Aside0.mk (show gB ≠ go40 from by intro e_; exact HGN.out (by rw [e_]; rfl))
                          have HN143_go40 := Aside0.mk (show g143 ≠ go40 from by have h_ := IsS59.own_ne HI143.out HO_10.out (by decide); intro e_; exact h_ (by rw [e_]; rfl))
                          have HP44 := Kd.R_putn HO_10.out (t156 : Int) (rd x10_2 x13_2)
                          rw [← Ny160.out] at HP44
                          have HQ44 := Aside0.mk HP44
                          clear HP44
                          have p41 : 0 ≤ (x13_2 : Int) := of_decide_eq_true (by first | (with_reducible assumption) | assumption)
                          have q41 : (x13_2 : Int) < ((x10_2.length : Int) : Int) := of_decide_eq_true (by first | (with_reducible assumption) | assumption)
                          obtain ⟨hx41_0, hf41_0⟩ := Kd.R_celln 0 HQ44.out (x13_2 : Int) p41 q41
                          replace p41 := eq_true p41
                          replace q41 := eq_true q41
                          have HN143_go40 := Aside0.mk (show g143 ≠ go40 from by have h_ := IsS59.own_ne HI143.out HO_10.out (by decide); intro e_; exact h_ (by rw [e_]; rfl))
                          have HP45 := Kd.R_putn HQ44.out (x13_2 : Int) (rd x10_2 t156)
                          rw [← Ny161.out] at HP45
                          have HQ45 := Aside0.mk HP45
                          clear HP45
                          refine start_ (n := 16) (S := fun w' => w'.cell? ⟨go40, (x13_2).toNat, none⟩ = some (.int .i64 (rd x10_2 x13_2)) ∧ w'.cell? ⟨go40, (t156).toNat, none⟩ = some (.int .i64 (rd x10_2 t156))) (ds := [13, 15]) #[false, false, false, false, false, false, false, false, false, false, false, false, false, false, false, false] (by kernel_rfl) rfl rfl ⟨hx158_0, hx159_0⟩ (fun hHeld => ?_); refine with_tabW synopticlaw39_SamplingErrors.tab114 synopticlaw39_SamplingErrors.bits114 (fun HT_ HW_ => ?_)
                          generalize w42.drew = w43 at HO_6 HO_7 HO_9 HO_10 HI143 HB GG40 HQ44 HQ45 hf40_0 hf41_0 hx158_0 hx159_0 hx40_0 hx41_0 hHeld HG ⊢
                          refine pure_ (i := 0) (N := some 61) (v := ?_) (a' := ?_) #[true, false, false, false, false, false, false, false, false, false, false, false, false, false, false, false] rfl rfl (any_of HT_.out (by kernel_rfl)) (fun _ _ _ h => h) (Or.inl ⟨by rfl, ?_⟩) ?_ ?_
                          rotate_left
                          · intro w'
                            go_simp
                            with_reducible rfl
                          rotate_left
                          · simp only [Act.put, List.setIfInBounds_toArray, List.set_cons_zero, List.set_cons_succ, i64_w, i32_w]
                            rfl
                          refine pure_ (i := 1) (N := some 62) (v := ?_) (a' := ?_) #[true, true, false, false, false, false, false, false, false, false, false, false, false, false, false, false] rfl rfl (any_of HT_.out (by kernel_rfl)) (fun _ _ _ h => h) (Or.inl ⟨by rfl, ?_⟩) ?_ ?_
                          rotate_left
                          · intro w'
                            go_simp
                            with_reducible rfl
                          rotate_left
                          · simp only [Act.put, List.setIfInBounds_toArray, List.set_cons_zero, List.set_cons_succ, i64_w, i32_w]
                            rfl
                          refine pure_ (i := 2) (N := some 63) (v := ?_) (a' := ?_) #[true, true, true, false, false, false, false, false, false, false, false, false, false, false, false, false] rfl rfl (any_of HT_.out (by kernel_rfl)) (fun _ _ _ h => h) (Or.inl ⟨by rfl, ?_⟩) ?_ ?_
                          rotate_left
                          · intro w'
                            go_simp
                            with_reducible rfl
                          rotate_left
                          · simp only [Act.put, List.setIfInBounds_toArray, List.set_cons_zero, List.set_cons_succ, i64_w, i32_w]
                            rfl
                          refine pure_ (i := 3) (N := some 64) (v := ?_) (a' := ?_) #[true, true, true, true, false, false, false, false, false, false, false, false, false, false, false, false] rfl rfl (any_of HT_.out (by kernel_rfl)) (fun _ _ _ h => h) (Or.inl ⟨by rfl, ?_⟩) ?_ ?_
                          rotate_left
                          · intro w'
                            go_simp
                            with_reducible rfl
                          rotate_left
                          · simp only [Act.put, List.setIfInBounds_toArray, List.set_cons_zero, List.set_cons_succ, i64_w, i32_w]
                            rfl
                          refine pure_ (i := 4) (N := some 65) (v := ?_) (a' := ?_) #[true, true, true, true, true, false, false, false, false, false, false, false, false, false, false, false] rfl rfl (any_of HT_.out (by kernel_rfl)) (fun _ _ _ h => h) (Or.inl ⟨by rfl, ?_⟩) ?_ ?_
                          rotate_left
                          · intro w'
                            go_simp
                            with_reducible rfl
                          rotate_left
                          · simp only [Act.put, List.setIfInBounds_toArray, List.set_cons_zero, List.set_cons_succ, i64_w, i32_w]
                            rfl
                          refine pure_ (i := 5) (N := some 66) (v := ?_) (a' := ?_) #[true, true, true, true, true, true, false, false, false, false, false, false, false, false, false, false] rfl rfl (any_of HT_.out (by kernel_rfl)) (fun _ _ _ h => h) (Or.inl ⟨by rfl, ?_⟩) ?_ ?_
                          rotate_left
                          · intro w'
                            go_simp
                            with_reducible rfl
                          rotate_left
                          · simp only [Act.put, List.setIfInBounds_toArray, List.set_cons_zero, List.set_cons_succ, i64_w, i32_w]
                            rfl
                          refine pure_ (i := 6) (N := some 67) (v := ?_) (a' := ?_) #[true, true, true, true, true, true, true, false, false, false, false, false, false, false, false, false] rfl rfl (any_of HT_.out (by kernel_rfl)) (fun _ _ _ h => h) (Or.inl ⟨by rfl, ?_⟩) ?_ ?_
                          rotate_left
                          · intro w'
                            go_simp
                            with_reducible rfl
                          rotate_left
                          · simp only [Act.put, List.setIfInBounds_toArray, List.set_cons_zero, List.set_cons_succ, i64_w, i32_w]
                            rfl
                          refine pure_ (i := 8) (N := some 69) (v := ?_) (a' := ?_) #[true, true, true, true, true, true, true, false, true, false, false, false, false, false, false, false] rfl rfl (any_of HT_.out (by kernel_rfl)) (fun _ _ _ h => h) (Or.inl ⟨by rfl, ?_⟩) ?_ ?_
                          rotate_left
                          · intro w'
                            go_simp
                            with_reducible rfl
                          rotate_left
                          · simp only [Act.put, List.setIfInBounds_toArray, List.set_cons_zero, List.set_cons_succ, i64_w, i32_w]
                            rfl
                          refine pure_ (i := 9) (N := some 70) (v := ?_) (a' := ?_) #[true, true, true, true, true, true, true, false, true, true, false, false, false, false, false, false] rfl rfl (any_of HT_.out (by kernel_rfl)) (fun _ _ _ h => h) (Or.inl ⟨by rfl, ?_⟩) ?_ ?_
                          rotate_left
                          · intro w'
                            go_simp
                            with_reducible rfl
                          rotate_left
                          · simp only [Act.put, List.setIfInBounds_toArray, List.set_cons_zero, List.set_cons_succ, i64_w, i32_w]
                            rfl
                          refine pure_ (i := 10) (N := some 71) (v := ?_) (a' := ?_) #[true, true, true, true, true, true, true, false, true, true, true, false, false, false, false, false] rfl rfl (any_of HT_.out (by kernel_rfl)) (fun _ _ _ h => h) (Or.inl ⟨by rfl, ?_⟩) ?_ ?_
                          rotate_left
                          · intro w'
                            go_simp
                            with_reducible rfl
                          rotate_left
                          · simp only [Act.put, List.setIfInBounds_toArray, List.set_cons_zero, List.set_cons_succ, i64_w, i32_w]
                            rfl
                          refine take_ (i := 7) (N := some 68) (v := ?_) (a' := ?_) #[true, true, true, true, true, true, true, true, true, true, true, false, false, false, false, false] rfl rfl (take_ofW HT_.out HW_.out (by kernel_rfl)) (fun _ _ _ h => h) (Or.inl ⟨by rfl, ?_⟩) hHeld ?_ ?_
                          rotate_left
                          · rintro w' ⟨s0, s1⟩
                            go_simp
                            with_reducible rfl
                          rotate_left
                          · simp only [Act.put, List.setIfInBounds_toArray, List.set_cons_zero, List.set_cons_succ, i64_w, i32_w]
                            rfl
                          refine take_ (i := 11) (N := some 72) (v := ?_) (a' := ?_) #[true, true, true, true, true, true, true, true, true, true, true, true, false, false, false, false] rfl rfl (take_ofW HT_.out HW_.out (by kernel_rfl)) (fun _ _ _ h => h) (Or.inl ⟨by rfl, ?_⟩) hHeld ?_ ?_
                          rotate_left
                          · rintro w' ⟨s0, s1⟩
                            go_simp
                            with_reducible rfl
                          rotate_left
                          · simp only [Act.put, List.setIfInBounds_toArray, List.set_cons_zero, List.set_cons_succ, i64_w, i32_w]
                            rfl
                          refine pure_ (i := 12) (N := some 73) (v := ?_) (a' := ?_) #[true, true, true, true, true, true, true, true, true, true, true, true, true, false, false, false] rfl rfl (any_of HT_.out (by kernel_rfl)) (fun _ _ _ h => h) (Or.inl ⟨by rfl, ?_⟩) ?_ ?_
                          rotate_left
                          · intro w'
                            go_simp
                            with_reducible rfl
                          rotate_left
                          · simp only [Act.put, List.setIfInBounds_toArray, List.set_cons_zero, List.set_cons_succ, i64_w, i32_w]
                            rfl
                          refine last_ (i := 13) (N := none) #[true, true, true, true, true, true, true, true, true, true, true, true, true, true, false, false] rfl rfl (one_of HT_.out (by kernel_rfl)) (by decide) (fun K hK => ?_)
                          refine skip_ (w1 := ?_) (by rfl) rfl ?_ ?_
                          rotate_left
                          · go_simp
                            rfl
                          refine hK.out _ _ ?_
                          clear hK K
                          refine pure_ (i := 14) (N := some 74) (v := ?_) (a' := ?_) #[true, true, true, true, true, true, true, true, true, true, true, true, true, true, true, false] rfl rfl (any_of HT_.out (by kernel_rfl)) (fun _ _ _ h => h) (Or.inl ⟨by rfl, ?_⟩) ?_ ?_
                          rotate_left
                          · intro w'
                            go_simp
                            with_reducible rfl
                          rotate_left
                          · simp only [Act.put, List.setIfInBounds_toArray, List.set_cons_zero, List.set_cons_succ, i64_w, i32_w]
                            rfl
                          refine last_ (i := 15) (N := none) #[true, true, true, true, true, true, true, true, true, true, true, true, true, true, true, true] rfl rfl (one_of HT_.out (by kernel_rfl)) (by decide) (fun K hK => ?_)
                          refine skip_ (w1 := ?_) (by rfl) rfl ?_ ?_
                          rotate_left
                          · go_simp
                            rfl
                          refine hK.out _ _ ?_
                          clear hK K
                          refine done_ (done_of HT_.out (by kernel_rfl)) ?_
                          try go_wp2
                          (try simp only [← hl10_2])
                          go_roundg k2
                          case measure => have := HK1.out; have := HK2.out; omega
                          case rel => exact ⟨(y161), (wrap64 (x13_2 - 1)), (t157), (by first | rfl | (simp; done) | (simp [*]; done)), H', ⟨by have := HK1.out; have := HK2.out; omega⟩, ⟨by (try simp only [hl9_1]); (try simp only [hl10_2]); (with_reducible repeat (first | apply Kd.R_alloc | apply Kd.R_drewN | apply Kd.R_drew)); exact Kd.R_mono (Kd.R_far (p := ⟨go40, (x13_2 : Int).toNat, none⟩) (Kd.R_far (p := ⟨go40, (t156 : Int).toNat, none⟩) (Kd.R_mono HO_6.out (fun k_ hk => (⟨hk, fun e_ => hk.2.2 (by rw [e_]; rfl)⟩ : _ ∧ k_ ≠ go40))) (fun _ hk => hk.2) (.int .i64 (rd x10_2 x13_2))) (fun _ hk => hk.2) (.int .i64 (rd x10_2 t156))) (fun _ hk => ⟨hk.1.1, ⟨hk.1.2.1, hk.1.2.2⟩⟩)⟩, ⟨by (try simp only [hl9_1]); (try simp only [hl10_2]); (with_reducible repeat (first | apply Kd.R_alloc | apply Kd.R_drewN | apply Kd.R_drew)); exact Kd.R_mono (Kd.R_far (p := ⟨go40, (x13_2 : Int).toNat, none⟩) (Kd.R_far (p := ⟨go40, (t156 : Int).toNat, none⟩) (Kd.R_mono HO_7.out (fun k_ hk => (⟨hk, fun e_ => hk.2.2 (by rw [e_]; rfl)⟩ : _ ∧ k_ ≠ go40))) (fun _ hk => hk.2) (.int .i64 (rd x10_2 x13_2))) (fun _ hk => hk.2) (.int .i64 (rd x10_2 t156))) (fun _ hk => ⟨hk.1.1, ⟨hk.1.2.1, hk.1.2.2⟩⟩)⟩, ⟨by (try simp only [hl9_1]); (try simp only [hl10_2]); (with_reducible repeat (first | apply Kd.R_alloc | apply Kd.R_drewN | apply Kd.R_drew)); exact Kd.R_mono (Kd.R_far (p := ⟨go40, (x13_2 : Int).toNat, none⟩) (Kd.R_far (p := ⟨go40, (t156 : Int).toNat, none⟩) (Kd.R_mono HO_9.out (fun k_ hk => (⟨hk, fun e_ => hk.2.2 (by rw [e_]; rfl)⟩ : _ ∧ k_ ≠ go40))) (fun _ hk => hk.2) (.int .i64 (rd x10_2 x13_2))) (fun _ hk => hk.2) (.int .i64 (rd x10_2 t156))) (fun _ hk => ⟨hk.1.1, ⟨hk.1.2.1, hk.1.2.2⟩⟩)⟩, ⟨by (try simp only [hl9_1]); (try simp only [hl10_2]); (with_reducible repeat (first | apply Kd.R_alloc | apply Kd.R_drewN | apply Kd.R_drew)); exact HQ45.out⟩, ⟨by repeat (first | (with_reducible first | exact HI143.out | apply IsS59.alloc | apply IsS59.drewN | apply IsS59.drew | apply IsS59.set_1 | refine IsS59.far ?_ HN143_go40.out _ | refine IsS59.far ?_ HN143_go40.out _) | exact HI143.out)⟩, ⟨by repeat (first | (with_reducible first | exact HB.out | apply below_alloc | apply pw_below_drewN | apply below_drew1 | refine below_set ?_ GB40.out | refine below_set ?_ GB40.out | refine below_set ?_ (IsS59.ge HI143.out)) | exact HB.out)⟩, ⟨by repeat (first | (with_reducible first | exact HG.out | refine blk_far ?_ HNG.out _ | refine blk_drewN ?_ _ | refine blk_drew ?_) | exact HG.out)⟩⟩
                        · rw [if_neg c39] at H
                          exact absurd H (by simp)
                      · rw [if_neg c38] at H
                        exact absurd H (by simp)
                    · rw [if_neg c37] at H
                      exact absurd H (by simp)
                  · rw [if_neg c36] at H
                    exact absurd H (by simp)
                · rw [if_neg c34] at H
                  have c34b0 : decide (0 < x13_2) = false := decide_eq_false c34
                  clear c34
                  have H' := Aside0.mk H
                  clear H
                  go_wp2
                  (try simp only [← hl10_2])
                  (try simp only [← hl9_1])
                  go_roundg 0
                  case measure => decide
                  case rel => exact ⟨x9_1, x10_2, x144001_2, ⟨.inr (.inr ⟨rfl, by first | rfl | (simp; done), k2, by have := HK1.out; have := HK2.out; omega, H'.out⟩)⟩, ⟨by (try simp only [hl10_2]); (try simp only [hl9_1]); (with_reducible repeat (first | apply Kd.R_alloc | apply Kd.R_drewN | apply Kd.R_drew)); exact HO_6.out⟩, ⟨by (try simp only [hl10_2]); (try simp only [hl9_1]); (with_reducible repeat (first | apply Kd.R_alloc | apply Kd.R_drewN | apply Kd.R_drew)); exact HO_7.out⟩, ⟨by (try simp only [hl10_2]); (try simp only [hl9_1]); (with_reducible repeat (first | apply Kd.R_alloc | apply Kd.R_drewN | apply Kd.R_drew)); exact HO_9.out⟩, ⟨by (try simp only [hl10_2]); (try simp only [hl9_1]); (with_reducible repeat (first | apply Kd.R_alloc | apply Kd.R_drewN | apply Kd.R_drew)); exact HO_10.out⟩, ⟨by repeat (first | (with_reducible first | exact HI143.out | apply IsS59.alloc | apply IsS59.drewN | apply IsS59.drew) | exact HI143.out)⟩, ⟨by repeat (first | (with_reducible first | exact HB.out | apply below_alloc | apply pw_below_drewN | apply below_drew1) | exact HB.out)⟩, ⟨by repeat (first | (with_reducible first | exact HG.out | refine blk_alloc ?_ _ | refine blk_drewN ?_ _ | refine blk_drew ?_) | exact HG.out)⟩⟩
          · clear ST
            replace H' := Aside0.mk H'
            replace HK2 := Aside0.mk HK2
            clear hcA_ hcB_
            go_wp2
            have hl9_1 := (Kd.R_reads' HO_9.out).1
            rw [hl9_1] at HO_9
            (try simp only [hl9_1])
            (try simp only [hl9_1] at HO_6)
            (try simp only [hl9_1] at HO_7)
            (try simp only [hl9_1] at HO_10)
            have hl10_2 := (Kd.R_reads' HO_10.out).1
            rw [hl10_2] at HO_10
            (try simp only [hl10_2])
            (try simp only [hl10_2] at HO_6)
            (try simp only [hl10_2] at HO_7)
            (try simp only [hl10_2] at HO_9)
            go_loopg [15, 78] k2 (fun kq v15 v78 w' => ∃ (x15_3 : List Int) (x78_3 : Int), v78 = .int .i64 x78_3 ∧ Aside0 (synopticlaw39_SamplingErrors.l2 kq t133 t137 x9_1 x10_2 x15_3 t133 (t133.length : Int) x78_3 = some r) ∧ Aside0 (kq ≤ k2) ∧ Aside0 (Kd.R (Kd.int .i64) 3 w' w.heap.size (fun k_ => some k_ ≠ ((.slice Ao19 t137.length co19) : Value).ownBlock ∧ some k_ ≠ ((.slice Ao20 x9_1.length co20) : Value).ownBlock ∧ some k_ ≠ ((.slice Ao33 x10_2.length co33) : Value).ownBlock ∧ some k_ ≠ (v15 : Value).ownBlock) (.slice Ao17 t133.length co17) t133) ∧ Aside0 (Kd.R (Kd.int .i64) 3 w' w.heap.size (fun k_ => some k_ ≠ ((.slice Ao17 t133.length co17) : Value).ownBlock ∧ some k_ ≠ ((.slice Ao20 x9_1.length co20) : Value).ownBlock ∧ some k_ ≠ ((.slice Ao33 x10_2.length co33) : Value).ownBlock ∧ some k_ ≠ (v15 : Value).ownBlock ∧ some k_ ≠ ((.slice Ao17 t133.length co17) : Value).ownBlock) (.slice Ao19 t137.length co19) t137) ∧ Aside0 (Kd.R (Kd.int .i64) 3 w' w.heap.size (fun k_ => some k_ ≠ ((.slice Ao17 t133.length co17) : Value).ownBlock ∧ some k_ ≠ ((.slice Ao19 t137.length co19) : Value).ownBlock ∧ some k_ ≠ ((.slice Ao33 x10_2.length co33) : Value).ownBlock ∧ some k_ ≠ (v15 : Value).ownBlock ∧ some k_ ≠ ((.slice Ao17 t133.length co17) : Value).ownBlock) (.slice Ao20 x9_1.length co20) x9_1) ∧ Aside0 (Kd.R (Kd.int .i64) 3 w' w.heap.size (fun k_ => some k_ ≠ ((.slice Ao17 t133.length co17) : Value).ownBlock ∧ some k_ ≠ ((.slice Ao19 t137.length co19) : Value).ownBlock ∧ some k_ ≠ ((.slice Ao20 x9_1.length co20) : Value).ownBlock ∧ some k_ ≠ (v15 : Value).ownBlock ∧ some k_ ≠ ((.slice Ao17 t133.length co17) : Value).ownBlock) (.slice Ao33 x10_2.length co33) x10_2) ∧ Aside0 (Kd.R (Kd.int .i64) 3 w' w.heap.size (fun k_ => some k_ ≠ ((.slice Ao17 t133.length co17) : Value).ownBlock ∧ some k_ ≠ ((.slice Ao19 t137.length co19) : Value).ownBlock ∧ some k_ ≠ ((.slice Ao20 x9_1.length co20) : Value).ownBlock ∧ some k_ ≠ ((.slice Ao33 x10_2.length co33) : Value).ownBlock ∧ some k_ ≠ ((.slice Ao17 t133.length co17) : Value).ownBlock) v15 x15_3) ∧ Aside0 (Kd.R (Kd.int .i64) 3 w' w.heap.size (fun k_ => some k_ ≠ ((.slice Ao19 t137.length co19) : Value).ownBlock ∧ some k_ ≠ ((.slice Ao20 x9_1.length co20) : Value).ownBlock ∧ some k_ ≠ ((.slice Ao33 x10_2.length co33) : Value).ownBlock ∧ some k_ ≠ (v15 : Value).ownBlock) (.slice Ao17 t133.length co17) t133) ∧ Aside0 (Below w.heap.size w w'))
            case atStart => exact ⟨(([] : List Int)), (0), (by first | rfl | (simp; done) | (simp [*]; done)), H', ⟨Nat.le_refl _⟩, ⟨by (try simp only [hl9_1]); (try simp only [hl10_2]); (with_reducible repeat (first | apply Kd.R_alloc | apply Kd.R_drewN | apply Kd.R_drew)); exact Kd.R_mono HO_6.out (fun _ hk => ⟨hk.1, ⟨hk.2.1, ⟨hk.2.2, (by simp [Value.ownBlock])⟩⟩⟩)⟩, ⟨by (try simp only [hl9_1]); (try simp only [hl10_2]); (with_reducible repeat (first | apply Kd.R_alloc | apply Kd.R_drewN | apply Kd.R_drew)); exact Kd.R_mono HO_7.out (fun _ hk => ⟨hk.1, ⟨hk.2.1, ⟨hk.2.2, ⟨(by simp [Value.ownBlock]), hk.1⟩⟩⟩⟩)⟩, ⟨by (try simp only [hl9_1]); (try simp only [hl10_2]); (with_reducible repeat (first | apply Kd.R_alloc | apply Kd.R_drewN | apply Kd.R_drew)); exact Kd.R_mono HO_9.out (fun _ hk => ⟨hk.1, ⟨hk.2.1, ⟨hk.2.2, ⟨(by simp [Value.ownBlock]), hk.1⟩⟩⟩⟩)⟩, ⟨by (try simp only [hl9_1]); (try simp only [hl10_2]); (with_reducible repeat (first | apply Kd.R_alloc | apply Kd.R_drewN | apply Kd.R_drew)); exact Kd.R_mono HO_10.out (fun _ hk => ⟨hk.1, ⟨hk.2.1, ⟨hk.2.2, ⟨(by simp [Value.ownBlock]), hk.1⟩⟩⟩⟩)⟩, ⟨by (try simp only [hl9_1]); (try simp only [hl10_2]); first | exact Kd.R_nil _ _ _ _ _ | exact Kd.N_nil _ _ _ _ _ | exact Kd.V_nil _ _ _ _ _ | exact Kd.Q_nil _ _ _ _ _ | exact Kd.S_nil _ _ _ _ _⟩, ⟨by (try simp only [hl9_1]); (try simp only [hl10_2]); (with_reducible repeat (first | apply Kd.R_alloc | apply Kd.R_drewN | apply Kd.R_drew)); exact Kd.R_mono HO_6.out (fun _ hk => ⟨hk.1, ⟨hk.2.1, ⟨hk.2.2, (by simp [Value.ownBlock])⟩⟩⟩)⟩, ⟨by repeat (first | (with_reducible first | exact HB.out | apply below_alloc | apply pw_below_drewN | apply below_drew1 | refine below_set ?_ (IsS59.ge HI143.out)) | exact HB.out)⟩⟩
            case round =>
              clear H'
              try clear c1
              try clear p1
              try clear q1
              try clear hx1
              try clear c2
              try clear p2
              try clear q2
              try clear hx2
              try clear hf2
              try clear c3
              try clear c4
              try clear p4
              try clear q4
              try clear hx4
              try clear hf4
              try clear c5
              try clear p6
              try clear c9
              try clear c10
              try clear c11
              try clear p15
              try clear q15
              try clear hx15
              try clear c17
              try clear c21
              try clear c21b0
              try clear c23
              try clear c23b0
              try clear c24
              try clear c24b0
              try clear c25
              try clear c25b0
              try clear c26
              try clear c26b0
              try clear p27
              try clear q27
              try clear hx27
              try clear hf27
              try clear p28
              try clear q28
              try clear hx28
              try clear hf28
              try clear c34
              try clear c34b0
              try clear c36
              try clear c36b0
              try clear c37
              try clear c37b0
              try clear c38
              try clear c38b0
              try clear c39
              try clear c39b0
              try clear p40
              try clear q40
              try clear hx40
              try clear hf40
              try clear p41
              try clear q41
              try clear hx41
              try clear hf41
              try clear hx152_0
              try clear hx153_0
              try clear hx158_0
              try clear hx159_0
              try clear hx27_0
              try clear hx28_0
              try clear hx40_0
              try clear hx41_0
              try clear p1
              try clear p15
              try clear p152
              try clear p153
              try clear p158
              try clear p159
              try clear p2
              try clear p27
              try clear p28
              try clear p40
              try clear p41
              try clear p6
              try clear q1
              try clear q15
              try clear q152
              try clear q153
              try clear q158
              try clear q159
              try clear q2
              try clear q27
              try clear q28
              try clear q40
              try clear q41
              obtain ⟨x15_3, x78_3, rfl, HA, HK3, HO_6, HO_7, HO_9, HO_10, HO_15, HO_76, HB⟩ := hrel
              cases gk with
              | zero => exact absurd HA.out (by simp [synopticlaw39_SamplingErrors.l2])
              | succ k3 =>
                have H := HA.out
                clear HA
                simp only [synopticlaw39_SamplingErrors.l2] at H
                by_cases c46 : x78_3 < (t133.length : Int)
                · rw [if_pos c46] at H
                  have c46b0 : decide (x78_3 < (t133.length : Int)) = true := decide_eq_true c46
                  clear c46
                  by_cases c47 : 0 ≤ x78_3
                  · rw [if_pos c47] at H
                    have c47b0 : decide (0 ≤ x78_3) = true := decide_eq_true c47
                    clear c47
                    by_cases c48 : x78_3 < (t133.length : Int)
                    · rw [if_pos c48] at H
                      have c48b0 : decide (x78_3 < (t133.length : Int)) = true := decide_eq_true c48
                      clear c48
                      by_cases c49 : x15_3.length < 17592186044416
                      · rw [if_pos c49] at H
                        have LMc49 := Aside0.mk c49
                        clear c49
                        obtain ⟨y163, hy163⟩ : ∃ y_ : List Int, y_ = (x15_3 ++ [wrap64 (-(rd t133 x78_3))]) := ⟨_, rfl⟩
                        replace H : (synopticlaw39_SamplingErrors.l2 k3 t133 t137 x9_1 x10_2 y163 t133 (t133.length : Int) (wrap64 (x78_3 + 1))) = some r := by first | (rw [hy163]; with_reducible exact H) | (have H2_ := (Option.bind_some _ _).symm.trans H; rw [hy163]; with_reducible exact H2_) | (have H2_ := (Option.bind_some _ _).symm.trans H; with_reducible exact H2_) | with_reducible exact H | (rw [hy163]; exact H) | exact H
                        have Ny163 := Aside0.mk hy163
                        clear hy163
                        have H' := Aside0.mk H
                        clear H
                        have p162 : 0 ≤ (x78_3 : Int) := of_decide_eq_true (by first | (with_reducible assumption) | assumption)
                        have q162 : x78_3 < (t133.length : Int) := of_decide_eq_true (by first | (with_reducible assumption) | assumption)
                        obtain ⟨ad162, e162, hx162_0⟩ := Kd.at_int (Kd.R_reads' HO_76.out).2.2 x78_3 p162 q162
                        cases e162
                        replace p162 := eq_true p162
                        replace q162 := eq_true q162
                        go_wp2_with (first | ((with_reducible refine gate_builtin (b := .append) (xs := #[.tmp 82, .tmp 85]) rfl ?_); at_builtin; refine Kd.R_append (Kd.int .i64) (w0 := w) w.heap.size rfl (.tmp 82) (.tmp 85) 24 3 (.int .i64 0) 8 rfl Try.underlying24 info3 rfl (by decide) (by omega) u15 x15_3 (wrap64 (-(rd t133 x78_3))) [.int .i64 (wrap64 (-(rd t133 x78_3)))] (fun k_ => some k_ ≠ (.slice (some ad162) t133.length co17 : Value).ownBlock ∧ some k_ ≠ (.slice Ao19 t137.length co19 : Value).ownBlock ∧ some k_ ≠ (.slice Ao20 x9_1.length co20 : Value).ownBlock ∧ some k_ ≠ (.slice Ao33 x10_2.length co33 : Value).ownBlock ∧ some k_ ≠ (.slice (some ad162) t133.length co17 : Value).ownBlock) (fun _ => False) rfl rfl ?aP (fun _ hk => hk.elim) ?aF ?aO ?aB ?aS ?aL ?_; (case aP => exact rfl); (case aB => exact (by repeat (first | (with_reducible first | exact HB.out | apply below_alloc | apply pw_below_drewN | apply below_drew1) | exact HB.out))); (case aF => exact (fun k_ hk => ⟨Kd.fresh' (Kd.R_lt (by (with_reducible repeat (first | apply Kd.R_alloc | apply Kd.R_drewN | apply Kd.R_drew)); exact HO_6.out)) k_ hk, Kd.fresh' (Kd.R_lt (by (with_reducible repeat (first | apply Kd.R_alloc | apply Kd.R_drewN | apply Kd.R_drew)); exact HO_7.out)) k_ hk, Kd.fresh' (Kd.R_lt (by (with_reducible repeat (first | apply Kd.R_alloc | apply Kd.R_drewN | apply Kd.R_drew)); exact HO_9.out)) k_ hk, Kd.fresh' (Kd.R_lt (by (with_reducible repeat (first | apply Kd.R_alloc | apply Kd.R_drewN | apply Kd.R_drew)); exact HO_10.out)) k_ hk, Kd.fresh' (Kd.R_lt (by (with_reducible repeat (first | apply Kd.R_alloc | apply Kd.R_drewN | apply Kd.R_drew)); exact HO_76.out)) k_ hk⟩)); (case aO => exact (by (with_reducible repeat (first | apply Kd.R_alloc | apply Kd.R_drewN | apply Kd.R_drew)); exact HO_15.out)); (case aS => exact (below_size (by repeat (first | (with_reducible first | exact HB.out | apply below_alloc | apply pw_below_drewN | apply below_drew1) | exact HB.out)))); (case aL => have := LMc49.out; omega); intro v164 w50 ho hb hg hat; rw [← Ny163.out] at ho; have n0_ := Aside0.mk (Kd.R_after (ok := (fun k_ => some k_ ≠ (.slice Ao19 t137.length co19 : Value).ownBlock ∧ some k_ ≠ (.slice Ao20 x9_1.length co20 : Value).ownBlock ∧ some k_ ≠ (.slice Ao33 x10_2.length co33 : Value).ownBlock)) (by (with_reducible repeat (first | apply Kd.R_alloc | apply Kd.R_drewN | apply Kd.R_drew)); exact Kd.R_mono HO_6.out (fun _ hk => ⟨⟨hk.1, ⟨hk.2.1, hk.2.2.1⟩⟩, hk.2.2.2⟩)) hg hat); have n1_ := Aside0.mk (Kd.R_after (ok := (fun k_ => some k_ ≠ (.slice (some ad162) t133.length co17 : Value).ownBlock ∧ some k_ ≠ (.slice Ao20 x9_1.length co20 : Value).ownBlock ∧ some k_ ≠ (.slice Ao33 x10_2.length co33 : Value).ownBlock ∧ some k_ ≠ (.slice (some ad162) t133.length co17 : Value).ownBlock)) (by (with_reducible repeat (first | apply Kd.R_alloc | apply Kd.R_drewN | apply Kd.R_drew)); exact Kd.R_mono HO_7.out (fun _ hk => ⟨⟨hk.1, ⟨hk.2.1, ⟨hk.2.2.1, hk.2.2.2.2⟩⟩⟩, hk.2.2.2.1⟩)) hg hat); have n2_ := Aside0.mk (Kd.R_after (ok := (fun k_ => some k_ ≠ (.slice (some ad162) t133.length co17 : Value).ownBlock ∧ some k_ ≠ (.slice Ao19 t137.length co19 : Value).ownBlock ∧ some k_ ≠ (.slice Ao33 x10_2.length co33 : Value).ownBlock ∧ some k_ ≠ (.slice (some ad162) t133.length co17 : Value).ownBlock)) (by (with_reducible repeat (first | apply Kd.R_alloc | apply Kd.R_drewN | apply Kd.R_drew)); exact Kd.R_mono HO_9.out (fun _ hk => ⟨⟨hk.1, ⟨hk.2.1, ⟨hk.2.2.1, hk.2.2.2.2⟩⟩⟩, hk.2.2.2.1⟩)) hg hat); have n3_ := Aside0.mk (Kd.R_after (ok := (fun k_ => some k_ ≠ (.slice (some ad162) t133.length co17 : Value).ownBlock ∧ some k_ ≠ (.slice Ao19 t137.length co19 : Value).ownBlock ∧ some k_ ≠ (.slice Ao20 x9_1.length co20 : Value).ownBlock ∧ some k_ ≠ (.slice (some ad162) t133.length co17 : Value).ownBlock)) (by (with_reducible repeat (first | apply Kd.R_alloc | apply Kd.R_drewN | apply Kd.R_drew)); exact Kd.R_mono HO_10.out (fun _ hk => ⟨⟨hk.1, ⟨hk.2.1, ⟨hk.2.2.1, hk.2.2.2.2⟩⟩⟩, hk.2.2.2.1⟩)) hg hat); have n4_ := Aside0.mk (Kd.R_after (ok := (fun k_ => some k_ ≠ (.slice Ao19 t137.length co19 : Value).ownBlock ∧ some k_ ≠ (.slice Ao20 x9_1.length co20 : Value).ownBlock ∧ some k_ ≠ (.slice Ao33 x10_2.length co33 : Value).ownBlock)) (by (with_reducible repeat (first | apply Kd.R_alloc | apply Kd.R_drewN | apply Kd.R_drew)); exact Kd.R_mono HO_76.out (fun _ hk => ⟨⟨hk.1, ⟨hk.2.1, hk.2.2.1⟩⟩, hk.2.2.2⟩)) hg hat); have n5_ := Aside0.mk (hb); have n6_ := Aside0.mk (ho); clear HO_6; clear HO_7; clear HO_9; clear HO_10; clear HO_76; clear HB; clear HO_15; have HO_6 := n0_; have HO_7 := n1_; have HO_9 := n2_; have HO_10 := n3_; have HO_76 := n4_; have HB := n5_; have HO165 := n6_; clear n0_ n1_ n2_ n3_ n4_ n5_ n6_; clear ho hb hg hat))
                        go_roundg k3
                        case measure => have := HK2.out; have := HK3.out; omega
                        case rel => exact ⟨(y163), (wrap64 (x78_3 + 1)), (by first | rfl | (simp; done) | (simp [*]; done)), H', ⟨by have := HK2.out; have := HK3.out; omega⟩, ⟨by (try simp only [hl9_1]); (try simp only [hl10_2]); (with_reducible repeat (first | apply Kd.R_alloc | apply Kd.R_drewN | apply Kd.R_drew)); exact Kd.R_mono HO_6.out (fun _ hk => ⟨hk.1.1, ⟨hk.1.2.1, ⟨hk.1.2.2, hk.2⟩⟩⟩)⟩, ⟨by (try simp only [hl9_1]); (try simp only [hl10_2]); (with_reducible repeat (first | apply Kd.R_alloc | apply Kd.R_drewN | apply Kd.R_drew)); exact Kd.R_mono HO_7.out (fun _ hk => ⟨hk.1.1, ⟨hk.1.2.1, ⟨hk.1.2.2.1, ⟨hk.2, hk.1.2.2.2⟩⟩⟩⟩)⟩, ⟨by (try simp only [hl9_1]); (try simp only [hl10_2]); (with_reducible repeat (first | apply Kd.R_alloc | apply Kd.R_drewN | apply Kd.R_drew)); exact Kd.R_mono HO_9.out (fun _ hk => ⟨hk.1.1, ⟨hk.1.2.1, ⟨hk.1.2.2.1, ⟨hk.2, hk.1.2.2.2⟩⟩⟩⟩)⟩, ⟨by (try simp only [hl9_1]); (try simp only [hl10_2]); (with_reducible repeat (first | apply Kd.R_alloc | apply Kd.R_drewN | apply Kd.R_drew)); exact Kd.R_mono HO_10.out (fun _ hk => ⟨hk.1.1, ⟨hk.1.2.1, ⟨hk.1.2.2.1, ⟨hk.2, hk.1.2.2.2⟩⟩⟩⟩)⟩, ⟨by (try simp only [hl9_1]); (try simp only [hl10_2]); (with_reducible repeat (first | apply Kd.R_alloc | apply Kd.R_drewN | apply Kd.R_drew)); exact HO165.out⟩, ⟨by (try simp only [hl9_1]); (try simp only [hl10_2]); (with_reducible repeat (first | apply Kd.R_alloc | apply Kd.R_drewN | apply Kd.R_drew)); exact Kd.R_mono HO_76.out (fun _ hk => ⟨hk.1.1, ⟨hk.1.2.1, ⟨hk.1.2.2, hk.2⟩⟩⟩)⟩, ⟨by repeat (first | (with_reducible first | exact HB.out | apply below_alloc | apply pw_below_drewN | apply below_drew1) | exact HB.out)⟩⟩
                      · rw [if_neg c49] at H
                        exact absurd H (by simp)
                    · rw [if_neg c48] at H
                      exact absurd H (by simp)
                  · rw [if_neg c47] at H
                    exact absurd H (by simp)
                · rw [if_neg c46] at H
                  have c46b0 : decide (x78_3 < (t133.length : Int)) = false := decide_eq_false c46
                  clear c46
                  replace H := Option.bind_eq_some_iff.mp H
                  obtain ⟨⟨t166, t167, t168⟩, A510, H⟩ := H
                  replace H : ((sampling_Signs.f x9_1).bind fun bt170 => ((sampling_Signs.f x15_3).bind fun bt174 => ((sampling_Exchange.f t133 t137).bind fun bt178 => ((sampling_Exchange.f x9_1 x10_2).bind fun bt182 => (if t168 = 0 then (if bt170.2.2 = 0 then (if bt174.2.2 = 0 then (if bt178.2.2 = 0 then (if bt182.2.2 = 0 then (if (t166 == bt170.1 && (t167 == bt170.2.1)) = true then (if (bt170.1 == bt174.1 && (bt170.2.1 == bt174.2.1)) = true then (some (bt178.1 == bt182.1 && (bt178.2.1 == bt182.2.1))) else (none)) else (none)) else (none)) else (none)) else (none)) else (none)) else (none)))))) = some r := H
                  have A51 := Aside0.mk A510
                  clear A510
                  replace H := Option.bind_eq_some_iff.mp H
                  obtain ⟨⟨t170, t171, t172⟩, A520, H⟩ := H
                  replace H : ((sampling_Signs.f x15_3).bind fun bt174 => ((sampling_Exchange.f t133 t137).bind fun bt178 => ((sampling_Exchange.f x9_1 x10_2).bind fun bt182 => (if t168 = 0 then (if t172 = 0 then (if bt174.2.2 = 0 then (if bt178.2.2 = 0 then (if bt182.2.2 = 0 then (if (t166 == t170 && (t167 == t171)) = true then (if (t170 == bt174.1 && (t171 == bt174.2.1)) = true then (some (bt178.1 == bt182.1 && (bt178.2.1 == bt182.2.1))) else (none)) else (none)) else (none)) else (none)) else (none)) else (none)) else (none))))) = some r := H
                  have A52 := Aside0.mk A520
                  clear A520
                  replace H := Option.bind_eq_some_iff.mp H
                  obtain ⟨⟨t174, t175, t176⟩, A530, H⟩ := H
                  replace H : ((sampling_Exchange.f t133 t137).bind fun bt178 => ((sampling_Exchange.f x9_1 x10_2).bind fun bt182 => (if t168 = 0 then (if t172 = 0 then (if t176 = 0 then (if bt178.2.2 = 0 then (if bt182.2.2 = 0 then (if (t166 == t170 && (t167 == t171)) = true then (if (t170 == t174 && (t171 == t175)) = true then (some (bt178.1 == bt182.1 && (bt178.2.1 == bt182.2.1))) else (none)) else (none)) else (none)) else (none)) else (none)) else (none)) else (none)))) = some r := H
                  have A53 := Aside0.mk A530
                  clear A530
                  replace H := Option.bind_eq_some_iff.mp H
                  obtain ⟨⟨t178, t179, t180⟩, A540, H⟩ := H
                  replace H : ((sampling_Exchange.f x9_1 x10_2).bind fun bt182 => (if t168 = 0 then (if t172 = 0 then (if t176 = 0 then (if t180 = 0 then (if bt182.2.2 = 0 then (if (t166 == t170 && (t167 == t171)) = true then (if (t170 == t174 && (t171 == t175)) = true then (some (t178 == bt182.1 && (t179 == bt182.2.1))) else (none)) else (none)) else (none)) else (none)) else (none)) else (none)) else (none))) = some r := H
                  have A54 := Aside0.mk A540
                  clear A540
                  replace H := Option.bind_eq_some_iff.mp H
                  obtain ⟨⟨t182, t183, t184⟩, A550, H⟩ := H
                  replace H : (if t168 = 0 then (if t172 = 0 then (if t176 = 0 then (if t180 = 0 then (if t184 = 0 then (if (t166 == t170 && (t167 == t171)) = true then (if (t170 == t174 && (t171 == t175)) = true then (some (t178 == t182 && (t179 == t183))) else (none)) else (none)) else (none)) else (none)) else (none)) else (none)) else (none)) = some r := H
                  have A55 := Aside0.mk A550
                  clear A550
                  by_cases c56 : t168 = 0
                  · rw [if_pos c56] at H
                    have c56b0 : (t168 == 0) = true := beq_iff_eq.mpr c56
                    have c56b1 : (t168 != 0) = false := bne_eq_false_iff_eq.mpr c56
                    clear c56
                    by_cases c57 : t172 = 0
                    · rw [if_pos c57] at H
                      have c57b0 : (t172 == 0) = true := beq_iff_eq.mpr c57
                      have c57b1 : (t172 != 0) = false := bne_eq_false_iff_eq.mpr c57
                      clear c57
                      by_cases c58 : t176 = 0
                      · rw [if_pos c58] at H
                        have c58b0 : (t176 == 0) = true := beq_iff_eq.mpr c58
                        have c58b1 : (t176 != 0) = false := bne_eq_false_iff_eq.mpr c58
                        clear c58
                        by_cases c59 : t180 = 0
                        · rw [if_pos c59] at H
                          have c59b0 : (t180 == 0) = true := beq_iff_eq.mpr c59
                          have c59b1 : (t180 != 0) = false := bne_eq_false_iff_eq.mpr c59
                          clear c59
                          by_cases c60 : t184 = 0
                          · rw [if_pos c60] at H
                            have c60b0 : (t184 == 0) = true := beq_iff_eq.mpr c60
                            have c60b1 : (t184 != 0) = false := bne_eq_false_iff_eq.mpr c60
                            clear c60
                            by_cases c61 : (t166 == t170 && (t167 == t171)) = true
                            · rw [if_pos c61] at H
                              have c61b0 : (t166 == t170 && (t167 == t171)) = true := c61
                              (try (have c61b1 : decide (t166 = t170 && (t167 == t171)) = true := by simpa using c61))
                              (try (have c61b2 : (t166 == t170 && (t167 == t171)) = true := by simpa using c61))
                              clear c61
                              by_cases c62 : (t170 == t174 && (t171 == t175)) = true
                              · rw [if_pos c62] at H
                                have c62b0 : (t170 == t174 && (t171 == t175)) = true := c62
                                (try (have c62b1 : decide (t170 = t174 && (t171 == t175)) = true := by simpa using c62))
                                (try (have c62b2 : (t170 == t174 && (t171 == t175)) = true := by simpa using c62))
                                clear c62
                                obtain rfl := Option.some.inj H
                                go_wp2_with (first | ((with_reducible refine gate_callee (f := 12) rfl ?_); refine goesL_ (some 90) rfl rfl Try.func12 (by kernel_rfl) rfl #[.slice Ao17 t133.length co17] rfl (by (try simp only [List.map_toArray, List.map_cons, List.map_nil]); first | done | rfl | (simp only [List.length_drop, List.length_take]; rfl)) ?_; (with_reducible refine (sampling_Signs.calls _ _ t133 t166 t167 t168 _ ?side1 ?side2 A51.out).mono ?_); (case side1 => repeat (first | exact (Kd.R_reads' HO_6.out).2.2 | (with_reducible refine Kd.C_alloc ?_ _) | (with_reducible refine Kd.C_drewN ?_ _) | (with_reducible refine Kd.C_drew ?_))); (case side2 => exact (Kd.R_reads' HO_6.out).2.1); rintro e w63 ⟨rfl, hb⟩; refine ⟨_, rfl, ?_⟩; have n0_ := Aside0.mk (Kd.R_below (by (with_reducible repeat (first | apply Kd.R_alloc | apply Kd.R_drewN | apply Kd.R_drew)); exact HO_6.out) hb); have n1_ := Aside0.mk (Kd.R_below (by (with_reducible repeat (first | apply Kd.R_alloc | apply Kd.R_drewN | apply Kd.R_drew)); exact HO_7.out) hb); have n2_ := Aside0.mk (Kd.R_below (by (with_reducible repeat (first | apply Kd.R_alloc | apply Kd.R_drewN | apply Kd.R_drew)); exact HO_9.out) hb); have n3_ := Aside0.mk (Kd.R_below (by (with_reducible repeat (first | apply Kd.R_alloc | apply Kd.R_drewN | apply Kd.R_drew)); exact HO_10.out) hb); have n4_ := Aside0.mk (Kd.R_below (by (with_reducible repeat (first | apply Kd.R_alloc | apply Kd.R_drewN | apply Kd.R_drew)); exact HO_15.out) hb); have n5_ := Aside0.mk (Kd.R_below (by (with_reducible repeat (first | apply Kd.R_alloc | apply Kd.R_drewN | apply Kd.R_drew)); exact HO_76.out) hb); have n6_ := Aside0.mk (below_step (by repeat (first | (with_reducible first | exact HB.out | apply below_alloc | apply pw_below_drewN | apply below_drew1) | exact HB.out)) hb); clear HO_6; clear HO_7; clear HO_9; clear HO_10; clear HO_15; clear HO_76; clear HB; have HO_6 := n0_; have HO_7 := n1_; have HO_9 := n2_; have HO_10 := n3_; have HO_15 := n4_; have HO_76 := n5_; have HB := n6_; clear n0_ n1_ n2_ n3_ n4_ n5_ n6_; (try clear hb); (try clear hb2); (try clear hk); (try clear hi)) | ((with_reducible refine gate_dst (N := 18) rfl ?_); refine box_event ?hg (N := 18) ?hd (cs := #[.int .i64 0, .int .i64 0]) (t := 31) ?hr ?_; (case hd => rfl); (case hg => rfl); (case hr => first | (go_simp; done) | (go_simp; rfl)); intro gb169 hg w64 hbox hb; have n0_ := Aside0.mk (Kd.R_below (by (with_reducible repeat (first | apply Kd.R_alloc | apply Kd.R_drewN | apply Kd.R_drew)); exact HO_6.out) hb); have n1_ := Aside0.mk (Kd.R_below (by (with_reducible repeat (first | apply Kd.R_alloc | apply Kd.R_drewN | apply Kd.R_drew)); exact HO_7.out) hb); have n2_ := Aside0.mk (Kd.R_below (by (with_reducible repeat (first | apply Kd.R_alloc | apply Kd.R_drewN | apply Kd.R_drew)); exact HO_9.out) hb); have n3_ := Aside0.mk (Kd.R_below (by (with_reducible repeat (first | apply Kd.R_alloc | apply Kd.R_drewN | apply Kd.R_drew)); exact HO_10.out) hb); have n4_ := Aside0.mk (Kd.R_below (by (with_reducible repeat (first | apply Kd.R_alloc | apply Kd.R_drewN | apply Kd.R_drew)); exact HO_15.out) hb); have n5_ := Aside0.mk (Kd.R_below (by (with_reducible repeat (first | apply Kd.R_alloc | apply Kd.R_drewN | apply Kd.R_drew)); exact HO_76.out) hb); have n6_ := Aside0.mk (below_step (by repeat (first | (with_reducible first | exact HB.out | apply below_alloc | apply pw_below_drewN | apply below_drew1) | exact HB.out)) hb); have n7_ := Aside0.mk (hbox); have n8_ := Aside0.mk ((by rw [hg]; exact (below_size (by repeat (first | (with_reducible first | exact HB.out | apply below_alloc | apply pw_below_drewN | apply below_drew1) | exact HB.out))) : w.heap.size ≤ gb169)); have n9_ := Aside0.mk ((by rw [hg]; exact (below_size (by repeat (first | (with_reducible first | exact HB.out | apply below_alloc | apply pw_below_drewN | apply below_drew1) | exact HB.out))) : w.heap.size ≤ gb169)); clear HO_6; clear HO_7; clear HO_9; clear HO_10; clear HO_15; clear HO_76; clear HB; have HO_6 := n0_; have HO_7 := n1_; have HO_9 := n2_; have HO_10 := n3_; have HO_15 := n4_; have HO_76 := n5_; have HB := n6_; have BK169 := n7_; have GW169 := n8_; have GE169 := n9_; clear n0_ n1_ n2_ n3_ n4_ n5_ n6_ n7_ n8_ n9_; clear hb hbox hg; have hcz65_0 : w64.cell? ⟨gb169, 0, none⟩ = some (.int .i64 0) := (blk_cell BK169.out 0).trans rfl; have hcz65_1 : w64.cell? ⟨gb169, 1, none⟩ = some (.int .i64 0) := (blk_cell BK169.out 1).trans rfl; have hfz65_0 := blk_frozen BK169.out 0; have hfz65_1 := blk_frozen BK169.out 1) | ((with_reducible refine gate_store (t := 31) (p := 18) rfl ?_); refine store_event (t := 31) (p := 18) (v := ?vo_w66) (w1 := ((w64.setCell ⟨gb169, 0, none⟩ (.int .i64 t166)).setCell ⟨gb169, 1, none⟩ (.int .i64 t167))) ?hg ?ho ?hn ?hr ?_; (case ho => rfl); (case hg => rfl); (case hn => rfl); (case hr => first | (go_simp; done) | (go_simp; rfl)); intro w66 hw; have n0_ : Aside0 (Kd.R (Kd.int .i64) 3 w66 w.heap.size (fun k_ => some k_ ≠ (.slice Ao19 t137.length co19 : Value).ownBlock ∧ some k_ ≠ (.slice Ao20 x9_1.length co20 : Value).ownBlock ∧ some k_ ≠ (.slice Ao33 x10_2.length co33 : Value).ownBlock ∧ some k_ ≠ (u15 : Value).ownBlock) (.slice Ao17 t133.length co17) t133) := ⟨(by rw [hw]; exact (by (with_reducible repeat (first | apply Kd.R_alloc | apply Kd.R_drewN | apply Kd.R_drew)); exact Kd.R_mono (Kd.R_far (p := ⟨gb169, 1, none⟩) (Kd.R_far (p := ⟨gb169, 0, none⟩) (Kd.R_types HO_6.out BK169.out (by decide)) (fun _ hk => hk.2) (.int .i64 t166)) (fun _ hk => hk.2) (.int .i64 t167)) (fun _ hk => ⟨hk.1.1, ⟨hk.1.2.1, ⟨hk.1.2.2.1, hk.1.2.2.2⟩⟩⟩)))⟩; have n1_ : Aside0 (Kd.R (Kd.int .i64) 3 w66 w.heap.size (fun k_ => some k_ ≠ (.slice Ao17 t133.length co17 : Value).ownBlock ∧ some k_ ≠ (.slice Ao20 x9_1.length co20 : Value).ownBlock ∧ some k_ ≠ (.slice Ao33 x10_2.length co33 : Value).ownBlock ∧ some k_ ≠ (u15 : Value).ownBlock ∧ some k_ ≠ (.slice Ao17 t133.length co17 : Value).ownBlock) (.slice Ao19 t137.length co19) t137) := ⟨(by rw [hw]; exact (by (with_reducible repeat (first | apply Kd.R_alloc | apply Kd.R_drewN | apply Kd.R_drew)); exact Kd.R_mono (Kd.R_far (p := ⟨gb169, 1, none⟩) (Kd.R_far (p := ⟨gb169, 0, none⟩) (Kd.R_types HO_7.out BK169.out (by decide)) (fun _ hk => hk.2) (.int .i64 t166)) (fun _ hk => hk.2) (.int .i64 t167)) (fun _ hk => ⟨hk.1.1, ⟨hk.1.2.1, ⟨hk.1.2.2.1, ⟨hk.1.2.2.2.1, hk.1.2.2.2.2⟩⟩⟩⟩)))⟩; have n2_ : Aside0 (Kd.R (Kd.int .i64) 3 w66 w.heap.size (fun k_ => some k_ ≠ (.slice Ao17 t133.length co17 : Value).ownBlock ∧ some k_ ≠ (.slice Ao19 t137.length co19 : Value).ownBlock ∧ some k_ ≠ (.slice Ao33 x10_2.length co33 : Value).ownBlock ∧ some k_ ≠ (u15 : Value).ownBlock ∧ some k_ ≠ (.slice Ao17 t133.length co17 : Value).ownBlock) (.slice Ao20 x9_1.length co20) x9_1) := ⟨(by rw [hw]; exact (by (with_reducible repeat (first | apply Kd.R_alloc | apply Kd.R_drewN | apply Kd.R_drew)); exact Kd.R_mono (Kd.R_far (p := ⟨gb169, 1, none⟩) (Kd.R_far (p := ⟨gb169, 0, none⟩) (Kd.R_types HO_9.out BK169.out (by decide)) (fun _ hk => hk.2) (.int .i64 t166)) (fun _ hk => hk.2) (.int .i64 t167)) (fun _ hk => ⟨hk.1.1, ⟨hk.1.2.1, ⟨hk.1.2.2.1, ⟨hk.1.2.2.2.1, hk.1.2.2.2.2⟩⟩⟩⟩)))⟩; have n3_ : Aside0 (Kd.R (Kd.int .i64) 3 w66 w.heap.size (fun k_ => some k_ ≠ (.slice Ao17 t133.length co17 : Value).ownBlock ∧ some k_ ≠ (.slice Ao19 t137.length co19 : Value).ownBlock ∧ some k_ ≠ (.slice Ao20 x9_1.length co20 : Value).ownBlock ∧ some k_ ≠ (u15 : Value).ownBlock ∧ some k_ ≠ (.slice Ao17 t133.length co17 : Value).ownBlock) (.slice Ao33 x10_2.length co33) x10_2) := ⟨(by rw [hw]; exact (by (with_reducible repeat (first | apply Kd.R_alloc | apply Kd.R_drewN | apply Kd.R_drew)); exact Kd.R_mono (Kd.R_far (p := ⟨gb169, 1, none⟩) (Kd.R_far (p := ⟨gb169, 0, none⟩) (Kd.R_types HO_10.out BK169.out (by decide)) (fun _ hk => hk.2) (.int .i64 t166)) (fun _ hk => hk.2) (.int .i64 t167)) (fun _ hk => ⟨hk.1.1, ⟨hk.1.2.1, ⟨hk.1.2.2.1, ⟨hk.1.2.2.2.1, hk.1.2.2.2.2⟩⟩⟩⟩)))⟩; have n4_ : Aside0 (Kd.R (Kd.int .i64) 3 w66 w.heap.size (fun k_ => some k_ ≠ (.slice Ao17 t133.length co17 : Value).ownBlock ∧ some k_ ≠ (.slice Ao19 t137.length co19 : Value).ownBlock ∧ some k_ ≠ (.slice Ao20 x9_1.length co20 : Value).ownBlock ∧ some k_ ≠ (.slice Ao33 x10_2.length co33 : Value).ownBlock ∧ some k_ ≠ (.slice Ao17 t133.length co17 : Value).ownBlock) u15 x15_3) := ⟨(by rw [hw]; exact (by (with_reducible repeat (first | apply Kd.R_alloc | apply Kd.R_drewN | apply Kd.R_drew)); exact Kd.R_mono (Kd.R_far (p := ⟨gb169, 1, none⟩) (Kd.R_far (p := ⟨gb169, 0, none⟩) (Kd.R_types HO_15.out BK169.out (by decide)) (fun _ hk => hk.2) (.int .i64 t166)) (fun _ hk => hk.2) (.int .i64 t167)) (fun _ hk => ⟨hk.1.1, ⟨hk.1.2.1, ⟨hk.1.2.2.1, ⟨hk.1.2.2.2.1, hk.1.2.2.2.2⟩⟩⟩⟩)))⟩; have n5_ : Aside0 (Kd.R (Kd.int .i64) 3 w66 w.heap.size (fun k_ => some k_ ≠ (.slice Ao19 t137.length co19 : Value).ownBlock ∧ some k_ ≠ (.slice Ao20 x9_1.length co20 : Value).ownBlock ∧ some k_ ≠ (.slice Ao33 x10_2.length co33 : Value).ownBlock ∧ some k_ ≠ (u15 : Value).ownBlock) (.slice Ao17 t133.length co17) t133) := ⟨(by rw [hw]; exact (by (with_reducible repeat (first | apply Kd.R_alloc | apply Kd.R_drewN | apply Kd.R_drew)); exact Kd.R_mono (Kd.R_far (p := ⟨gb169, 1, none⟩) (Kd.R_far (p := ⟨gb169, 0, none⟩) (Kd.R_types HO_76.out BK169.out (by decide)) (fun _ hk => hk.2) (.int .i64 t166)) (fun _ hk => hk.2) (.int .i64 t167)) (fun _ hk => ⟨hk.1.1, ⟨hk.1.2.1, ⟨hk.1.2.2.1, hk.1.2.2.2⟩⟩⟩)))⟩; have n6_ : Aside0 (w66.heap[gb169]? = some (.cells #[.int .i64 t166, .int .i64 t167] 31 (0, 0))) := ⟨(by rw [hw]; exact (by (with_reducible repeat (first | refine blk_drewN ?_ _ | refine blk_drew ?_ | refine blk_alloc ?_ _)); refine blk_put (cs := #[.int .i64 t166, .int .i64 0]) ?_ 1 _ rfl; (with_reducible repeat (first | refine blk_drewN ?_ _ | refine blk_drew ?_ | refine blk_alloc ?_ _)); refine blk_put (cs := #[.int .i64 0, .int .i64 0]) ?_ 0 _ rfl; (with_reducible repeat (first | refine blk_drewN ?_ _ | refine blk_drew ?_ | refine blk_alloc ?_ _)); exact BK169.out))⟩; have n7_ : Aside0 (Below w.heap.size w w66) := ⟨(by rw [hw]; exact (by repeat (first | (with_reducible first | exact HB.out | apply below_alloc | apply pw_below_drewN | apply below_drew1 | refine below_set ?_ GE169.out) | exact HB.out)))⟩; clear hw; clear HO_6; clear HO_7; clear HO_9; clear HO_10; clear HO_15; clear HO_76; clear BK169; clear HB; have HO_6 := n0_; have HO_7 := n1_; have HO_9 := n2_; have HO_10 := n3_; have HO_15 := n4_; have HO_76 := n5_; have BK169 := n6_; have HB := n7_; clear n0_ n1_ n2_ n3_ n4_ n5_ n6_ n7_) | ((with_reducible refine gate_callee (f := 12) rfl ?_); refine goesL_ (some 95) rfl rfl Try.func12 (by kernel_rfl) rfl #[.slice Ao20 x9_1.length co20] rfl (by (try simp only [List.map_toArray, List.map_cons, List.map_nil]); first | done | rfl | (simp only [List.length_drop, List.length_take]; rfl)) ?_; (with_reducible refine (sampling_Signs.calls _ _ x9_1 t170 t171 t172 _ ?side1 ?side2 A52.out).mono ?_); (case side1 => repeat (first | exact (Kd.R_reads' HO_9.out).2.2 | (with_reducible refine Kd.C_alloc ?_ _) | (with_reducible refine Kd.C_drewN ?_ _) | (with_reducible refine Kd.C_drew ?_))); (case side2 => exact (Kd.R_reads' HO_9.out).2.1); rintro e w67 ⟨rfl, hb⟩; refine ⟨_, rfl, ?_⟩; have n0_ := Aside0.mk (Kd.R_below (by (with_reducible repeat (first | apply Kd.R_alloc | apply Kd.R_drewN | apply Kd.R_drew)); exact HO_6.out) hb); have n1_ := Aside0.mk (Kd.R_below (by (with_reducible repeat (first | apply Kd.R_alloc | apply Kd.R_drewN | apply Kd.R_drew)); exact HO_7.out) hb); have n2_ := Aside0.mk (Kd.R_below (by (with_reducible repeat (first | apply Kd.R_alloc | apply Kd.R_drewN | apply Kd.R_drew)); exact HO_9.out) hb); have n3_ := Aside0.mk (Kd.R_below (by (with_reducible repeat (first | apply Kd.R_alloc | apply Kd.R_drewN | apply Kd.R_drew)); exact HO_10.out) hb); have n4_ := Aside0.mk (Kd.R_below (by (with_reducible repeat (first | apply Kd.R_alloc | apply Kd.R_drewN | apply Kd.R_drew)); exact HO_15.out) hb); have n5_ := Aside0.mk (Kd.R_below (by (with_reducible repeat (first | apply Kd.R_alloc | apply Kd.R_drewN | apply Kd.R_drew)); exact HO_76.out) hb); have n6_ := Aside0.mk (blk_below (g := gb169) (o := .cells #[.int .i64 t166, .int .i64 t167] 31 (0, 0)) (by (with_reducible repeat (first | refine blk_drewN ?_ _ | refine blk_drew ?_ | refine blk_alloc ?_ _)); exact BK169.out) hb); have n7_ := Aside0.mk (below_step (by repeat (first | (with_reducible first | exact HB.out | apply below_alloc | apply pw_below_drewN | apply below_drew1 | refine below_set ?_ GE169.out) | exact HB.out)) hb); clear HO_6; clear HO_7; clear HO_9; clear HO_10; clear HO_15; clear HO_76; clear BK169; clear HB; have HO_6 := n0_; have HO_7 := n1_; have HO_9 := n2_; have HO_10 := n3_; have HO_15 := n4_; have HO_76 := n5_; have BK169 := n6_; have HB := n7_; clear n0_ n1_ n2_ n3_ n4_ n5_ n6_ n7_; (try clear hb); (try clear hb2); (try clear hk); (try clear hi)) | ((with_reducible refine gate_dst (N := 20) rfl ?_); refine box_event ?hg (N := 20) ?hd (cs := #[.int .i64 0, .int .i64 0]) (t := 31) ?hr ?_; (case hd => rfl); (case hg => rfl); (case hr => first | (go_simp; done) | (go_simp; rfl)); intro gb173 hg w68 hbox hb; have n0_ := Aside0.mk (Kd.R_below (by (with_reducible repeat (first | apply Kd.R_alloc | apply Kd.R_drewN | apply Kd.R_drew)); exact HO_6.out) hb); have n1_ := Aside0.mk (Kd.R_below (by (with_reducible repeat (first | apply Kd.R_alloc | apply Kd.R_drewN | apply Kd.R_drew)); exact HO_7.out) hb); have n2_ := Aside0.mk (Kd.R_below (by (with_reducible repeat (first | apply Kd.R_alloc | apply Kd.R_drewN | apply Kd.R_drew)); exact HO_9.out) hb); have n3_ := Aside0.mk (Kd.R_below (by (with_reducible repeat (first | apply Kd.R_alloc | apply Kd.R_drewN | apply Kd.R_drew)); exact HO_10.out) hb); have n4_ := Aside0.mk (Kd.R_below (by (with_reducible repeat (first | apply Kd.R_alloc | apply Kd.R_drewN | apply Kd.R_drew)); exact HO_15.out) hb); have n5_ := Aside0.mk (Kd.R_below (by (with_reducible repeat (first | apply Kd.R_alloc | apply Kd.R_drewN | apply Kd.R_drew)); exact HO_76.out) hb); have n6_ := Aside0.mk (blk_below (g := gb169) (o := .cells #[.int .i64 t166, .int .i64 t167] 31 (0, 0)) (by (with_reducible repeat (first | refine blk_drewN ?_ _ | refine blk_drew ?_ | refine blk_alloc ?_ _)); exact BK169.out) hb); have n7_ := Aside0.mk (below_step (by repeat (first | (with_reducible first | exact HB.out | apply below_alloc | apply pw_below_drewN | apply below_drew1 | refine below_set ?_ GE169.out) | exact HB.out)) hb); have n8_ := Aside0.mk (hbox); have n9_ := Aside0.mk ((by rw [hg]; exact (below_size (by repeat (first | (with_reducible first | exact HB.out | apply below_alloc | apply pw_below_drewN | apply below_drew1 | refine below_set ?_ GE169.out) | exact HB.out))) : w.heap.size ≤ gb173)); have n10_ := Aside0.mk ((by rw [hg]; exact (below_size (by repeat (first | (with_reducible first | exact HB.out | apply below_alloc | apply pw_below_drewN | apply below_drew1 | refine below_set ?_ GE169.out) | exact HB.out))) : w.heap.size ≤ gb173)); have n11_ := Aside0.mk ((by rw [hg]; exact Nat.ne_of_lt (blk_lt (g := gb169) (o := .cells #[.int .i64 t166, .int .i64 t167] 31 (0, 0)) (by (with_reducible repeat (first | refine blk_drewN ?_ _ | refine blk_drew ?_ | refine blk_alloc ?_ _)); exact BK169.out)) : gb169 ≠ gb173)); have n12_ := Aside0.mk ((by rw [hg]; exact Nat.ne_of_gt (blk_lt (g := gb169) (o := .cells #[.int .i64 t166, .int .i64 t167] 31 (0, 0)) (by (with_reducible repeat (first | refine blk_drewN ?_ _ | refine blk_drew ?_ | refine blk_alloc ?_ _)); exact BK169.out)) : gb173 ≠ gb169)); clear HO_6; clear HO_7; clear HO_9; clear HO_10; clear HO_15; clear HO_76; clear BK169; clear HB; have HO_6 := n0_; have HO_7 := n1_; have HO_9 := n2_; have HO_10 := n3_; have HO_15 := n4_; have HO_76 := n5_; have BK169 := n6_; have HB := n7_; have BK173 := n8_; have GW173 := n9_; have GE173 := n10_; have NB169_173 := n11_; have NB173_169 := n12_; clear n0_ n1_ n2_ n3_ n4_ n5_ n6_ n7_ n8_ n9_ n10_ n11_ n12_; clear hb hbox hg; have hnb69 := NB173_169.out; have hnc69 := NB169_173.out; have hcz70_0 : w68.cell? ⟨gb173, 0, none⟩ = some (.int .i64 0) := (blk_cell BK173.out 0).trans rfl; have hcz70_1 : w68.cell? ⟨gb173, 1, none⟩ = some (.int .i64 0) := (blk_cell BK173.out 1).trans rfl; have hfz70_0 := blk_frozen BK173.out 0; have hfz70_1 := blk_frozen BK173.out 1) | ((with_reducible refine gate_store (t := 31) (p := 20) rfl ?_); refine store_event (t := 31) (p := 20) (v := ?vo_w71) (w1 := ((w68.setCell ⟨gb173, 0, none⟩ (.int .i64 t170)).setCell ⟨gb173, 1, none⟩ (.int .i64 t171))) ?hg ?ho ?hn ?hr ?_; (case ho => rfl); (case hg => rfl); (case hn => rfl); (case hr => first | (go_simp; done) | (go_simp; rfl)); intro w71 hw; have n0_ : Aside0 (Kd.R (Kd.int .i64) 3 w71 w.heap.size (fun k_ => some k_ ≠ (.slice Ao19 t137.length co19 : Value).ownBlock ∧ some k_ ≠ (.slice Ao20 x9_1.length co20 : Value).ownBlock ∧ some k_ ≠ (.slice Ao33 x10_2.length co33 : Value).ownBlock ∧ some k_ ≠ (u15 : Value).ownBlock) (.slice Ao17 t133.length co17) t133) := ⟨(by rw [hw]; exact (by (with_reducible repeat (first | apply Kd.R_alloc | apply Kd.R_drewN | apply Kd.R_drew)); exact Kd.R_mono (Kd.R_far (p := ⟨gb173, 1, none⟩) (Kd.R_far (p := ⟨gb173, 0, none⟩) (Kd.R_types HO_6.out BK173.out (by decide)) (fun _ hk => hk.2) (.int .i64 t170)) (fun _ hk => hk.2) (.int .i64 t171)) (fun _ hk => ⟨hk.1.1, ⟨hk.1.2.1, ⟨hk.1.2.2.1, hk.1.2.2.2⟩⟩⟩)))⟩; have n1_ : Aside0 (Kd.R (Kd.int .i64) 3 w71 w.heap.size (fun k_ => some k_ ≠ (.slice Ao17 t133.length co17 : Value).ownBlock ∧ some k_ ≠ (.slice Ao20 x9_1.length co20 : Value).ownBlock ∧ some k_ ≠ (.slice Ao33 x10_2.length co33 : Value).ownBlock ∧ some k_ ≠ (u15 : Value).ownBlock ∧ some k_ ≠ (.slice Ao17 t133.length co17 : Value).ownBlock) (.slice Ao19 t137.length co19) t137) := ⟨(by rw [hw]; exact (by (with_reducible repeat (first | apply Kd.R_alloc | apply Kd.R_drewN | apply Kd.R_drew)); exact Kd.R_mono (Kd.R_far (p := ⟨gb173, 1, none⟩) (Kd.R_far (p := ⟨gb173, 0, none⟩) (Kd.R_types HO_7.out BK173.out (by decide)) (fun _ hk => hk.2) (.int .i64 t170)) (fun _ hk => hk.2) (.int .i64 t171)) (fun _ hk => ⟨hk.1.1, ⟨hk.1.2.1, ⟨hk.1.2.2.1, ⟨hk.1.2.2.2.1, hk.1.2.2.2.2⟩⟩⟩⟩)))⟩; have n2_ : Aside0 (Kd.R (Kd.int .i64) 3 w71 w.heap.size (fun k_ => some k_ ≠ (.slice Ao17 t133.length co17 : Value).ownBlock ∧ some k_ ≠ (.slice Ao19 t137.length co19 : Value).ownBlock ∧ some k_ ≠ (.slice Ao33 x10_2.length co33 : Value).ownBlock ∧ some k_ ≠ (u15 : Value).ownBlock ∧ some k_ ≠ (.slice Ao17 t133.length co17 : Value).ownBlock) (.slice Ao20 x9_1.length co20) x9_1) := ⟨(by rw [hw]; exact (by (with_reducible repeat (first | apply Kd.R_alloc | apply Kd.R_drewN | apply Kd.R_drew)); exact Kd.R_mono (Kd.R_far (p := ⟨gb173, 1, none⟩) (Kd.R_far (p := ⟨gb173, 0, none⟩) (Kd.R_types HO_9.out BK173.out (by decide)) (fun _ hk => hk.2) (.int .i64 t170)) (fun _ hk => hk.2) (.int .i64 t171)) (fun _ hk => ⟨hk.1.1, ⟨hk.1.2.1, ⟨hk.1.2.2.1, ⟨hk.1.2.2.2.1, hk.1.2.2.2.2⟩⟩⟩⟩)))⟩; have n3_ : Aside0 (Kd.R (Kd.int .i64) 3 w71 w.heap.size (fun k_ => some k_ ≠ (.slice Ao17 t133.length co17 : Value).ownBlock ∧ some k_ ≠ (.slice Ao19 t137.length co19 : Value).ownBlock ∧ some k_ ≠ (.slice Ao20 x9_1.length co20 : Value).ownBlock ∧ some k_ ≠ (u15 : Value).ownBlock ∧ some k_ ≠ (.slice Ao17 t133.length co17 : Value).ownBlock) (.slice Ao33 x10_2.length co33) x10_2) := ⟨(by rw [hw]; exact (by (with_reducible repeat (first | apply Kd.R_alloc | apply Kd.R_drewN | apply Kd.R_drew)); exact Kd.R_mono (Kd.R_far (p := ⟨gb173, 1, none⟩) (Kd.R_far (p := ⟨gb173, 0, none⟩) (Kd.R_types HO_10.out BK173.out (by decide)) (fun _ hk => hk.2) (.int .i64 t170)) (fun _ hk => hk.2) (.int .i64 t171)) (fun _ hk => ⟨hk.1.1, ⟨hk.1.2.1, ⟨hk.1.2.2.1, ⟨hk.1.2.2.2.1, hk.1.2.2.2.2⟩⟩⟩⟩)))⟩; have n4_ : Aside0 (Kd.R (Kd.int .i64) 3 w71 w.heap.size (fun k_ => some k_ ≠ (.slice Ao17 t133.length co17 : Value).ownBlock ∧ some k_ ≠ (.slice Ao19 t137.length co19 : Value).ownBlock ∧ some k_ ≠ (.slice Ao20 x9_1.length co20 : Value).ownBlock ∧ some k_ ≠ (.slice Ao33 x10_2.length co33 : Value).ownBlock ∧ some k_ ≠ (.slice Ao17 t133.length co17 : Value).ownBlock) u15 x15_3) := ⟨(by rw [hw]; exact (by (with_reducible repeat (first | apply Kd.R_alloc | apply Kd.R_drewN | apply Kd.R_drew)); exact Kd.R_mono (Kd.R_far (p := ⟨gb173, 1, none⟩) (Kd.R_far (p := ⟨gb173, 0, none⟩) (Kd.R_types HO_15.out BK173.out (by decide)) (fun _ hk => hk.2) (.int .i64 t170)) (fun _ hk => hk.2) (.int .i64 t171)) (fun _ hk => ⟨hk.1.1, ⟨hk.1.2.1, ⟨hk.1.2.2.1, ⟨hk.1.2.2.2.1, hk.1.2.2.2.2⟩⟩⟩⟩)))⟩; have n5_ : Aside0 (Kd.R (Kd.int .i64) 3 w71 w.heap.size (fun k_ => some k_ ≠ (.slice Ao19 t137.length co19 : Value).ownBlock ∧ some k_ ≠ (.slice Ao20 x9_1.length co20 : Value).ownBlock ∧ some k_ ≠ (.slice Ao33 x10_2.length co33 : Value).ownBlock ∧ some k_ ≠ (u15 : Value).ownBlock) (.slice Ao17 t133.length co17) t133) := ⟨(by rw [hw]; exact (by (with_reducible repeat (first | apply Kd.R_alloc | apply Kd.R_drewN | apply Kd.R_drew)); exact Kd.R_mono (Kd.R_far (p := ⟨gb173, 1, none⟩) (Kd.R_far (p := ⟨gb173, 0, none⟩) (Kd.R_types HO_76.out BK173.out (by decide)) (fun _ hk => hk.2) (.int .i64 t170)) (fun _ hk => hk.2) (.int .i64 t171)) (fun _ hk => ⟨hk.1.1, ⟨hk.1.2.1, ⟨hk.1.2.2.1, hk.1.2.2.2⟩⟩⟩)))⟩; have n6_ : Aside0 (w71.heap[gb169]? = some (.cells #[.int .i64 t166, .int .i64 t167] 31 (0, 0))) := ⟨(by rw [hw]; exact (by (with_reducible repeat (first | refine blk_drewN ?_ _ | refine blk_drew ?_ | refine blk_alloc ?_ _)); refine blk_far ?_ NB169_173.out _; (with_reducible repeat (first | refine blk_drewN ?_ _ | refine blk_drew ?_ | refine blk_alloc ?_ _)); refine blk_far ?_ NB169_173.out _; (with_reducible repeat (first | refine blk_drewN ?_ _ | refine blk_drew ?_ | refine blk_alloc ?_ _)); exact BK169.out))⟩; have n7_ : Aside0 (w71.heap[gb173]? = some (.cells #[.int .i64 t170, .int .i64 t171] 31 (0, 0))) := ⟨(by rw [hw]; exact (by (with_reducible repeat (first | refine blk_drewN ?_ _ | refine blk_drew ?_ | refine blk_alloc ?_ _)); refine blk_put (cs := #[.int .i64 t170, .int .i64 0]) ?_ 1 _ rfl; (with_reducible repeat (first | refine blk_drewN ?_ _ | refine blk_drew ?_ | refine blk_alloc ?_ _)); refine blk_put (cs := #[.int .i64 0, .int .i64 0]) ?_ 0 _ rfl; (with_reducible repeat (first | refine blk_drewN ?_ _ | refine blk_drew ?_ | refine blk_alloc ?_ _)); exact BK173.out))⟩; have n8_ : Aside0 (Below w.heap.size w w71) := ⟨(by rw [hw]; exact (by repeat (first | (with_reducible first | exact HB.out | apply below_alloc | apply pw_below_drewN | apply below_drew1 | refine below_set ?_ GE169.out | refine below_set ?_ GE173.out) | exact HB.out)))⟩; clear hw; clear HO_6; clear HO_7; clear HO_9; clear HO_10; clear HO_15; clear HO_76; clear BK169; clear BK173; clear HB; have HO_6 := n0_; have HO_7 := n1_; have HO_9 := n2_; have HO_10 := n3_; have HO_15 := n4_; have HO_76 := n5_; have BK169 := n6_; have BK173 := n7_; have HB := n8_; clear n0_ n1_ n2_ n3_ n4_ n5_ n6_ n7_ n8_; obtain ⟨Ao72, co72, eo72⟩ := Kd.R_slice HO_15.out; subst eo72) | ((with_reducible refine gate_callee (f := 12) rfl ?_); refine goesL_ (some 100) rfl rfl Try.func12 (by kernel_rfl) rfl #[.slice Ao72 x15_3.length co72] rfl (by (try simp only [List.map_toArray, List.map_cons, List.map_nil]); first | done | rfl | (simp only [List.length_drop, List.length_take]; rfl)) ?_; (with_reducible refine (sampling_Signs.calls _ _ x15_3 t174 t175 t176 _ ?side1 ?side2 A53.out).mono ?_); (case side1 => repeat (first | exact (Kd.R_reads' HO_15.out).2.2 | (with_reducible refine Kd.C_alloc ?_ _) | (with_reducible refine Kd.C_drewN ?_ _) | (with_reducible refine Kd.C_drew ?_))); (case side2 => exact (Kd.R_reads' HO_15.out).2.1); rintro e w73 ⟨rfl, hb⟩; refine ⟨_, rfl, ?_⟩; have n0_ := Aside0.mk (Kd.R_below (by (with_reducible repeat (first | apply Kd.R_alloc | apply Kd.R_drewN | apply Kd.R_drew)); exact HO_6.out) hb); have n1_ := Aside0.mk (Kd.R_below (by (with_reducible repeat (first | apply Kd.R_alloc | apply Kd.R_drewN | apply Kd.R_drew)); exact HO_7.out) hb); have n2_ := Aside0.mk (Kd.R_below (by (with_reducible repeat (first | apply Kd.R_alloc | apply Kd.R_drewN | apply Kd.R_drew)); exact HO_9.out) hb); have n3_ := Aside0.mk (Kd.R_below (by (with_reducible repeat (first | apply Kd.R_alloc | apply Kd.R_drewN | apply Kd.R_drew)); exact HO_10.out) hb); have n4_ := Aside0.mk (Kd.R_below (by (with_reducible repeat (first | apply Kd.R_alloc | apply Kd.R_drewN | apply Kd.R_drew)); exact HO_15.out) hb); have n5_ := Aside0.mk (Kd.R_below (by (with_reducible repeat (first | apply Kd.R_alloc | apply Kd.R_drewN | apply Kd.R_drew)); exact HO_76.out) hb); have n6_ := Aside0.mk (blk_below (g := gb169) (o := .cells #[.int .i64 t166, .int .i64 t167] 31 (0, 0)) (by (with_reducible repeat (first | refine blk_drewN ?_ _ | refine blk_drew ?_ | refine blk_alloc ?_ _)); exact BK169.out) hb); have n7_ := Aside0.mk (blk_below (g := gb173) (o := .cells #[.int .i64 t170, .int .i64 t171] 31 (0, 0)) (by (with_reducible repeat (first | refine blk_drewN ?_ _ | refine blk_drew ?_ | refine blk_alloc ?_ _)); exact BK173.out) hb); have n8_ := Aside0.mk (below_step (by repeat (first | (with_reducible first | exact HB.out | apply below_alloc | apply pw_below_drewN | apply below_drew1 | refine below_set ?_ GE169.out | refine below_set ?_ GE173.out) | exact HB.out)) hb); clear HO_6; clear HO_7; clear HO_9; clear HO_10; clear HO_15; clear HO_76; clear BK169; clear BK173; clear HB; have HO_6 := n0_; have HO_7 := n1_; have HO_9 := n2_; have HO_10 := n3_; have HO_15 := n4_; have HO_76 := n5_; have BK169 := n6_; have BK173 := n7_; have HB := n8_; clear n0_ n1_ n2_ n3_ n4_ n5_ n6_ n7_ n8_; (try clear hb); (try clear hb2); (try clear hk); (try clear hi)) | ((with_reducible refine gate_dst (N := 22) rfl ?_); refine box_event ?hg (N := 22) ?hd (cs := #[.int .i64 0, .int .i64 0]) (t := 31) ?hr ?_; (case hd => rfl); (case hg => rfl); (case hr => first | (go_simp; done) | (go_simp; rfl)); intro gb177 hg w74 hbox hb; have n0_ := Aside0.mk (Kd.R_below (by (with_reducible repeat (first | apply Kd.R_alloc | apply Kd.R_drewN | apply Kd.R_drew)); exact HO_6.out) hb); have n1_ := Aside0.mk (Kd.R_below (by (with_reducible repeat (first | apply Kd.R_alloc | apply Kd.R_drewN | apply Kd.R_drew)); exact HO_7.out) hb); have n2_ := Aside0.mk (Kd.R_below (by (with_reducible repeat (first | apply Kd.R_alloc | apply Kd.R_drewN | apply Kd.R_drew)); exact HO_9.out) hb); have n3_ := Aside0.mk (Kd.R_below (by (with_reducible repeat (first | apply Kd.R_alloc | apply Kd.R_drewN | apply Kd.R_drew)); exact HO_10.out) hb); have n4_ := Aside0.mk (Kd.R_below (by (with_reducible repeat (first | apply Kd.R_alloc | apply Kd.R_drewN | apply Kd.R_drew)); exact HO_15.out) hb); have n5_ := Aside0.mk (Kd.R_below (by (with_reducible repeat (first | apply Kd.R_alloc | apply Kd.R_drewN | apply Kd.R_drew)); exact HO_76.out) hb); have n6_ := Aside0.mk (blk_below (g := gb169) (o := .cells #[.int .i64 t166, .int .i64 t167] 31 (0, 0)) (by (with_reducible repeat (first | refine blk_drewN ?_ _ | refine blk_drew ?_ | refine blk_alloc ?_ _)); exact BK169.out) hb); have n7_ := Aside0.mk (blk_below (g := gb173) (o := .cells #[.int .i64 t170, .int .i64 t171] 31 (0, 0)) (by (with_reducible repeat (first | refine blk_drewN ?_ _ | refine blk_drew ?_ | refine blk_alloc ?_ _)); exact BK173.out) hb); have n8_ := Aside0.mk (below_step (by repeat (first | (with_reducible first | exact HB.out | apply below_alloc | apply pw_below_drewN | apply below_drew1 | refine below_set ?_ GE169.out | refine below_set ?_ GE173.out) | exact HB.out)) hb); have n9_ := Aside0.mk (hbox); have n10_ := Aside0.mk ((by rw [hg]; exact (below_size (by repeat (first | (with_reducible first | exact HB.out | apply below_alloc | apply pw_below_drewN | apply below_drew1 | refine below_set ?_ GE169.out | refine below_set ?_ GE173.out) | exact HB.out))) : w.heap.size ≤ gb177)); have n11_ := Aside0.mk ((by rw [hg]; exact (below_size (by repeat (first | (with_reducible first | exact HB.out | apply below_alloc | apply pw_below_drewN | apply below_drew1 | refine below_set ?_ GE169.out | refine below_set ?_ GE173.out) | exact HB.out))) : w.heap.size ≤ gb177)); have n12_ := Aside0.mk ((by rw [hg]; exact Nat.ne_of_lt (blk_lt (g := gb169) (o := .cells #[.int .i64 t166, .int .i64 t167] 31 (0, 0)) (by (with_reducible repeat (first | refine blk_drewN ?_ _ | refine blk_drew ?_ | refine blk_alloc ?_ _)); exact BK169.out)) : gb169 ≠ gb177)); have n13_ := Aside0.mk ((by rw [hg]; exact Nat.ne_of_gt (blk_lt (g := gb169) (o := .cells #[.int .i64 t166, .int .i64 t167] 31 (0, 0)) (by (with_reducible repeat (first | refine blk_drewN ?_ _ | refine blk_drew ?_ | refine blk_alloc ?_ _)); exact BK169.out)) : gb177 ≠ gb169)); have n14_ := Aside0.mk ((by rw [hg]; exact Nat.ne_of_lt (blk_lt (g := gb173) (o := .cells #[.int .i64 t170, .int .i64 t171] 31 (0, 0)) (by (with_reducible repeat (first | refine blk_drewN ?_ _ | refine blk_drew ?_ | refine blk_alloc ?_ _)); exact BK173.out)) : gb173 ≠ gb177)); have n15_ := Aside0.mk ((by rw [hg]; exact Nat.ne_of_gt (blk_lt (g := gb173) (o := .cells #[.int .i64 t170, .int .i64 t171] 31 (0, 0)) (by (with_reducible repeat (first | refine blk_drewN ?_ _ | refine blk_drew ?_ | refine blk_alloc ?_ _)); exact BK173.out)) : gb177 ≠ gb173)); clear HO_6; clear HO_7; clear HO_9; clear HO_10; clear HO_15; clear HO_76; clear BK169; clear BK173; clear HB; have HO_6 := n0_; have HO_7 := n1_; have HO_9 := n2_; have HO_10 := n3_; have HO_15 := n4_; have HO_76 := n5_; have BK169 := n6_; have BK173 := n7_; have HB := n8_; have BK177 := n9_; have GW177 := n10_; have GE177 := n11_; have NB169_177 := n12_; have NB177_169 := n13_; have NB173_177 := n14_; have NB177_173 := n15_; clear n0_ n1_ n2_ n3_ n4_ n5_ n6_ n7_ n8_ n9_ n10_ n11_ n12_ n13_ n14_ n15_; clear hb hbox hg; have hnb75 := NB177_169.out; have hnc75 := NB169_177.out; have hnb76 := NB177_173.out; have hnc76 := NB173_177.out; have hcz77_0 : w74.cell? ⟨gb177, 0, none⟩ = some (.int .i64 0) := (blk_cell BK177.out 0).trans rfl; have hcz77_1 : w74.cell? ⟨gb177, 1, none⟩ = some (.int .i64 0) := (blk_cell BK177.out 1).trans rfl; have hfz77_0 := blk_frozen BK177.out 0; have hfz77_1 := blk_frozen BK177.out 1) | ((with_reducible refine gate_store (t := 31) (p := 22) rfl ?_); refine store_event (t := 31) (p := 22) (v := ?vo_w78) (w1 := ((w74.setCell ⟨gb177, 0, none⟩ (.int .i64 t174)).setCell ⟨gb177, 1, none⟩ (.int .i64 t175))) ?hg ?ho ?hn ?hr ?_; (case ho => rfl); (case hg => rfl); (case hn => rfl); (case hr => first | (go_simp; done) | (go_simp; rfl)); intro w78 hw; have n0_ : Aside0 (Kd.R (Kd.int .i64) 3 w78 w.heap.size (fun k_ => some k_ ≠ (.slice Ao19 t137.length co19 : Value).ownBlock ∧ some k_ ≠ (.slice Ao20 x9_1.length co20 : Value).ownBlock ∧ some k_ ≠ (.slice Ao33 x10_2.length co33 : Value).ownBlock ∧ some k_ ≠ (.slice Ao72 x15_3.length co72 : Value).ownBlock) (.slice Ao17 t133.length co17) t133) := ⟨(by rw [hw]; exact (by (with_reducible repeat (first | apply Kd.R_alloc | apply Kd.R_drewN | apply Kd.R_drew)); exact Kd.R_mono (Kd.R_far (p := ⟨gb177, 1, none⟩) (Kd.R_far (p := ⟨gb177, 0, none⟩) (Kd.R_types HO_6.out BK177.out (by decide)) (fun _ hk => hk.2) (.int .i64 t174)) (fun _ hk => hk.2) (.int .i64 t175)) (fun _ hk => ⟨hk.1.1, ⟨hk.1.2.1, ⟨hk.1.2.2.1, hk.1.2.2.2⟩⟩⟩)))⟩; have n1_ : Aside0 (Kd.R (Kd.int .i64) 3 w78 w.heap.size (fun k_ => some k_ ≠ (.slice Ao17 t133.length co17 : Value).ownBlock ∧ some k_ ≠ (.slice Ao20 x9_1.length co20 : Value).ownBlock ∧ some k_ ≠ (.slice Ao33 x10_2.length co33 : Value).ownBlock ∧ some k_ ≠ (.slice Ao72 x15_3.length co72 : Value).ownBlock ∧ some k_ ≠ (.slice Ao17 t133.length co17 : Value).ownBlock) (.slice Ao19 t137.length co19) t137) := ⟨(by rw [hw]; exact (by (with_reducible repeat (first | apply Kd.R_alloc | apply Kd.R_drewN | apply Kd.R_drew)); exact Kd.R_mono (Kd.R_far (p := ⟨gb177, 1, none⟩) (Kd.R_far (p := ⟨gb177, 0, none⟩) (Kd.R_types HO_7.out BK177.out (by decide)) (fun _ hk => hk.2) (.int .i64 t174)) (fun _ hk => hk.2) (.int .i64 t175)) (fun _ hk => ⟨hk.1.1, ⟨hk.1.2.1, ⟨hk.1.2.2.1, ⟨hk.1.2.2.2.1, hk.1.2.2.2.2⟩⟩⟩⟩)))⟩; have n2_ : Aside0 (Kd.R (Kd.int .i64) 3 w78 w.heap.size (fun k_ => some k_ ≠ (.slice Ao17 t133.length co17 : Value).ownBlock ∧ some k_ ≠ (.slice Ao19 t137.length co19 : Value).ownBlock ∧ some k_ ≠ (.slice Ao33 x10_2.length co33 : Value).ownBlock ∧ some k_ ≠ (.slice Ao72 x15_3.length co72 : Value).ownBlock ∧ some k_ ≠ (.slice Ao17 t133.length co17 : Value).ownBlock) (.slice Ao20 x9_1.length co20) x9_1) := ⟨(by rw [hw]; exact (by (with_reducible repeat (first | apply Kd.R_alloc | apply Kd.R_drewN | apply Kd.R_drew)); exact Kd.R_mono (Kd.R_far (p := ⟨gb177, 1, none⟩) (Kd.R_far (p := ⟨gb177, 0, none⟩) (Kd.R_types HO_9.out BK177.out (by decide)) (fun _ hk => hk.2) (.int .i64 t174)) (fun _ hk => hk.2) (.int .i64 t175)) (fun _ hk => ⟨hk.1.1, ⟨hk.1.2.1, ⟨hk.1.2.2.1, ⟨hk.1.2.2.2.1, hk.1.2.2.2.2⟩⟩⟩⟩)))⟩; have n3_ : Aside0 (Kd.R (Kd.int .i64) 3 w78 w.heap.size (fun k_ => some k_ ≠ (.slice Ao17 t133.length co17 : Value).ownBlock ∧ some k_ ≠ (.slice Ao19 t137.length co19 : Value).ownBlock ∧ some k_ ≠ (.slice Ao20 x9_1.length co20 : Value).ownBlock ∧ some k_ ≠ (.slice Ao72 x15_3.length co72 : Value).ownBlock ∧ some k_ ≠ (.slice Ao17 t133.length co17 : Value).ownBlock) (.slice Ao33 x10_2.length co33) x10_2) := ⟨(by rw [hw]; exact (by (with_reducible repeat (first | apply Kd.R_alloc | apply Kd.R_drewN | apply Kd.R_drew)); exact Kd.R_mono (Kd.R_far (p := ⟨gb177, 1, none⟩) (Kd.R_far (p := ⟨gb177, 0, none⟩) (Kd.R_types HO_10.out BK177.out (by decide)) (fun _ hk => hk.2) (.int .i64 t174)) (fun _ hk => hk.2) (.int .i64 t175)) (fun _ hk => ⟨hk.1.1, ⟨hk.1.2.1, ⟨hk.1.2.2.1, ⟨hk.1.2.2.2.1, hk.1.2.2.2.2⟩⟩⟩⟩)))⟩; have n4_ : Aside0 (Kd.R (Kd.int .i64) 3 w78 w.heap.size (fun k_ => some k_ ≠ (.slice Ao17 t133.length co17 : Value).ownBlock ∧ some k_ ≠ (.slice Ao19 t137.length co19 : Value).ownBlock ∧ some k_ ≠ (.slice Ao20 x9_1.length co20 : Value).ownBlock ∧ some k_ ≠ (.slice Ao33 x10_2.length co33 : Value).ownBlock ∧ some k_ ≠ (.slice Ao17 t133.length co17 : Value).ownBlock) (.slice Ao72 x15_3.length co72) x15_3) := ⟨(by rw [hw]; exact (by (with_reducible repeat (first | apply Kd.R_alloc | apply Kd.R_drewN | apply Kd.R_drew)); exact Kd.R_mono (Kd.R_far (p := ⟨gb177, 1, none⟩) (Kd.R_far (p := ⟨gb177, 0, none⟩) (Kd.R_types HO_15.out BK177.out (by decide)) (fun _ hk => hk.2) (.int .i64 t174)) (fun _ hk => hk.2) (.int .i64 t175)) (fun _ hk => ⟨hk.1.1, ⟨hk.1.2.1, ⟨hk.1.2.2.1, ⟨hk.1.2.2.2.1, hk.1.2.2.2.2⟩⟩⟩⟩)))⟩; have n5_ : Aside0 (Kd.R (Kd.int .i64) 3 w78 w.heap.size (fun k_ => some k_ ≠ (.slice Ao19 t137.length co19 : Value).ownBlock ∧ some k_ ≠ (.slice Ao20 x9_1.length co20 : Value).ownBlock ∧ some k_ ≠ (.slice Ao33 x10_2.length co33 : Value).ownBlock ∧ some k_ ≠ (.slice Ao72 x15_3.length co72 : Value).ownBlock) (.slice Ao17 t133.length co17) t133) := ⟨(by rw [hw]; exact (by (with_reducible repeat (first | apply Kd.R_alloc | apply Kd.R_drewN | apply Kd.R_drew)); exact Kd.R_mono (Kd.R_far (p := ⟨gb177, 1, none⟩) (Kd.R_far (p := ⟨gb177, 0, none⟩) (Kd.R_types HO_76.out BK177.out (by decide)) (fun _ hk => hk.2) (.int .i64 t174)) (fun _ hk => hk.2) (.int .i64 t175)) (fun _ hk => ⟨hk.1.1, ⟨hk.1.2.1, ⟨hk.1.2.2.1, hk.1.2.2.2⟩⟩⟩)))⟩; have n6_ : Aside0 (w78.heap[gb169]? = some (.cells #[.int .i64 t166, .int .i64 t167] 31 (0, 0))) := ⟨(by rw [hw]; exact (by (with_reducible repeat (first | refine blk_drewN ?_ _ | refine blk_drew ?_ | refine blk_alloc ?_ _)); refine blk_far ?_ NB169_177.out _; (with_reducible repeat (first | refine blk_drewN ?_ _ | refine blk_drew ?_ | refine blk_alloc ?_ _)); refine blk_far ?_ NB169_177.out _; (with_reducible repeat (first | refine blk_drewN ?_ _ | refine blk_drew ?_ | refine blk_alloc ?_ _)); exact BK169.out))⟩; have n7_ : Aside0 (w78.heap[gb173]? = some (.cells #[.int .i64 t170, .int .i64 t171] 31 (0, 0))) := ⟨(by rw [hw]; exact (by (with_reducible repeat (first | refine blk_drewN ?_ _ | refine blk_drew ?_ | refine blk_alloc ?_ _)); refine blk_far ?_ NB173_177.out _; (with_reducible repeat (first | refine blk_drewN ?_ _ | refine blk_drew ?_ | refine blk_alloc ?_ _)); refine blk_far ?_ NB173_177.out _; (with_reducible repeat (first | refine blk_drewN ?_ _ | refine blk_drew ?_ | refine blk_alloc ?_ _)); exact BK173.out))⟩; have n8_ : Aside0 (w78.heap[gb177]? = some (.cells #[.int .i64 t174, .int .i64 t175] 31 (0, 0))) := ⟨(by rw [hw]; exact (by (with_reducible repeat (first | refine blk_drewN ?_ _ | refine blk_drew ?_ | refine blk_alloc ?_ _)); refine blk_put (cs := #[.int .i64 t174, .int .i64 0]) ?_ 1 _ rfl; (with_reducible repeat (first | refine blk_drewN ?_ _ | refine blk_drew ?_ | refine blk_alloc ?_ _)); refine blk_put (cs := #[.int .i64 0, .int .i64 0]) ?_ 0 _ rfl; (with_reducible repeat (first | refine blk_drewN ?_ _ | refine blk_drew ?_ | refine blk_alloc ?_ _)); exact BK177.out))⟩; have n9_ : Aside0 (Below w.heap.size w w78) := ⟨(by rw [hw]; exact (by repeat (first | (with_reducible first | exact HB.out | apply below_alloc | apply pw_below_drewN | apply below_drew1 | refine below_set ?_ GE169.out | refine below_set ?_ GE173.out | refine below_set ?_ GE177.out) | exact HB.out)))⟩; clear hw; clear HO_6; clear HO_7; clear HO_9; clear HO_10; clear HO_15; clear HO_76; clear BK169; clear BK173; clear BK177; clear HB; have HO_6 := n0_; have HO_7 := n1_; have HO_9 := n2_; have HO_10 := n3_; have HO_15 := n4_; have HO_76 := n5_; have BK169 := n6_; have BK173 := n7_; have BK177 := n8_; have HB := n9_; clear n0_ n1_ n2_ n3_ n4_ n5_ n6_ n7_ n8_ n9_) | ((with_reducible refine gate_callee (f := 15) rfl ?_); refine goesL_ (some 106) rfl rfl Try.func15 (by kernel_rfl) rfl #[.slice Ao17 t133.length co17, .slice Ao19 t137.length co19] rfl (by (try simp only [List.map_toArray, List.map_cons, List.map_nil]); first | done | rfl | (simp only [List.length_drop, List.length_take]; rfl)) ?_; (with_reducible refine (sampling_Exchange.calls _ _ t133 _ _ t137 t178 t179 t180 _ ?side1 ?side2 ?side3 ?side4 A54.out).mono ?_); (case side1 => repeat (first | exact (Kd.R_reads' HO_6.out).2.2 | (with_reducible refine Kd.C_alloc ?_ _) | (with_reducible refine Kd.C_drewN ?_ _) | (with_reducible refine Kd.C_drew ?_))); (case side2 => exact (Kd.R_reads' HO_6.out).2.1); (case side3 => repeat (first | exact (Kd.R_reads' HO_7.out).2.2 | (with_reducible refine Kd.C_alloc ?_ _) | (with_reducible refine Kd.C_drewN ?_ _) | (with_reducible refine Kd.C_drew ?_))); (case side4 => exact (Kd.R_reads' HO_7.out).2.1); rintro e w79 ⟨rfl, hb⟩; refine ⟨_, rfl, ?_⟩; have n0_ := Aside0.mk (Kd.R_below (by (with_reducible repeat (first | apply Kd.R_alloc | apply Kd.R_drewN | apply Kd.R_drew)); exact HO_6.out) hb); have n1_ := Aside0.mk (Kd.R_below (by (with_reducible repeat (first | apply Kd.R_alloc | apply Kd.R_drewN | apply Kd.R_drew)); exact HO_7.out) hb); have n2_ := Aside0.mk (Kd.R_below (by (with_reducible repeat (first | apply Kd.R_alloc | apply Kd.R_drewN | apply Kd.R_drew)); exact HO_9.out) hb); have n3_ := Aside0.mk (Kd.R_below (by (with_reducible repeat (first | apply Kd.R_alloc | apply Kd.R_drewN | apply Kd.R_drew)); exact HO_10.out) hb); have n4_ := Aside0.mk (Kd.R_below (by (with_reducible repeat (first | apply Kd.R_alloc | apply Kd.R_drewN | apply Kd.R_drew)); exact HO_15.out) hb); have n5_ := Aside0.mk (Kd.R_below (by (with_reducible repeat (first | apply Kd.R_alloc | apply Kd.R_drewN | apply Kd.R_drew)); exact HO_76.out) hb); have n6_ := Aside0.mk (blk_below (g := gb169) (o := .cells #[.int .i64 t166, .int .i64 t167] 31 (0, 0)) (by (with_reducible repeat (first | refine blk_drewN ?_ _ | refine blk_drew ?_ | refine blk_alloc ?_ _)); exact BK169.out) hb); have n7_ := Aside0.mk (blk_below (g := gb173) (o := .cells #[.int .i64 t170, .int .i64 t171] 31 (0, 0)) (by (with_reducible repeat (first | refine blk_drewN ?_ _ | refine blk_drew ?_ | refine blk_alloc ?_ _)); exact BK173.out) hb); have n8_ := Aside0.mk (blk_below (g := gb177) (o := .cells #[.int .i64 t174, .int .i64 t175] 31 (0, 0)) (by (with_reducible repeat (first | refine blk_drewN ?_ _ | refine blk_drew ?_ | refine blk_alloc ?_ _)); exact BK177.out) hb); have n9_ := Aside0.mk (below_step (by repeat (first | (with_reducible first | exact HB.out | apply below_alloc | apply pw_below_drewN | apply below_drew1 | refine below_set ?_ GE169.out | refine below_set ?_ GE173.out | refine below_set ?_ GE177.out) | exact HB.out)) hb); clear HO_6; clear HO_7; clear HO_9; clear HO_10; clear HO_15; clear HO_76; clear BK169; clear BK173; clear BK177; clear HB; have HO_6 := n0_; have HO_7 := n1_; have HO_9 := n2_; have HO_10 := n3_; have HO_15 := n4_; have HO_76 := n5_; have BK169 := n6_; have BK173 := n7_; have BK177 := n8_; have HB := n9_; clear n0_ n1_ n2_ n3_ n4_ n5_ n6_ n7_ n8_ n9_; (try clear hb); (try clear hb2); (try clear hk); (try clear hi)) | ((with_reducible refine gate_dst (N := 24) rfl ?_); refine box_event ?hg (N := 24) ?hd (cs := #[.int .i64 0, .int .i64 0]) (t := 31) ?hr ?_; (case hd => rfl); (case hg => rfl); (case hr => first | (go_simp; done) | (go_simp; rfl)); intro gb181 hg w80 hbox hb; have n0_ := Aside0.mk (Kd.R_below (by (with_reducible repeat (first | apply Kd.R_alloc | apply Kd.R_drewN | apply Kd.R_drew)); exact HO_6.out) hb); have n1_ := Aside0.mk (Kd.R_below (by (with_reducible repeat (first | apply Kd.R_alloc | apply Kd.R_drewN | apply Kd.R_drew)); exact HO_7.out) hb); have n2_ := Aside0.mk (Kd.R_below (by (with_reducible repeat (first | apply Kd.R_alloc | apply Kd.R_drewN | apply Kd.R_drew)); exact HO_9.out) hb); have n3_ := Aside0.mk (Kd.R_below (by (with_reducible repeat (first | apply Kd.R_alloc | apply Kd.R_drewN | apply Kd.R_drew)); exact HO_10.out) hb); have n4_ := Aside0.mk (Kd.R_below (by (with_reducible repeat (first | apply Kd.R_alloc | apply Kd.R_drewN | apply Kd.R_drew)); exact HO_15.out) hb); have n5_ := Aside0.mk (Kd.R_below (by (with_reducible repeat (first | apply Kd.R_alloc | apply Kd.R_drewN | apply Kd.R_drew)); exact HO_76.out) hb); have n6_ := Aside0.mk (blk_below (g := gb169) (o := .cells #[.int .i64 t166, .int .i64 t167] 31 (0, 0)) (by (with_reducible repeat (first | refine blk_drewN ?_ _ | refine blk_drew ?_ | refine blk_alloc ?_ _)); exact BK169.out) hb); have n7_ := Aside0.mk (blk_below (g := gb173) (o := .cells #[.int .i64 t170, .int .i64 t171] 31 (0, 0)) (by (with_reducible repeat (first | refine blk_drewN ?_ _ | refine blk_drew ?_ | refine blk_alloc ?_ _)); exact BK173.out) hb); have n8_ := Aside0.mk (blk_below (g := gb177) (o := .cells #[.int .i64 t174, .int .i64 t175] 31 (0, 0)) (by (with_reducible repeat (first | refine blk_drewN ?_ _ | refine blk_drew ?_ | refine blk_alloc ?_ _)); exact BK177.out) hb); have n9_ := Aside0.mk (below_step (by repeat (first | (with_reducible first | exact HB.out | apply below_alloc | apply pw_below_drewN | apply below_drew1 | refine below_set ?_ GE169.out | refine below_set ?_ GE173.out | refine below_set ?_ GE177.out) | exact HB.out)) hb); have n10_ := Aside0.mk (hbox); have n11_ := Aside0.mk ((by rw [hg]; exact (below_size (by repeat (first | (with_reducible first | exact HB.out | apply below_alloc | apply pw_below_drewN | apply below_drew1 | refine below_set ?_ GE169.out | refine below_set ?_ GE173.out | refine below_set ?_ GE177.out) | exact HB.out))) : w.heap.size ≤ gb181)); have n12_ := Aside0.mk ((by rw [hg]; exact (below_size (by repeat (first | (with_reducible first | exact HB.out | apply below_alloc | apply pw_below_drewN | apply below_drew1 | refine below_set ?_ GE169.out | refine below_set ?_ GE173.out | refine below_set ?_ GE177.out) | exact HB.out))) : w.heap.size ≤ gb181)); have n13_ := Aside0.mk ((by rw [hg]; exact Nat.ne_of_lt (blk_lt (g := gb169) (o := .cells #[.int .i64 t166, .int .i64 t167] 31 (0, 0)) (by (with_reducible repeat (first | refine blk_drewN ?_ _ | refine blk_drew ?_ | refine blk_alloc ?_ _)); exact BK169.out)) : gb169 ≠ gb181)); have n14_ := Aside0.mk ((by rw [hg]; exact Nat.ne_of_gt (blk_lt (g := gb169) (o := .cells #[.int .i64 t166, .int .i64 t167] 31 (0, 0)) (by (with_reducible repeat (first | refine blk_drewN ?_ _ | refine blk_drew ?_ | refine blk_alloc ?_ _)); exact BK169.out)) : gb181 ≠ gb169)); have n15_ := Aside0.mk ((by rw [hg]; exact Nat.ne_of_lt (blk_lt (g := gb173) (o := .cells #[.int .i64 t170, .int .i64 t171] 31 (0, 0)) (by (with_reducible repeat (first | refine blk_drewN ?_ _ | refine blk_drew ?_ | refine blk_alloc ?_ _)); exact BK173.out)) : gb173 ≠ gb181)); have n16_ := Aside0.mk ((by rw [hg]; exact Nat.ne_of_gt (blk_lt (g := gb173) (o := .cells #[.int .i64 t170, .int .i64 t171] 31 (0, 0)) (by (with_reducible repeat (first | refine blk_drewN ?_ _ | refine blk_drew ?_ | refine blk_alloc ?_ _)); exact BK173.out)) : gb181 ≠ gb173)); have n17_ := Aside0.mk ((by rw [hg]; exact Nat.ne_of_lt (blk_lt (g := gb177) (o := .cells #[.int .i64 t174, .int .i64 t175] 31 (0, 0)) (by (with_reducible repeat (first | refine blk_drewN ?_ _ | refine blk_drew ?_ | refine blk_alloc ?_ _)); exact BK177.out)) : gb177 ≠ gb181)); have n18_ := Aside0.mk ((by rw [hg]; exact Nat.ne_of_gt (blk_lt (g := gb177) (o := .cells #[.int .i64 t174, .int .i64 t175] 31 (0, 0)) (by (with_reducible repeat (first | refine blk_drewN ?_ _ | refine blk_drew ?_ | refine blk_alloc ?_ _)); exact BK177.out)) : gb181 ≠ gb177)); clear HO_6; clear HO_7; clear HO_9; clear HO_10; clear HO_15; clear HO_76; clear BK169; clear BK173; clear BK177; clear HB; have HO_6 := n0_; have HO_7 := n1_; have HO_9 := n2_; have HO_10 := n3_; have HO_15 := n4_; have HO_76 := n5_; have BK169 := n6_; have BK173 := n7_; have BK177 := n8_; have HB := n9_; have BK181 := n10_; have GW181 := n11_; have GE181 := n12_; have NB169_181 := n13_; have NB181_169 := n14_; have NB173_181 := n15_; have NB181_173 := n16_; have NB177_181 := n17_; have NB181_177 := n18_; clear n0_ n1_ n2_ n3_ n4_ n5_ n6_ n7_ n8_ n9_ n10_ n11_ n12_ n13_ n14_ n15_ n16_ n17_ n18_; clear hb hbox hg; have hnb81 := NB181_169.out; have hnc81 := NB169_181.out; have hnb82 := NB181_173.out; have hnc82 := NB173_181.out; have hnb83 := NB181_177.out; have hnc83 := NB177_181.out; have hcz84_0 : w80.cell? ⟨gb181, 0, none⟩ = some (.int .i64 0) := (blk_cell BK181.out 0).trans rfl; have hcz84_1 : w80.cell? ⟨gb181, 1, none⟩ = some (.int .i64 0) := (blk_cell BK181.out 1).trans rfl; have hfz84_0 := blk_frozen BK181.out 0; have hfz84_1 := blk_frozen BK181.out 1) | ((with_reducible refine gate_store (t := 31) (p := 24) rfl ?_); refine store_event (t := 31) (p := 24) (v := ?vo_w85) (w1 := ((w80.setCell ⟨gb181, 0, none⟩ (.int .i64 t178)).setCell ⟨gb181, 1, none⟩ (.int .i64 t179))) ?hg ?ho ?hn ?hr ?_; (case ho => rfl); (case hg => rfl); (case hn => rfl); (case hr => first | (go_simp; done) | (go_simp; rfl)); intro w85 hw; have n0_ : Aside0 (Kd.R (Kd.int .i64) 3 w85 w.heap.size (fun k_ => some k_ ≠ (.slice Ao19 t137.length co19 : Value).ownBlock ∧ some k_ ≠ (.slice Ao20 x9_1.length co20 : Value).ownBlock ∧ some k_ ≠ (.slice Ao33 x10_2.length co33 : Value).ownBlock ∧ some k_ ≠ (.slice Ao72 x15_3.length co72 : Value).ownBlock) (.slice Ao17 t133.length co17) t133) := ⟨(by rw [hw]; exact (by (with_reducible repeat (first | apply Kd.R_alloc | apply Kd.R_drewN | apply Kd.R_drew)); exact Kd.R_mono (Kd.R_far (p := ⟨gb181, 1, none⟩) (Kd.R_far (p := ⟨gb181, 0, none⟩) (Kd.R_types HO_6.out BK181.out (by decide)) (fun _ hk => hk.2) (.int .i64 t178)) (fun _ hk => hk.2) (.int .i64 t179)) (fun _ hk => ⟨hk.1.1, ⟨hk.1.2.1, ⟨hk.1.2.2.1, hk.1.2.2.2⟩⟩⟩)))⟩; have n1_ : Aside0 (Kd.R (Kd.int .i64) 3 w85 w.heap.size (fun k_ => some k_ ≠ (.slice Ao17 t133.length co17 : Value).ownBlock ∧ some k_ ≠ (.slice Ao20 x9_1.length co20 : Value).ownBlock ∧ some k_ ≠ (.slice Ao33 x10_2.length co33 : Value).ownBlock ∧ some k_ ≠ (.slice Ao72 x15_3.length co72 : Value).ownBlock ∧ some k_ ≠ (.slice Ao17 t133.length co17 : Value).ownBlock) (.slice Ao19 t137.length co19) t137) := ⟨(by rw [hw]; exact (by (with_reducible repeat (first | apply Kd.R_alloc | apply Kd.R_drewN | apply Kd.R_drew)); exact Kd.R_mono (Kd.R_far (p := ⟨gb181, 1, none⟩) (Kd.R_far (p := ⟨gb181, 0, none⟩) (Kd.R_types HO_7.out BK181.out (by decide)) (fun _ hk => hk.2) (.int .i64 t178)) (fun _ hk => hk.2) (.int .i64 t179)) (fun _ hk => ⟨hk.1.1, ⟨hk.1.2.1, ⟨hk.1.2.2.1, ⟨hk.1.2.2.2.1, hk.1.2.2.2.2⟩⟩⟩⟩)))⟩; have n2_ : Aside0 (Kd.R (Kd.int .i64) 3 w85 w.heap.size (fun k_ => some k_ ≠ (.slice Ao17 t133.length co17 : Value).ownBlock ∧ some k_ ≠ (.slice Ao19 t137.length co19 : Value).ownBlock ∧ some k_ ≠ (.slice Ao33 x10_2.length co33 : Value).ownBlock ∧ some k_ ≠ (.slice Ao72 x15_3.length co72 : Value).ownBlock ∧ some k_ ≠ (.slice Ao17 t133.length co17 : Value).ownBlock) (.slice Ao20 x9_1.length co20) x9_1) := ⟨(by rw [hw]; exact (by (with_reducible repeat (first | apply Kd.R_alloc | apply Kd.R_drewN | apply Kd.R_drew)); exact Kd.R_mono (Kd.R_far (p := ⟨gb181, 1, none⟩) (Kd.R_far (p := ⟨gb181, 0, none⟩) (Kd.R_types HO_9.out BK181.out (by decide)) (fun _ hk => hk.2) (.int .i64 t178)) (fun _ hk => hk.2) (.int .i64 t179)) (fun _ hk => ⟨hk.1.1, ⟨hk.1.2.1, ⟨hk.1.2.2.1, ⟨hk.1.2.2.2.1, hk.1.2.2.2.2⟩⟩⟩⟩)))⟩; have n3_ : Aside0 (Kd.R (Kd.int .i64) 3 w85 w.heap.size (fun k_ => some k_ ≠ (.slice Ao17 t133.length co17 : Value).ownBlock ∧ some k_ ≠ (.slice Ao19 t137.length co19 : Value).ownBlock ∧ some k_ ≠ (.slice Ao20 x9_1.length co20 : Value).ownBlock ∧ some k_ ≠ (.slice Ao72 x15_3.length co72 : Value).ownBlock ∧ some k_ ≠ (.slice Ao17 t133.length co17 : Value).ownBlock) (.slice Ao33 x10_2.length co33) x10_2) := ⟨(by rw [hw]; exact (by (with_reducible repeat (first | apply Kd.R_alloc | apply Kd.R_drewN | apply Kd.R_drew)); exact Kd.R_mono (Kd.R_far (p := ⟨gb181, 1, none⟩) (Kd.R_far (p := ⟨gb181, 0, none⟩) (Kd.R_types HO_10.out BK181.out (by decide)) (fun _ hk => hk.2) (.int .i64 t178)) (fun _ hk => hk.2) (.int .i64 t179)) (fun _ hk => ⟨hk.1.1, ⟨hk.1.2.1, ⟨hk.1.2.2.1, ⟨hk.1.2.2.2.1, hk.1.2.2.2.2⟩⟩⟩⟩)))⟩; have n4_ : Aside0 (Kd.R (Kd.int .i64) 3 w85 w.heap.size (fun k_ => some k_ ≠ (.slice Ao17 t133.length co17 : Value).ownBlock ∧ some k_ ≠ (.slice Ao19 t137.length co19 : Value).ownBlock ∧ some k_ ≠ (.slice Ao20 x9_1.length co20 : Value).ownBlock ∧ some k_ ≠ (.slice Ao33 x10_2.length co33 : Value).ownBlock ∧ some k_ ≠ (.slice Ao17 t133.length co17 : Value).ownBlock) (.slice Ao72 x15_3.length co72) x15_3) := ⟨(by rw [hw]; exact (by (with_reducible repeat (first | apply Kd.R_alloc | apply Kd.R_drewN | apply Kd.R_drew)); exact Kd.R_mono (Kd.R_far (p := ⟨gb181, 1, none⟩) (Kd.R_far (p := ⟨gb181, 0, none⟩) (Kd.R_types HO_15.out BK181.out (by decide)) (fun _ hk => hk.2) (.int .i64 t178)) (fun _ hk => hk.2) (.int .i64 t179)) (fun _ hk => ⟨hk.1.1, ⟨hk.1.2.1, ⟨hk.1.2.2.1, ⟨hk.1.2.2.2.1, hk.1.2.2.2.2⟩⟩⟩⟩)))⟩; have n5_ : Aside0 (Kd.R (Kd.int .i64) 3 w85 w.heap.size (fun k_ => some k_ ≠ (.slice Ao19 t137.length co19 : Value).ownBlock ∧ some k_ ≠ (.slice Ao20 x9_1.length co20 : Value).ownBlock ∧ some k_ ≠ (.slice Ao33 x10_2.length co33 : Value).ownBlock ∧ some k_ ≠ (.slice Ao72 x15_3.length co72 : Value).ownBlock) (.slice Ao17 t133.length co17) t133) := ⟨(by rw [hw]; exact (by (with_reducible repeat (first | apply Kd.R_alloc | apply Kd.R_drewN | apply Kd.R_drew)); exact Kd.R_mono (Kd.R_far (p := ⟨gb181, 1, none⟩) (Kd.R_far (p := ⟨gb181, 0, none⟩) (Kd.R_types HO_76.out BK181.out (by decide)) (fun _ hk => hk.2) (.int .i64 t178)) (fun _ hk => hk.2) (.int .i64 t179)) (fun _ hk => ⟨hk.1.1, ⟨hk.1.2.1, ⟨hk.1.2.2.1, hk.1.2.2.2⟩⟩⟩)))⟩; have n6_ : Aside0 (w85.heap[gb169]? = some (.cells #[.int .i64 t166, .int .i64 t167] 31 (0, 0))) := ⟨(by rw [hw]; exact (by (with_reducible repeat (first | refine blk_drewN ?_ _ | refine blk_drew ?_ | refine blk_alloc ?_ _)); refine blk_far ?_ NB169_181.out _; (with_reducible repeat (first | refine blk_drewN ?_ _ | refine blk_drew ?_ | refine blk_alloc ?_ _)); refine blk_far ?_ NB169_181.out _; (with_reducible repeat (first | refine blk_drewN ?_ _ | refine blk_drew ?_ | refine blk_alloc ?_ _)); exact BK169.out))⟩; have n7_ : Aside0 (w85.heap[gb173]? = some (.cells #[.int .i64 t170, .int .i64 t171] 31 (0, 0))) := ⟨(by rw [hw]; exact (by (with_reducible repeat (first | refine blk_drewN ?_ _ | refine blk_drew ?_ | refine blk_alloc ?_ _)); refine blk_far ?_ NB173_181.out _; (with_reducible repeat (first | refine blk_drewN ?_ _ | refine blk_drew ?_ | refine blk_alloc ?_ _)); refine blk_far ?_ NB173_181.out _; (with_reducible repeat (first | refine blk_drewN ?_ _ | refine blk_drew ?_ | refine blk_alloc ?_ _)); exact BK173.out))⟩; have n8_ : Aside0 (w85.heap[gb177]? = some (.cells #[.int .i64 t174, .int .i64 t175] 31 (0, 0))) := ⟨(by rw [hw]; exact (by (with_reducible repeat (first | refine blk_drewN ?_ _ | refine blk_drew ?_ | refine blk_alloc ?_ _)); refine blk_far ?_ NB177_181.out _; (with_reducible repeat (first | refine blk_drewN ?_ _ | refine blk_drew ?_ | refine blk_alloc ?_ _)); refine blk_far ?_ NB177_181.out _; (with_reducible repeat (first | refine blk_drewN ?_ _ | refine blk_drew ?_ | refine blk_alloc ?_ _)); exact BK177.out))⟩; have n9_ : Aside0 (w85.heap[gb181]? = some (.cells #[.int .i64 t178, .int .i64 t179] 31 (0, 0))) := ⟨(by rw [hw]; exact (by (with_reducible repeat (first | refine blk_drewN ?_ _ | refine blk_drew ?_ | refine blk_alloc ?_ _)); refine blk_put (cs := #[.int .i64 t178, .int .i64 0]) ?_ 1 _ rfl; (with_reducible repeat (first | refine blk_drewN ?_ _ | refine blk_drew ?_ | refine blk_alloc ?_ _)); refine blk_put (cs := #[.int .i64 0, .int .i64 0]) ?_ 0 _ rfl; (with_reducible repeat (first | refine blk_drewN ?_ _ | refine blk_drew ?_ | refine blk_alloc ?_ _)); exact BK181.out))⟩; have n10_ : Aside0 (Below w.heap.size w w85) := ⟨(by rw [hw]; exact (by repeat (first | (with_reducible first | exact HB.out | apply below_alloc | apply pw_below_drewN | apply below_drew1 | refine below_set ?_ GE169.out | refine below_set ?_ GE173.out | refine below_set ?_ GE177.out | refine below_set ?_ GE181.out) | exact HB.out)))⟩; clear hw; clear HO_6; clear HO_7; clear HO_9; clear HO_10; clear HO_15; clear HO_76; clear BK169; clear BK173; clear BK177; clear BK181; clear HB; have HO_6 := n0_; have HO_7 := n1_; have HO_9 := n2_; have HO_10 := n3_; have HO_15 := n4_; have HO_76 := n5_; have BK169 := n6_; have BK173 := n7_; have BK177 := n8_; have BK181 := n9_; have HB := n10_; clear n0_ n1_ n2_ n3_ n4_ n5_ n6_ n7_ n8_ n9_ n10_) | ((with_reducible refine gate_callee (f := 15) rfl ?_); refine goesL_ (some 112) rfl rfl Try.func15 (by kernel_rfl) rfl #[.slice Ao20 x9_1.length co20, .slice Ao33 x10_2.length co33] rfl (by (try simp only [List.map_toArray, List.map_cons, List.map_nil]); first | done | rfl | (simp only [List.length_drop, List.length_take]; rfl)) ?_; (with_reducible refine (sampling_Exchange.calls _ _ x9_1 _ _ x10_2 t182 t183 t184 _ ?side1 ?side2 ?side3 ?side4 A55.out).mono ?_); (case side1 => repeat (first | exact (Kd.R_reads' HO_9.out).2.2 | (with_reducible refine Kd.C_alloc ?_ _) | (with_reducible refine Kd.C_drewN ?_ _) | (with_reducible refine Kd.C_drew ?_))); (case side2 => exact (Kd.R_reads' HO_9.out).2.1); (case side3 => repeat (first | exact (Kd.R_reads' HO_10.out).2.2 | (with_reducible refine Kd.C_alloc ?_ _) | (with_reducible refine Kd.C_drewN ?_ _) | (with_reducible refine Kd.C_drew ?_))); (case side4 => exact (Kd.R_reads' HO_10.out).2.1); rintro e w86 ⟨rfl, hb⟩; refine ⟨_, rfl, ?_⟩; have n0_ := Aside0.mk (Kd.R_below (by (with_reducible repeat (first | apply Kd.R_alloc | apply Kd.R_drewN | apply Kd.R_drew)); exact HO_6.out) hb); have n1_ := Aside0.mk (Kd.R_below (by (with_reducible repeat (first | apply Kd.R_alloc | apply Kd.R_drewN | apply Kd.R_drew)); exact HO_7.out) hb); have n2_ := Aside0.mk (Kd.R_below (by (with_reducible repeat (first | apply Kd.R_alloc | apply Kd.R_drewN | apply Kd.R_drew)); exact HO_9.out) hb); have n3_ := Aside0.mk (Kd.R_below (by (with_reducible repeat (first | apply Kd.R_alloc | apply Kd.R_drewN | apply Kd.R_drew)); exact HO_10.out) hb); have n4_ := Aside0.mk (Kd.R_below (by (with_reducible repeat (first | apply Kd.R_alloc | apply Kd.R_drewN | apply Kd.R_drew)); exact HO_15.out) hb); have n5_ := Aside0.mk (Kd.R_below (by (with_reducible repeat (first | apply Kd.R_alloc | apply Kd.R_drewN | apply Kd.R_drew)); exact HO_76.out) hb); have n6_ := Aside0.mk (blk_below (g := gb169) (o := .cells #[.int .i64 t166, .int .i64 t167] 31 (0, 0)) (by (with_reducible repeat (first | refine blk_drewN ?_ _ | refine blk_drew ?_ | refine blk_alloc ?_ _)); exact BK169.out) hb); have n7_ := Aside0.mk (blk_below (g := gb173) (o := .cells #[.int .i64 t170, .int .i64 t171] 31 (0, 0)) (by (with_reducible repeat (first | refine blk_drewN ?_ _ | refine blk_drew ?_ | refine blk_alloc ?_ _)); exact BK173.out) hb); have n8_ := Aside0.mk (blk_below (g := gb177) (o := .cells #[.int .i64 t174, .int .i64 t175] 31 (0, 0)) (by (with_reducible repeat (first | refine blk_drewN ?_ _ | refine blk_drew ?_ | refine blk_alloc ?_ _)); exact BK177.out) hb); have n9_ := Aside0.mk (blk_below (g := gb181) (o := .cells #[.int .i64 t178, .int .i64 t179] 31 (0, 0)) (by (with_reducible repeat (first | refine blk_drewN ?_ _ | refine blk_drew ?_ | refine blk_alloc ?_ _)); exact BK181.out) hb); have n10_ := Aside0.mk (below_step (by repeat (first | (with_reducible first | exact HB.out | apply below_alloc | apply pw_below_drewN | apply below_drew1 | refine below_set ?_ GE169.out | refine below_set ?_ GE173.out | refine below_set ?_ GE177.out | refine below_set ?_ GE181.out) | exact HB.out)) hb); clear HO_6; clear HO_7; clear HO_9; clear HO_10; clear HO_15; clear HO_76; clear BK169; clear BK173; clear BK177; clear BK181; clear HB; have HO_6 := n0_; have HO_7 := n1_; have HO_9 := n2_; have HO_10 := n3_; have HO_15 := n4_; have HO_76 := n5_; have BK169 := n6_; have BK173 := n7_; have BK177 := n8_; have BK181 := n9_; have HB := n10_; clear n0_ n1_ n2_ n3_ n4_ n5_ n6_ n7_ n8_ n9_ n10_; (try clear hb); (try clear hb2); (try clear hk); (try clear hi)) | ((with_reducible refine gate_dst (N := 26) rfl ?_); refine box_event ?hg (N := 26) ?hd (cs := #[.int .i64 0, .int .i64 0]) (t := 31) ?hr ?_; (case hd => rfl); (case hg => rfl); (case hr => first | (go_simp; done) | (go_simp; rfl)); intro gb185 hg w87 hbox hb; have n0_ := Aside0.mk (Kd.R_below (by (with_reducible repeat (first | apply Kd.R_alloc | apply Kd.R_drewN | apply Kd.R_drew)); exact HO_6.out) hb); have n1_ := Aside0.mk (Kd.R_below (by (with_reducible repeat (first | apply Kd.R_alloc | apply Kd.R_drewN | apply Kd.R_drew)); exact HO_7.out) hb); have n2_ := Aside0.mk (Kd.R_below (by (with_reducible repeat (first | apply Kd.R_alloc | apply Kd.R_drewN | apply Kd.R_drew)); exact HO_9.out) hb); have n3_ := Aside0.mk (Kd.R_below (by (with_reducible repeat (first | apply Kd.R_alloc | apply Kd.R_drewN | apply Kd.R_drew)); exact HO_10.out) hb); have n4_ := Aside0.mk (Kd.R_below (by (with_reducible repeat (first | apply Kd.R_alloc | apply Kd.R_drewN | apply Kd.R_drew)); exact HO_15.out) hb); have n5_ := Aside0.mk (Kd.R_below (by (with_reducible repeat (first | apply Kd.R_alloc | apply Kd.R_drewN | apply Kd.R_drew)); exact HO_76.out) hb); have n6_ := Aside0.mk (blk_below (g := gb169) (o := .cells #[.int .i64 t166, .int .i64 t167] 31 (0, 0)) (by (with_reducible repeat (first | refine blk_drewN ?_ _ | refine blk_drew ?_ | refine blk_alloc ?_ _)); exact BK169.out) hb); have n7_ := Aside0.mk (blk_below (g := gb173) (o := .cells #[.int .i64 t170, .int .i64 t171] 31 (0, 0)) (by (with_reducible repeat (first | refine blk_drewN ?_ _ | refine blk_drew ?_ | refine blk_alloc ?_ _)); exact BK173.out) hb); have n8_ := Aside0.mk (blk_below (g := gb177) (o := .cells #[.int .i64 t174, .int .i64 t175] 31 (0, 0)) (by (with_reducible repeat (first | refine blk_drewN ?_ _ | refine blk_drew ?_ | refine blk_alloc ?_ _)); exact BK177.out) hb); have n9_ := Aside0.mk (blk_below (g := gb181) (o := .cells #[.int .i64 t178, .int .i64 t179] 31 (0, 0)) (by (with_reducible repeat (first | refine blk_drewN ?_ _ | refine blk_drew ?_ | refine blk_alloc ?_ _)); exact BK181.out) hb); have n10_ := Aside0.mk (below_step (by repeat (first | (with_reducible first | exact HB.out | apply below_alloc | apply pw_below_drewN | apply below_drew1 | refine below_set ?_ GE169.out | refine below_set ?_ GE173.out | refine below_set ?_ GE177.out | refine below_set ?_ GE181.out) | exact HB.out)) hb); have n11_ := Aside0.mk (hbox); have n12_ := Aside0.mk ((by rw [hg]; exact (below_size (by repeat (first | (with_reducible first | exact HB.out | apply below_alloc | apply pw_below_drewN | apply below_drew1 | refine below_set ?_ GE169.out | refine below_set ?_ GE173.out | refine below_set ?_ GE177.out | refine below_set ?_ GE181.out) | exact HB.out))) : w.heap.size ≤ gb185)); have n13_ := Aside0.mk ((by rw [hg]; exact (below_size (by repeat (first | (with_reducible first | exact HB.out | apply below_alloc | apply pw_below_drewN | apply below_drew1 | refine below_set ?_ GE169.out | refine below_set ?_ GE173.out | refine below_set ?_ GE177.out | refine below_set ?_ GE181.out) | exact HB.out))) : w.heap.size ≤ gb185)); have n14_ := Aside0.mk ((by rw [hg]; exact Nat.ne_of_lt (blk_lt (g := gb169) (o := .cells #[.int .i64 t166, .int .i64 t167] 31 (0, 0)) (by (with_reducible repeat (first | refine blk_drewN ?_ _ | refine blk_drew ?_ | refine blk_alloc ?_ _)); exact BK169.out)) : gb169 ≠ gb185)); have n15_ := Aside0.mk ((by rw [hg]; exact Nat.ne_of_gt (blk_lt (g := gb169) (o := .cells #[.int .i64 t166, .int .i64 t167] 31 (0, 0)) (by (with_reducible repeat (first | refine blk_drewN ?_ _ | refine blk_drew ?_ | refine blk_alloc ?_ _)); exact BK169.out)) : gb185 ≠ gb169)); have n16_ := Aside0.mk ((by rw [hg]; exact Nat.ne_of_lt (blk_lt (g := gb173) (o := .cells #[.int .i64 t170, .int .i64 t171] 31 (0, 0)) (by (with_reducible repeat (first | refine blk_drewN ?_ _ | refine blk_drew ?_ | refine blk_alloc ?_ _)); exact BK173.out)) : gb173 ≠ gb185)); have n17_ := Aside0.mk ((by rw [hg]; exact Nat.ne_of_gt (blk_lt (g := gb173) (o := .cells #[.int .i64 t170, .int .i64 t171] 31 (0, 0)) (by (with_reducible repeat (first | refine blk_drewN ?_ _ | refine blk_drew ?_ | refine blk_alloc ?_ _)); exact BK173.out)) : gb185 ≠ gb173)); have n18_ := Aside0.mk ((by rw [hg]; exact Nat.ne_of_lt (blk_lt (g := gb177) (o := .cells #[.int .i64 t174, .int .i64 t175] 31 (0, 0)) (by (with_reducible repeat (first | refine blk_drewN ?_ _ | refine blk_drew ?_ | refine blk_alloc ?_ _)); exact BK177.out)) : gb177 ≠ gb185)); have n19_ := Aside0.mk ((by rw [hg]; exact Nat.ne_of_gt (blk_lt (g := gb177) (o := .cells #[.int .i64 t174, .int .i64 t175] 31 (0, 0)) (by (with_reducible repeat (first | refine blk_drewN ?_ _ | refine blk_drew ?_ | refine blk_alloc ?_ _)); exact BK177.out)) : gb185 ≠ gb177)); have n20_ := Aside0.mk ((by rw [hg]; exact Nat.ne_of_lt (blk_lt (g := gb181) (o := .cells #[.int .i64 t178, .int .i64 t179] 31 (0, 0)) (by (with_reducible repeat (first | refine blk_drewN ?_ _ | refine blk_drew ?_ | refine blk_alloc ?_ _)); exact BK181.out)) : gb181 ≠ gb185)); have n21_ := Aside0.mk ((by rw [hg]; exact Nat.ne_of_gt (blk_lt (g := gb181) (o := .cells #[.int .i64 t178, .int .i64 t179] 31 (0, 0)) (by (with_reducible repeat (first | refine blk_drewN ?_ _ | refine blk_drew ?_ | refine blk_alloc ?_ _)); exact BK181.out)) : gb185 ≠ gb181)); clear HO_6; clear HO_7; clear HO_9; clear HO_10; clear HO_15; clear HO_76; clear BK169; clear BK173; clear BK177; clear BK181; clear HB; have HO_6 := n0_; have HO_7 := n1_; have HO_9 := n2_; have HO_10 := n3_; have HO_15 := n4_; have HO_76 := n5_; have BK169 := n6_; have BK173 := n7_; have BK177 := n8_; have BK181 := n9_; have HB := n10_; have BK185 := n11_; have GW185 := n12_; have GE185 := n13_; have NB169_185 := n14_; have NB185_169 := n15_; have NB173_185 := n16_; have NB185_173 := n17_; have NB177_185 := n18_; have NB185_177 := n19_; have NB181_185 := n20_; have NB185_181 := n21_; clear n0_ n1_ n2_ n3_ n4_ n5_ n6_ n7_ n8_ n9_ n10_ n11_ n12_ n13_ n14_ n15_ n16_ n17_ n18_ n19_ n20_ n21_; clear hb hbox hg; have hnb88 := NB185_169.out; have hnc88 := NB169_185.out; have hnb89 := NB185_173.out; have hnc89 := NB173_185.out; have hnb90 := NB185_177.out; have hnc90 := NB177_185.out; have hnb91 := NB185_181.out; have hnc91 := NB181_185.out; have hcz92_0 : w87.cell? ⟨gb185, 0, none⟩ = some (.int .i64 0) := (blk_cell BK185.out 0).trans rfl; have hcz92_1 : w87.cell? ⟨gb185, 1, none⟩ = some (.int .i64 0) := (blk_cell BK185.out 1).trans rfl; have hfz92_0 := blk_frozen BK185.out 0; have hfz92_1 := blk_frozen BK185.out 1) | ((with_reducible refine gate_store (t := 31) (p := 26) rfl ?_); refine store_event (t := 31) (p := 26) (v := ?vo_w93) (w1 := ((w87.setCell ⟨gb185, 0, none⟩ (.int .i64 t182)).setCell ⟨gb185, 1, none⟩ (.int .i64 t183))) ?hg ?ho ?hn ?hr ?_; (case ho => rfl); (case hg => rfl); (case hn => rfl); (case hr => first | (go_simp; done) | (go_simp; rfl)); intro w93 hw; have n0_ : Aside0 (Kd.R (Kd.int .i64) 3 w93 w.heap.size (fun k_ => some k_ ≠ (.slice Ao19 t137.length co19 : Value).ownBlock ∧ some k_ ≠ (.slice Ao20 x9_1.length co20 : Value).ownBlock ∧ some k_ ≠ (.slice Ao33 x10_2.length co33 : Value).ownBlock ∧ some k_ ≠ (.slice Ao72 x15_3.length co72 : Value).ownBlock) (.slice Ao17 t133.length co17) t133) := ⟨(by rw [hw]; exact (by (with_reducible repeat (first | apply Kd.R_alloc | apply Kd.R_drewN | apply Kd.R_drew)); exact Kd.R_mono (Kd.R_far (p := ⟨gb185, 1, none⟩) (Kd.R_far (p := ⟨gb185, 0, none⟩) (Kd.R_types HO_6.out BK185.out (by decide)) (fun _ hk => hk.2) (.int .i64 t182)) (fun _ hk => hk.2) (.int .i64 t183)) (fun _ hk => ⟨hk.1.1, ⟨hk.1.2.1, ⟨hk.1.2.2.1, hk.1.2.2.2⟩⟩⟩)))⟩; have n1_ : Aside0 (Kd.R (Kd.int .i64) 3 w93 w.heap.size (fun k_ => some k_ ≠ (.slice Ao17 t133.length co17 : Value).ownBlock ∧ some k_ ≠ (.slice Ao20 x9_1.length co20 : Value).ownBlock ∧ some k_ ≠ (.slice Ao33 x10_2.length co33 : Value).ownBlock ∧ some k_ ≠ (.slice Ao72 x15_3.length co72 : Value).ownBlock ∧ some k_ ≠ (.slice Ao17 t133.length co17 : Value).ownBlock) (.slice Ao19 t137.length co19) t137) := ⟨(by rw [hw]; exact (by (with_reducible repeat (first | apply Kd.R_alloc | apply Kd.R_drewN | apply Kd.R_drew)); exact Kd.R_mono (Kd.R_far (p := ⟨gb185, 1, none⟩) (Kd.R_far (p := ⟨gb185, 0, none⟩) (Kd.R_types HO_7.out BK185.out (by decide)) (fun _ hk => hk.2) (.int .i64 t182)) (fun _ hk => hk.2) (.int .i64 t183)) (fun _ hk => ⟨hk.1.1, ⟨hk.1.2.1, ⟨hk.1.2.2.1, ⟨hk.1.2.2.2.1, hk.1.2.2.2.2⟩⟩⟩⟩)))⟩; have n2_ : Aside0 (Kd.R (Kd.int .i64) 3 w93 w.heap.size (fun k_ => some k_ ≠ (.slice Ao17 t133.length co17 : Value).ownBlock ∧ some k_ ≠ (.slice Ao19 t137.length co19 : Value).ownBlock ∧ some k_ ≠ (.slice Ao33 x10_2.length co33 : Value).ownBlock ∧ some k_ ≠ (.slice Ao72 x15_3.length co72 : Value).ownBlock ∧ some k_ ≠ (.slice Ao17 t133.length co17 : Value).ownBlock) (.slice Ao20 x9_1.length co20) x9_1) := ⟨(by rw [hw]; exact (by (with_reducible repeat (first | apply Kd.R_alloc | apply Kd.R_drewN | apply Kd.R_drew)); exact Kd.R_mono (Kd.R_far (p := ⟨gb185, 1, none⟩) (Kd.R_far (p := ⟨gb185, 0, none⟩) (Kd.R_types HO_9.out BK185.out (by decide)) (fun _ hk => hk.2) (.int .i64 t182)) (fun _ hk => hk.2) (.int .i64 t183)) (fun _ hk => ⟨hk.1.1, ⟨hk.1.2.1, ⟨hk.1.2.2.1, ⟨hk.1.2.2.2.1, hk.1.2.2.2.2⟩⟩⟩⟩)))⟩; have n3_ : Aside0 (Kd.R (Kd.int .i64) 3 w93 w.heap.size (fun k_ => some k_ ≠ (.slice Ao17 t133.length co17 : Value).ownBlock ∧ some k_ ≠ (.slice Ao19 t137.length co19 : Value).ownBlock ∧ some k_ ≠ (.slice Ao20 x9_1.length co20 : Value).ownBlock ∧ some k_ ≠ (.slice Ao72 x15_3.length co72 : Value).ownBlock ∧ some k_ ≠ (.slice Ao17 t133.length co17 : Value).ownBlock) (.slice Ao33 x10_2.length co33) x10_2) := ⟨(by rw [hw]; exact (by (with_reducible repeat (first | apply Kd.R_alloc | apply Kd.R_drewN | apply Kd.R_drew)); exact Kd.R_mono (Kd.R_far (p := ⟨gb185, 1, none⟩) (Kd.R_far (p := ⟨gb185, 0, none⟩) (Kd.R_types HO_10.out BK185.out (by decide)) (fun _ hk => hk.2) (.int .i64 t182)) (fun _ hk => hk.2) (.int .i64 t183)) (fun _ hk => ⟨hk.1.1, ⟨hk.1.2.1, ⟨hk.1.2.2.1, ⟨hk.1.2.2.2.1, hk.1.2.2.2.2⟩⟩⟩⟩)))⟩; have n4_ : Aside0 (Kd.R (Kd.int .i64) 3 w93 w.heap.size (fun k_ => some k_ ≠ (.slice Ao17 t133.length co17 : Value).ownBlock ∧ some k_ ≠ (.slice Ao19 t137.length co19 : Value).ownBlock ∧ some k_ ≠ (.slice Ao20 x9_1.length co20 : Value).ownBlock ∧ some k_ ≠ (.slice Ao33 x10_2.length co33 : Value).ownBlock ∧ some k_ ≠ (.slice Ao17 t133.length co17 : Value).ownBlock) (.slice Ao72 x15_3.length co72) x15_3) := ⟨(by rw [hw]; exact (by (with_reducible repeat (first | apply Kd.R_alloc | apply Kd.R_drewN | apply Kd.R_drew)); exact Kd.R_mono (Kd.R_far (p := ⟨gb185, 1, none⟩) (Kd.R_far (p := ⟨gb185, 0, none⟩) (Kd.R_types HO_15.out BK185.out (by decide)) (fun _ hk => hk.2) (.int .i64 t182)) (fun _ hk => hk.2) (.int .i64 t183)) (fun _ hk => ⟨hk.1.1, ⟨hk.1.2.1, ⟨hk.1.2.2.1, ⟨hk.1.2.2.2.1, hk.1.2.2.2.2⟩⟩⟩⟩)))⟩; have n5_ : Aside0 (Kd.R (Kd.int .i64) 3 w93 w.heap.size (fun k_ => some k_ ≠ (.slice Ao19 t137.length co19 : Value).ownBlock ∧ some k_ ≠ (.slice Ao20 x9_1.length co20 : Value).ownBlock ∧ some k_ ≠ (.slice Ao33 x10_2.length co33 : Value).ownBlock ∧ some k_ ≠ (.slice Ao72 x15_3.length co72 : Value).ownBlock) (.slice Ao17 t133.length co17) t133) := ⟨(by rw [hw]; exact (by (with_reducible repeat (first | apply Kd.R_alloc | apply Kd.R_drewN | apply Kd.R_drew)); exact Kd.R_mono (Kd.R_far (p := ⟨gb185, 1, none⟩) (Kd.R_far (p := ⟨gb185, 0, none⟩) (Kd.R_types HO_76.out BK185.out (by decide)) (fun _ hk => hk.2) (.int .i64 t182)) (fun _ hk => hk.2) (.int .i64 t183)) (fun _ hk => ⟨hk.1.1, ⟨hk.1.2.1, ⟨hk.1.2.2.1, hk.1.2.2.2⟩⟩⟩)))⟩; have n6_ : Aside0 (w93.heap[gb169]? = some (.cells #[.int .i64 t166, .int .i64 t167] 31 (0, 0))) := ⟨(by rw [hw]; exact (by (with_reducible repeat (first | refine blk_drewN ?_ _ | refine blk_drew ?_ | refine blk_alloc ?_ _)); refine blk_far ?_ NB169_185.out _; (with_reducible repeat (first | refine blk_drewN ?_ _ | refine blk_drew ?_ | refine blk_alloc ?_ _)); refine blk_far ?_ NB169_185.out _; (with_reducible repeat (first | refine blk_drewN ?_ _ | refine blk_drew ?_ | refine blk_alloc ?_ _)); exact BK169.out))⟩; have n7_ : Aside0 (w93.heap[gb173]? = some (.cells #[.int .i64 t170, .int .i64 t171] 31 (0, 0))) := ⟨(by rw [hw]; exact (by (with_reducible repeat (first | refine blk_drewN ?_ _ | refine blk_drew ?_ | refine blk_alloc ?_ _)); refine blk_far ?_ NB173_185.out _; (with_reducible repeat (first | refine blk_drewN ?_ _ | refine blk_drew ?_ | refine blk_alloc ?_ _)); refine blk_far ?_ NB173_185.out _; (with_reducible repeat (first | refine blk_drewN ?_ _ | refine blk_drew ?_ | refine blk_alloc ?_ _)); exact BK173.out))⟩; have n8_ : Aside0 (w93.heap[gb177]? = some (.cells #[.int .i64 t174, .int .i64 t175] 31 (0, 0))) := ⟨(by rw [hw]; exact (by (with_reducible repeat (first | refine blk_drewN ?_ _ | refine blk_drew ?_ | refine blk_alloc ?_ _)); refine blk_far ?_ NB177_185.out _; (with_reducible repeat (first | refine blk_drewN ?_ _ | refine blk_drew ?_ | refine blk_alloc ?_ _)); refine blk_far ?_ NB177_185.out _; (with_reducible repeat (first | refine blk_drewN ?_ _ | refine blk_drew ?_ | refine blk_alloc ?_ _)); exact BK177.out))⟩; have n9_ : Aside0 (w93.heap[gb181]? = some (.cells #[.int .i64 t178, .int .i64 t179] 31 (0, 0))) := ⟨(by rw [hw]; exact (by (with_reducible repeat (first | refine blk_drewN ?_ _ | refine blk_drew ?_ | refine blk_alloc ?_ _)); refine blk_far ?_ NB181_185.out _; (with_reducible repeat (first | refine blk_drewN ?_ _ | refine blk_drew ?_ | refine blk_alloc ?_ _)); refine blk_far ?_ NB181_185.out _; (with_reducible repeat (first | refine blk_drewN ?_ _ | refine blk_drew ?_ | refine blk_alloc ?_ _)); exact BK181.out))⟩; have n10_ : Aside0 (w93.heap[gb185]? = some (.cells #[.int .i64 t182, .int .i64 t183] 31 (0, 0))) := ⟨(by rw [hw]; exact (by (with_reducible repeat (first | refine blk_drewN ?_ _ | refine blk_drew ?_ | refine blk_alloc ?_ _)); refine blk_put (cs := #[.int .i64 t182, .int .i64 0]) ?_ 1 _ rfl; (with_reducible repeat (first | refine blk_drewN ?_ _ | refine blk_drew ?_ | refine blk_alloc ?_ _)); refine blk_put (cs := #[.int .i64 0, .int .i64 0]) ?_ 0 _ rfl; (with_reducible repeat (first | refine blk_drewN ?_ _ | refine blk_drew ?_ | refine blk_alloc ?_ _)); exact BK185.out))⟩; have n11_ : Aside0 (Below w.heap.size w w93) := ⟨(by rw [hw]; exact (by repeat (first | (with_reducible first | exact HB.out | apply below_alloc | apply pw_below_drewN | apply below_drew1 | refine below_set ?_ GE169.out | refine below_set ?_ GE173.out | refine below_set ?_ GE177.out | refine below_set ?_ GE181.out | refine below_set ?_ GE185.out) | exact HB.out)))⟩; clear hw; clear HO_6; clear HO_7; clear HO_9; clear HO_10; clear HO_15; clear HO_76; clear BK169; clear BK173; clear BK177; clear BK181; clear BK185; clear HB; have HO_6 := n0_; have HO_7 := n1_; have HO_9 := n2_; have HO_10 := n3_; have HO_15 := n4_; have HO_76 := n5_; have BK169 := n6_; have BK173 := n7_; have BK177 := n8_; have BK181 := n9_; have BK185 := n10_; have HB := n11_; clear n0_ n1_ n2_ n3_ n4_ n5_ n6_ n7_ n8_ n9_ n10_ n11_; have hcz94_0 : w93.cell? ⟨gb169, 0, none⟩ = some (.int .i64 t166) := (blk_cell BK169.out 0).trans rfl; have hcz94_1 : w93.cell? ⟨gb169, 1, none⟩ = some (.int .i64 t167) := (blk_cell BK169.out 1).trans rfl; have hfz94_0 := blk_frozen BK169.out 0; have hfz94_1 := blk_frozen BK169.out 1; have hcz95_0 : w93.cell? ⟨gb173, 0, none⟩ = some (.int .i64 t170) := (blk_cell BK173.out 0).trans rfl; have hcz95_1 : w93.cell? ⟨gb173, 1, none⟩ = some (.int .i64 t171) := (blk_cell BK173.out 1).trans rfl; have hfz95_0 := blk_frozen BK173.out 0; have hfz95_1 := blk_frozen BK173.out 1; have hcz96_0 : w93.cell? ⟨gb177, 0, none⟩ = some (.int .i64 t174) := (blk_cell BK177.out 0).trans rfl; have hcz96_1 : w93.cell? ⟨gb177, 1, none⟩ = some (.int .i64 t175) := (blk_cell BK177.out 1).trans rfl; have hfz96_0 := blk_frozen BK177.out 0; have hfz96_1 := blk_frozen BK177.out 1; have hcz97_0 : w93.cell? ⟨gb181, 0, none⟩ = some (.int .i64 t178) := (blk_cell BK181.out 0).trans rfl; have hcz97_1 : w93.cell? ⟨gb181, 1, none⟩ = some (.int .i64 t179) := (blk_cell BK181.out 1).trans rfl; have hfz97_0 := blk_frozen BK181.out 0; have hfz97_1 := blk_frozen BK181.out 1; have hcz98_0 : w93.cell? ⟨gb185, 0, none⟩ = some (.int .i64 t182) := (blk_cell BK185.out 0).trans rfl; have hcz98_1 : w93.cell? ⟨gb185, 1, none⟩ = some (.int .i64 t183) := (blk_cell BK185.out 1).trans rfl; have hfz98_0 := blk_frozen BK185.out 0; have hfz98_1 := blk_frozen BK185.out 1))
                                go_ret
                                exact ⟨by first | rfl | (simp [errW_none, errW_some] <;> rfl) | (simp [*, errW_none, errW_some] <;> rfl), by repeat (first | (with_reducible first | exact HB.out | apply below_alloc | apply pw_below_drewN | apply below_drew1 | refine below_set ?_ GE169.out | refine below_set ?_ GE173.out | refine below_set ?_ GE177.out | refine below_set ?_ GE181.out | refine below_set ?_ GE185.out) | exact HB.out)⟩
                              · rw [if_neg c62] at H
                                exact absurd H (by simp)
                            · rw [if_neg c61] at H
                              exact absurd H (by simp)
                          · rw [if_neg c60] at H
                            exact absurd H (by simp)
                        · rw [if_neg c59] at H
                          exact absurd H (by simp)
                      · rw [if_neg c58] at H
                        exact absurd H (by simp)
                    · rw [if_neg c57] at H
                      exact absurd H (by simp)
                  · rw [if_neg c56] at H
                    exact absurd H (by simp)
      · rw [if_neg c10] at H
        exact absurd H (by simp)
    · rw [if_neg c9] at H
      exact absurd H (by simp)
  · replace c4 := Bool.eq_false_iff.mpr c4
    subst c4
    have H1 : (none) = some r := by rw [if_neg (show ¬ (false = true) by decide)] at H; exact H
    clear H
    have H := H1
    clear H1
    exact absurd H (by simp)

/-- THE ONE PURE STATEMENT of synopticlaw39_SamplingErrors: yours. -/
def synopticlaw39_SamplingErrors.Pure : Prop := ∀ (l0 : List Int) (l1 : List Int), l0.length ≤ maxLen → l0.length * 1 ≤ 140737488351232 → (∀ x ∈ l0, (Lit.int .u8 x).wf = true) → l1.length ≤ maxLen → l1.length * 1 ≤ 140737488351232 → (∀ x ∈ l1, (Lit.int .u8 x).wf = true) → ∃ k, synopticlaw39_SamplingErrors.f k l0 l1 = some true
theorem synopticlaw39_SamplingErrors.walk (P : synopticlaw39_SamplingErrors.Pure) (a0 : Option Addr) (len0 cap0 : Nat) (z0 : List Int) (a1 : Option Addr) (len1 cap1 : Nat) (z1 : List Int) (w : World) (w0 : (a0 = none ∧ len0 = 0 ∧ cap0 = 0 ∧ z0 = []) ∨ ∃ x, a0 = some x ∧ len0 ≤ cap0 ∧ cap0 ≤ maxLen ∧ z0.length = cap0 ∧ (∀ i, i < z0.length → w.cell? (x.add i) = some (.int .u8 (z0.getD i 0))) ∧ ∀ n ∈ z0, (Lit.int .u8 n).wf = true) (y0 : len0 * 1 ≤ 140737488351232) (w1 : (a1 = none ∧ len1 = 0 ∧ cap1 = 0 ∧ z1 = []) ∨ ∃ x, a1 = some x ∧ len1 ≤ cap1 ∧ cap1 ≤ maxLen ∧ z1.length = cap1 ∧ (∀ i, i < z1.length → w.cell? (x.add i) = some (.int .u8 (z1.getD i 0))) ∧ ∀ n ∈ z1, (Lit.int .u8 n).wf = true) (y1 : len1 * 1 ≤ 140737488351232) :
    Calls Try.prog 5 #[.slice a0 len0 cap0, .slice a1 len1 cap1] w fun e w' => e = .returned (.bool true) ∧ Below w.heap.size w w' := by
  obtain ⟨l0, rfl, hr0, hm0, hw0, hc0⟩ := ReadsInt.ofRowC w0
  obtain ⟨l1, rfl, hr1, hm1, hw1, hc1⟩ := ReadsInt.ofRowC w1
  obtain ⟨k, h⟩ := P l0 l1 hm0 y0 hw0 hm1 y1 hw1
  refine (synopticlaw39_SamplingErrors.calls k _ _ l0 _ _ l1 true w (Kd.C_of_reads (d := (0 : Int)) (h1 := fun _ => rfl) hr0) hc0 (Kd.C_of_reads (d := (0 : Int)) (h1 := fun _ => rfl) hr1) hc1 h).mono ?_
  rintro e w' ⟨rfl, hd⟩
  exact ⟨rfl, hd⟩

end Go.Proofs.Ytcgjgpdandjicaa.B
