/- Made by our program mkbase.py out of the printed functions of this seat: LIntervals. -/
import Derived.Test.YtcgjgpdandjicaaB1
import Derived.Test.YtcgjgpdandjicaaBC
import Derived.Test.YtcgjgpdandjicaaBW
import Derived.Test.YtcgjgpdandjicaaBL
import Derived.Test.YtcgjgpdandjicaaBJ
import Derived.Test.YtcgjgpdandjicaaMedA
namespace Go.Proofs.Ytcgjgpdandjicaa.B
open Go.RowKit Go.Proofs.YtcgjgpdandjicaaW.PrintWords Go.Proofs.YtcgjgpdandjicaaW.PrintLast Go.Proofs.YtcgjgpdandjicaaW.PrintMore
attribute [local go_sem] max2_int min2_int max_two min_two max_three min_three max_four min_four   -- for this text's walks alone
set_option linter.unusedVariables false
set_option linter.unusedSimpArgs false

attribute [local go_sem high] eqA31 eqA90
/-! ### synopticlaw39_SamplingIntervals: function 7 -/
mutual
def synopticlaw39_SamplingIntervals.j0 : Nat → Int → Int → List Int → Int → Int → Int → Int → Option (Bool)
  | 0, _, _, _, _, _, _, _ => none
  | k + 1, x3, x4, x11, x171000, x171001, x172000, x172001 => (sampling_Median.f x11 x171000 x171001).bind fun bt173 => ((sampling_Median.f x11 x172000 x172001).bind fun bt176 => (if bt173.2.2 = 0 then (if bt173.1 > bt173.2.1 then (none) else ((synopticlaw39_in.f k x11 bt173.1).bind fun t179 => (if t179 = true then ((synopticlaw39_in.f k x11 bt173.2.1).bind fun t180 => (if t180 = true then (if bt176.2.2 = 0 then (if bt176.1 > bt173.1 then (none) else (if bt176.2.1 < bt173.2.1 then (none) else (synopticlaw39_SamplingIntervals.j1 k x3 x4 false))) else (synopticlaw39_SamplingIntervals.j1 k x3 x4 false)) else (none))) else (none)))) else (if bt176.2.2 = 0 then (none) else (synopticlaw39_SamplingIntervals.j1 k x3 x4 false))))
def synopticlaw39_SamplingIntervals.j1 : Nat → Int → Int → Bool → Option (Bool)
  | 0, _, _, _ => none
  | k + 1, x3, x4, x99 => if x99 = true then (none) else (if (wrap64 ((Int.tmod (wrap64 (x3)) 51) + 2)) = 0 then (none) else ((sampling_Tail.f k (Int.tmod (wrap64 (x3)) 51) (wrap64 ((Int.tmod (wrap64 (x4)) (wrap64 ((Int.tmod (wrap64 (x3)) 51) + 2))) - 1))).bind fun bt181 => ((sampling_Tail.f k (Int.tmod (wrap64 (x3)) 51) (wrap64 ((Int.tmod (wrap64 (x3)) 51) - (Int.tmod (wrap64 (x4)) (wrap64 ((Int.tmod (wrap64 (x3)) 51) + 2)))))).bind fun bt185 => (if bt181.2.1 < 1 then (none) else (if bt185.2.1 < 1 then (none) else (if 0 ≤ (IntKind.u64.wrap (Int.tmod (wrap64 (x3)) 51)) then (if bt181.2.1 = 0 then (none) else (if bt185.2.1 = 0 then (none) else ((score_Reduce.f (wrap64 ((wrap64 (bt181.1 * (wrap64 (Int.tdiv (shl .i64 1 (IntKind.u64.wrap (Int.tmod (wrap64 (x3)) 51))) bt181.2.1)))) + (wrap64 (bt185.1 * (wrap64 (Int.tdiv (shl .i64 1 (IntKind.u64.wrap (Int.tmod (wrap64 (x3)) 51))) bt185.2.1)))))) (shl .i64 1 (IntKind.u64.wrap (Int.tmod (wrap64 (x3)) 51)))).bind fun bt189 => (if bt181.2.2 = 0 then (if bt185.2.2 = 0 then (if bt189.2.2 = 0 then (some (bt189.1 == 1 && (bt189.2.1 == 1))) else (none)) else (none)) else (none))))) else (none)))))))
end
def synopticlaw39_SamplingIntervals.f (k : Nat) (l0 : List Int) (a1 : Int) (a2 : Int) (a3 : Int) (a4 : Int) : Option (Bool) := (synopticlaw39_awake.f).bind fun t158 => (if t158 = true then ((synopticfield_New.f l0 80).bind fun bt159 => ((synopticlaw39_sample.f k bt159.1 bt159.2 20).bind fun bt162 => ((synopticlaw39_level.f k (wrap64 (mn a1 a2))).bind fun bt166 => ((synopticlaw39_level.f k (wrap64 (mx a1 a2))).bind fun bt168 => ((score_Compare.f bt166.1 bt166.2 bt168.1 bt168.2).bind fun t172 => (if t172 > 0 then (synopticlaw39_SamplingIntervals.j0 k a3 a4 bt162.1 bt168.1 bt168.2 bt166.1 bt166.2) else (synopticlaw39_SamplingIntervals.j0 k a3 a4 bt162.1 bt166.1 bt166.2 bt168.1 bt168.2))))))) else (none))
theorem synopticlaw39_SamplingIntervals.mono_l : ∀ k, (∀ y0 y1 y2 y3 y4 y5 y6, LeO (synopticlaw39_SamplingIntervals.j0 k y0 y1 y2 y3 y4 y5 y6) (synopticlaw39_SamplingIntervals.j0 (k + 1) y0 y1 y2 y3 y4 y5 y6)) ∧ (∀ y0 y1 y2, LeO (synopticlaw39_SamplingIntervals.j1 k y0 y1 y2) (synopticlaw39_SamplingIntervals.j1 (k + 1) y0 y1 y2))
  | 0 => ⟨fun _ _ _ _ _ _ _ r h => by simp [synopticlaw39_SamplingIntervals.j0] at h, fun _ _ _ r h => by simp [synopticlaw39_SamplingIntervals.j1] at h⟩
  | k + 1 => by
    obtain ⟨ih0, ih1⟩ := synopticlaw39_SamplingIntervals.mono_l k
    refine ⟨?_, ?_⟩
    · intro y0 y1 y2 y3 y4 y5 y6
      unfold synopticlaw39_SamplingIntervals.j0
      repeat' first
      | (with_reducible exact ih0 _ _ _ _ _ _ _)
      | (with_reducible exact ih1 _ _ _)
      | (with_reducible exact sampling_Tail.mono _ _ _)
      | (with_reducible exact synopticlaw39_in.mono _ _ _)
      | (with_reducible exact synopticlaw39_level.mono _ _)
      | (with_reducible exact synopticlaw39_sample.mono _ _ _ _)
      | (with_reducible exact LeO.refl _)
      | (with_reducible exact LeO.none _)
      | (with_reducible refine LeO.ite ?_ ?_)
      | (with_reducible refine LeO.bind ?_ (fun _ => ?_))
      | exact ih0 _ _ _ _ _ _ _
      | exact ih1 _ _ _
      | exact sampling_Tail.mono _ _ _
      | exact synopticlaw39_in.mono _ _ _
      | exact synopticlaw39_level.mono _ _
      | exact synopticlaw39_sample.mono _ _ _ _
      | exact LeO.none _
      | refine LeO.ite ?_ ?_
      | refine LeO.bind ?_ (fun _ => ?_)
    · intro y0 y1 y2
      unfold synopticlaw39_SamplingIntervals.j1
      repeat' first
      | (with_reducible exact ih0 _ _ _ _ _ _ _)
      | (with_reducible exact ih1 _ _ _)
      | (with_reducible exact sampling_Tail.mono _ _ _)
      | (with_reducible exact synopticlaw39_in.mono _ _ _)
      | (with_reducible exact synopticlaw39_level.mono _ _)
      | (with_reducible exact synopticlaw39_sample.mono _ _ _ _)
      | (with_reducible exact LeO.refl _)
      | (with_reducible exact LeO.none _)
      | (with_reducible refine LeO.ite ?_ ?_)
      | (with_reducible refine LeO.bind ?_ (fun _ => ?_))
      | exact ih0 _ _ _ _ _ _ _
      | exact ih1 _ _ _
      | exact sampling_Tail.mono _ _ _
      | exact synopticlaw39_in.mono _ _ _
      | exact synopticlaw39_level.mono _ _
      | exact synopticlaw39_sample.mono _ _ _ _
      | exact LeO.none _
      | refine LeO.ite ?_ ?_
      | refine LeO.bind ?_ (fun _ => ?_)
theorem synopticlaw39_SamplingIntervals.mono : ∀ a0 a1 a2 a3 a4 k, LeO (synopticlaw39_SamplingIntervals.f k a0 a1 a2 a3 a4) (synopticlaw39_SamplingIntervals.f (k + 1) a0 a1 a2 a3 a4) := by
  intro a0 a1 a2 a3 a4 k
  obtain ⟨ih0, ih1⟩ := synopticlaw39_SamplingIntervals.mono_l k
  unfold synopticlaw39_SamplingIntervals.f
  repeat' first
      | (with_reducible exact ih0 _ _ _ _ _ _ _)
      | (with_reducible exact ih1 _ _ _)
      | (with_reducible exact sampling_Tail.mono _ _ _)
      | (with_reducible exact synopticlaw39_in.mono _ _ _)
      | (with_reducible exact synopticlaw39_level.mono _ _)
      | (with_reducible exact synopticlaw39_sample.mono _ _ _ _)
      | (with_reducible exact LeO.refl _)
      | (with_reducible exact LeO.none _)
      | (with_reducible refine LeO.ite ?_ ?_)
      | (with_reducible refine LeO.bind ?_ (fun _ => ?_))
      | exact ih0 _ _ _ _ _ _ _
      | exact ih1 _ _ _
      | exact sampling_Tail.mono _ _ _
      | exact synopticlaw39_in.mono _ _ _
      | exact synopticlaw39_level.mono _ _
      | exact synopticlaw39_sample.mono _ _ _ _
      | exact LeO.none _
      | refine LeO.ite ?_ ?_
      | refine LeO.bind ?_ (fun _ => ?_)
def synopticlaw39_SamplingIntervals.T17 : Bool × List (List Nat × List Nat) := (true, [([], []), ([0], [0]), ([], []), ([2], [2]), ([3], [3]), ([], []), ([5], [5]), ([4, 6], [4, 6]), ([1, 7], [1, 7]), ([], []), ([9], [9]), ([], []), ([11], [11]), ([12], [12]), ([], []), ([14], [14]), ([13, 15], [13, 15]), ([10, 16], [10, 16]), ([8, 17], [8, 17]), ([], []), ([19], [19]), ([20], [20]), ([18, 21], [18, 21]), ([22], [22]), ([23], [23]), ([23], [23]), ([], []), ([26, 24, 22, 0, 1, 2, 3, 4, 5, 6, 7, 8, 9, 10, 11, 12, 13, 14, 15, 16, 17, 18, 19, 20, 21, 22, 23, 24, 26], [24, 26]), ([25, 27, 0, 1, 2, 3, 4, 5, 6, 7, 8, 9, 10, 11, 12, 13, 14, 15, 16, 17, 18, 19, 20, 21, 22, 23, 24, 25, 26, 27], [25])])
def synopticlaw39_SamplingIntervals.B17 : List Nat := [0, 1, 0, 4, 12, 0, 32, 124, 255, 0, 512, 0, 2048, 6144, 0, 16384, 63488, 130560, 262143, 0, 524288, 1572864, 4194303, 8388607, 16777215, 16777215, 0, 100663295, 268435455]
theorem synopticlaw39_SamplingIntervals.tab17 : rtab .any (opsOf Try.f7 17) = synopticlaw39_SamplingIntervals.T17 := by kernel_rfl
theorem synopticlaw39_SamplingIntervals.bits17 : waitsOk synopticlaw39_SamplingIntervals.T17.2 synopticlaw39_SamplingIntervals.B17 = true := by kernel_rfl
set_option maxHeartbeats 8000000 in
set_option maxRecDepth 100000 in
theorem synopticlaw39_SamplingIntervals.calls (k : Nat) (A0 : Option Addr) (c0 : Nat) (l0 : List Int) (a1 : Int) (a2 : Int) (a3 : Int) (a4 : Int) (r : Bool) (w : World) (hr0 : Kd.C (Kd.int .u8) w A0 l0.length l0) (hc0 : l0.length ≤ c0) (h : synopticlaw39_SamplingIntervals.f k l0 a1 a2 a3 a4 = some r) :
    Calls Try.prog 7 #[.slice A0 l0.length c0, .int .u8 a1, .int .u8 a2, .int .u8 a3, .int .u8 a4] w fun e w' => e = .returned (.bool r) ∧ Below w.heap.size w w' := by
  have hu31 := Try.underlying31
  have HR0 := Aside0.mk hr0
  have HC0 := Aside0.mk hc0
  clear hr0 hc0
  have HB := Aside0.mk (Below.refl w.heap.size w)
  have H : ((synopticlaw39_awake.f).bind fun t158 => (if t158 = true then ((synopticfield_New.f l0 80).bind fun bt159 => ((synopticlaw39_sample.f k bt159.1 bt159.2 20).bind fun bt162 => ((synopticlaw39_level.f k (wrap64 (mn a1 a2))).bind fun bt166 => ((synopticlaw39_level.f k (wrap64 (mx a1 a2))).bind fun bt168 => ((score_Compare.f bt166.1 bt166.2 bt168.1 bt168.2).bind fun t172 => (if t172 > 0 then (synopticlaw39_SamplingIntervals.j0 k a3 a4 bt162.1 bt168.1 bt168.2 bt166.1 bt166.2) else (synopticlaw39_SamplingIntervals.j0 k a3 a4 bt162.1 bt166.1 bt166.2 bt168.1 bt168.2))))))) else (none))) = some r := h
  clear h
  replace H := Option.bind_eq_some_iff.mp H
  obtain ⟨t158, A60, H⟩ := H
  replace H : (if t158 = true then ((synopticfield_New.f l0 80).bind fun bt159 => ((synopticlaw39_sample.f k bt159.1 bt159.2 20).bind fun bt162 => ((synopticlaw39_level.f k (wrap64 (mn a1 a2))).bind fun bt166 => ((synopticlaw39_level.f k (wrap64 (mx a1 a2))).bind fun bt168 => ((score_Compare.f bt166.1 bt166.2 bt168.1 bt168.2).bind fun t172 => (if t172 > 0 then (synopticlaw39_SamplingIntervals.j0 k a3 a4 bt162.1 bt168.1 bt168.2 bt166.1 bt166.2) else (synopticlaw39_SamplingIntervals.j0 k a3 a4 bt162.1 bt166.1 bt166.2 bt168.1 bt168.2))))))) else (none)) = some r := H
  have A6 := Aside0.mk A60
  clear A60
  by_cases c7 : t158 = true
  · subst c7
    have H1 : ((synopticfield_New.f l0 80).bind fun bt159 => ((synopticlaw39_sample.f k bt159.1 bt159.2 20).bind fun bt162 => ((synopticlaw39_level.f k (wrap64 (mn a1 a2))).bind fun bt166 => ((synopticlaw39_level.f k (wrap64 (mx a1 a2))).bind fun bt168 => ((score_Compare.f bt166.1 bt166.2 bt168.1 bt168.2).bind fun t172 => (if t172 > 0 then (synopticlaw39_SamplingIntervals.j0 k a3 a4 bt162.1 bt168.1 bt168.2 bt166.1 bt166.2) else (synopticlaw39_SamplingIntervals.j0 k a3 a4 bt162.1 bt166.1 bt166.2 bt168.1 bt168.2))))))) = some r := by rw [if_pos rfl] at H; exact H
    clear H
    have H := H1
    clear H1
    replace H := Option.bind_eq_some_iff.mp H
    obtain ⟨⟨t159, t160⟩, A80, H⟩ := H
    replace H : ((synopticlaw39_sample.f k t159 t160 20).bind fun bt162 => ((synopticlaw39_level.f k (wrap64 (mn a1 a2))).bind fun bt166 => ((synopticlaw39_level.f k (wrap64 (mx a1 a2))).bind fun bt168 => ((score_Compare.f bt166.1 bt166.2 bt168.1 bt168.2).bind fun t172 => (if t172 > 0 then (synopticlaw39_SamplingIntervals.j0 k a3 a4 bt162.1 bt168.1 bt168.2 bt166.1 bt166.2) else (synopticlaw39_SamplingIntervals.j0 k a3 a4 bt162.1 bt166.1 bt166.2 bt168.1 bt168.2)))))) = some r := H
    have A8 := Aside0.mk A80
    clear A80
    replace H := Option.bind_eq_some_iff.mp H
    obtain ⟨⟨t162, t165⟩, A90, H⟩ := H
    replace H : ((synopticlaw39_level.f k (wrap64 (mn a1 a2))).bind fun bt166 => ((synopticlaw39_level.f k (wrap64 (mx a1 a2))).bind fun bt168 => ((score_Compare.f bt166.1 bt166.2 bt168.1 bt168.2).bind fun t172 => (if t172 > 0 then (synopticlaw39_SamplingIntervals.j0 k a3 a4 t162 bt168.1 bt168.2 bt166.1 bt166.2) else (synopticlaw39_SamplingIntervals.j0 k a3 a4 t162 bt166.1 bt166.2 bt168.1 bt168.2))))) = some r := H
    have A9 := Aside0.mk A90
    clear A90
    obtain ⟨ji10, hji10⟩ : ∃ j_ : Int, (mn a1 a2) = j_ := ⟨_, rfl⟩
    replace H : ((synopticlaw39_level.f k (wrap64 (ji10))).bind fun bt166 => ((synopticlaw39_level.f k (wrap64 (mx a1 a2))).bind fun bt168 => ((score_Compare.f bt166.1 bt166.2 bt168.1 bt168.2).bind fun t172 => (if t172 > 0 then (synopticlaw39_SamplingIntervals.j0 k a3 a4 t162 bt168.1 bt168.2 bt166.1 bt166.2) else (synopticlaw39_SamplingIntervals.j0 k a3 a4 t162 bt166.1 bt166.2 bt168.1 bt168.2))))) = some r := by first | (rw [hji10] at H; exact H) | (simp only [hji10] at H ⊢; exact H)
    (try rw [hji10] at A6)
    (try rw [hji10] at A8)
    (try rw [hji10] at A9)
    have hji10_ : (if a2 < a1 then a2 else a1) = ji10 := hji10
    replace H := Option.bind_eq_some_iff.mp H
    obtain ⟨⟨t166, t167⟩, A110, H⟩ := H
    replace H : ((synopticlaw39_level.f k (wrap64 (mx a1 a2))).bind fun bt168 => ((score_Compare.f t166 t167 bt168.1 bt168.2).bind fun t172 => (if t172 > 0 then (synopticlaw39_SamplingIntervals.j0 k a3 a4 t162 bt168.1 bt168.2 t166 t167) else (synopticlaw39_SamplingIntervals.j0 k a3 a4 t162 t166 t167 bt168.1 bt168.2)))) = some r := H
    have A11 := Aside0.mk A110
    clear A110
    obtain ⟨ji12, hji12⟩ : ∃ j_ : Int, (mx a1 a2) = j_ := ⟨_, rfl⟩
    replace H : ((synopticlaw39_level.f k (wrap64 (ji12))).bind fun bt168 => ((score_Compare.f t166 t167 bt168.1 bt168.2).bind fun t172 => (if t172 > 0 then (synopticlaw39_SamplingIntervals.j0 k a3 a4 t162 bt168.1 bt168.2 t166 t167) else (synopticlaw39_SamplingIntervals.j0 k a3 a4 t162 t166 t167 bt168.1 bt168.2)))) = some r := by first | (rw [hji12] at H; exact H) | (simp only [hji12] at H ⊢; exact H)
    (try rw [hji12] at A6)
    (try rw [hji12] at A8)
    (try rw [hji12] at A9)
    (try rw [hji12] at A11)
    have hji12_ : (if a1 < a2 then a2 else a1) = ji12 := hji12
    replace H := Option.bind_eq_some_iff.mp H
    obtain ⟨⟨t168, t169⟩, A130, H⟩ := H
    replace H : ((score_Compare.f t166 t167 t168 t169).bind fun t172 => (if t172 > 0 then (synopticlaw39_SamplingIntervals.j0 k a3 a4 t162 t168 t169 t166 t167) else (synopticlaw39_SamplingIntervals.j0 k a3 a4 t162 t166 t167 t168 t169))) = some r := H
    have A13 := Aside0.mk A130
    clear A130
    replace H := Option.bind_eq_some_iff.mp H
    obtain ⟨t172, A140, H⟩ := H
    replace H : (if t172 > 0 then (synopticlaw39_SamplingIntervals.j0 k a3 a4 t162 t168 t169 t166 t167) else (synopticlaw39_SamplingIntervals.j0 k a3 a4 t162 t166 t167 t168 t169)) = some r := H
    have A14 := Aside0.mk A140
    clear A140
    have HC15 := Aside0.mk H
    clear H
    go_enter Try.func7, Try.ntmps7
    go_upto_if 46 with (first | ((with_reducible refine gate_callee (f := 9) rfl ?_); refine goesL_ (some 28) rfl rfl Try.func9 (by kernel_rfl) rfl #[] rfl (by (try simp only [List.map_toArray, List.map_cons, List.map_nil]); first | done | rfl | (simp only [List.length_drop, List.length_take]; rfl)) ?_; (with_reducible refine (synopticlaw39_awake.calls  true _ A6.out).mono ?_); rintro e w16 ⟨rfl, hb⟩; refine ⟨_, rfl, ?_⟩; have n0_ := Aside0.mk (below_step (by repeat (first | (with_reducible first | exact HB.out | apply below_alloc | apply pw_below_drewN | apply below_drew1) | exact HB.out)) hb); clear HB; have HB := n0_; clear n0_; (try clear hb); (try clear hb2); (try clear hk); (try clear hi)) | ((with_reducible refine gate_callee (f := 11) rfl ?_); refine goesL_ (some 31) rfl rfl Try.func11 (by kernel_rfl) rfl #[.slice A0 l0.length c0, .int .i64 80] rfl (by (try simp only [List.map_toArray, List.map_cons, List.map_nil]); first | done | rfl | (simp only [List.length_drop, List.length_take]; rfl)) ?_; (with_reducible refine (synopticfield_New.calls _ _ l0 80 t159 t160 w _ ?side1 ?side2 ?side3 A8.out).mono ?_); (case side1 => repeat (first | (with_reducible first | exact HB.out | apply below_alloc | apply pw_below_drewN | apply below_drew1) | exact HB.out)); (case side2 => exact HR0.out); (case side3 => exact HC0.out); rintro e w17 ⟨g161, rfl, hi, hb, hb2⟩; refine ⟨_, rfl, ?_⟩; have n0_ := Aside0.mk (hb); have n1_ := Aside0.mk (hi); clear HB; have HB := n0_; have HI161 := n1_; clear n0_ n1_; (try clear hb); (try clear hb2); (try clear hk); (try clear hi)) | ((with_reducible refine gate_callee (f := 10) rfl ?_); refine goesL_ (some 32) rfl rfl Try.func10 (by kernel_rfl) rfl #[.pointer (some ⟨g161, 0, none⟩), .int .i64 20] rfl (by (try simp only [List.map_toArray, List.map_cons, List.map_nil]); first | done | rfl | (simp only [List.length_drop, List.length_take]; rfl)) ?_; (with_reducible refine (synopticlaw39_sample.calls k g161 t159 t160 20 t162 t165 w _ ?side1 ?side2 A9.out).mono ?_); (case side1 => repeat (first | (with_reducible first | exact HI161.out | apply IsS59.alloc | apply IsS59.drewN | apply IsS59.drew | apply IsS59.set_1) | exact HI161.out)); (case side2 => repeat (first | (with_reducible first | exact HB.out | apply below_alloc | apply pw_below_drewN | apply below_drew1 | refine below_set ?_ (IsS59.ge HI161.out)) | exact HB.out)); rintro e w18 ⟨v163, rfl, ho0, hi, hb, hk⟩; refine ⟨_, rfl, ?_⟩; have n0_ := Aside0.mk (Kd.R_lower ho0 (below_size (by repeat (first | (with_reducible first | exact HB.out | apply below_alloc | apply pw_below_drewN | apply below_drew1 | refine below_set ?_ (IsS59.ge HI161.out)) | exact HB.out)))); have n1_ := Aside0.mk (hb); have n2_ := Aside0.mk (hi); clear HB; clear HI161; have HO164 := n0_; have HB := n1_; have HI161 := n2_; clear n0_ n1_ n2_; (try clear hb); (try clear hb2); (try clear hk); (try clear hi); (try clear ho0)) | ((with_reducible refine gate_callee (f := 18) rfl ?_); refine goesL_ (some 37) rfl rfl Try.func18 (by kernel_rfl) rfl #[.int .i64 (wrap64 (ji10))] rfl (by (try simp only [List.map_toArray, List.map_cons, List.map_nil]); first | done | (simp only [hji10]; rfl) | rfl | (simp only [List.length_drop, List.length_take]; rfl)) ?_; (with_reducible refine (synopticlaw39_level.calls k (wrap64 (ji10)) t166 t167 _ A11.out).mono ?_); rintro e w19 ⟨rfl, hb⟩; refine ⟨_, rfl, ?_⟩; have n0_ := Aside0.mk (Kd.R_below (by (with_reducible repeat (first | apply Kd.R_alloc | apply Kd.R_drewN | apply Kd.R_drew)); exact HO164.out) hb); have n1_ := Aside0.mk (IsS59.below (by repeat (first | (with_reducible first | exact HI161.out | apply IsS59.alloc | apply IsS59.drewN | apply IsS59.drew | apply IsS59.set_1) | exact HI161.out)) hb); have n2_ := Aside0.mk (below_step (by repeat (first | (with_reducible first | exact HB.out | apply below_alloc | apply pw_below_drewN | apply below_drew1 | refine below_set ?_ (IsS59.ge HI161.out)) | exact HB.out)) hb); clear HO164; clear HI161; clear HB; have HO164 := n0_; have HI161 := n1_; have HB := n2_; clear n0_ n1_ n2_; (try clear hb); (try clear hb2); (try clear hk); (try clear hi)) | ((with_reducible refine gate_callee (f := 18) rfl ?_); refine goesL_ (some 42) rfl rfl Try.func18 (by kernel_rfl) rfl #[.int .i64 (wrap64 (ji12))] rfl (by (try simp only [List.map_toArray, List.map_cons, List.map_nil]); first | done | (simp only [hji12]; rfl) | rfl | (simp only [List.length_drop, List.length_take]; rfl)) ?_; (with_reducible refine (synopticlaw39_level.calls k (wrap64 (ji12)) t168 t169 _ A13.out).mono ?_); rintro e w20 ⟨rfl, hb⟩; refine ⟨_, rfl, ?_⟩; have n0_ := Aside0.mk (Kd.R_below (by (with_reducible repeat (first | apply Kd.R_alloc | apply Kd.R_drewN | apply Kd.R_drew)); exact HO164.out) hb); have n1_ := Aside0.mk (IsS59.below (by repeat (first | (with_reducible first | exact HI161.out | apply IsS59.alloc | apply IsS59.drewN | apply IsS59.drew | apply IsS59.set_1) | exact HI161.out)) hb); have n2_ := Aside0.mk (below_step (by repeat (first | (with_reducible first | exact HB.out | apply below_alloc | apply pw_below_drewN | apply below_drew1 | refine below_set ?_ (IsS59.ge HI161.out)) | exact HB.out)) hb); clear HO164; clear HI161; clear HB; have HO164 := n0_; have HI161 := n1_; have HB := n2_; clear n0_ n1_ n2_; (try clear hb); (try clear hb2); (try clear hk); (try clear hi)) | ((with_reducible refine gate_dst (N := 12) rfl ?_); refine box_event ?hg (N := 12) ?hd (cs := #[.int .i64 0, .int .i64 0]) (t := 31) ?hr ?_; (case hd => rfl); (case hg => rfl); (case hr => first | (go_simp; done) | (go_simp; rfl)); intro gb170 hg w21 hbox hb; have n0_ := Aside0.mk (Kd.R_below (by (with_reducible repeat (first | apply Kd.R_alloc | apply Kd.R_drewN | apply Kd.R_drew)); exact HO164.out) hb); have n1_ := Aside0.mk (IsS59.below (by repeat (first | (with_reducible first | exact HI161.out | apply IsS59.alloc | apply IsS59.drewN | apply IsS59.drew | apply IsS59.set_1) | exact HI161.out)) hb); have n2_ := Aside0.mk (below_step (by repeat (first | (with_reducible first | exact HB.out | apply below_alloc | apply pw_below_drewN | apply below_drew1 | refine below_set ?_ (IsS59.ge HI161.out)) | exact HB.out)) hb); have n3_ := Aside0.mk (hbox); have n4_ := Aside0.mk ((by rw [hg]; exact (below_size (by repeat (first | (with_reducible first | exact HB.out | apply below_alloc | apply pw_below_drewN | apply below_drew1 | refine below_set ?_ (IsS59.ge HI161.out)) | exact HB.out))) : w.heap.size ≤ gb170)); have n5_ := Aside0.mk ((by rw [hg]; exact (below_size (by repeat (first | (with_reducible first | exact HB.out | apply below_alloc | apply pw_below_drewN | apply below_drew1 | refine below_set ?_ (IsS59.ge HI161.out)) | exact HB.out))) : w.heap.size ≤ gb170)); have n6_ := Aside0.mk ((by rw [hg]; exact Nat.ne_of_lt (IsS59.lt (show IsS59 w _ g161 t159 t165 from by repeat (first | (with_reducible first | exact HI161.out | apply IsS59.alloc | apply IsS59.drewN | apply IsS59.drew | apply IsS59.set_1) | exact HI161.out))) : g161 ≠ gb170)); have n7_ := Aside0.mk ((by rw [hg]; exact Nat.ne_of_gt (IsS59.lt (show IsS59 w _ g161 t159 t165 from by repeat (first | (with_reducible first | exact HI161.out | apply IsS59.alloc | apply IsS59.drewN | apply IsS59.drew | apply IsS59.set_1) | exact HI161.out))) : gb170 ≠ g161)); clear HO164; clear HI161; clear HB; have HO164 := n0_; have HI161 := n1_; have HB := n2_; have BK170 := n3_; have GW170 := n4_; have GE170 := n5_; have NB161_170 := n6_; have NB170_161 := n7_; clear n0_ n1_ n2_ n3_ n4_ n5_ n6_ n7_; clear hb hbox hg) | ((with_reducible refine gate_dst (N := 13) rfl ?_); refine box_event ?hg (N := 13) ?hd (cs := #[.int .i64 0, .int .i64 0]) (t := 31) ?hr ?_; (case hd => rfl); (case hg => rfl); (case hr => first | (go_simp; done) | (go_simp; rfl)); intro gb171 hg w22 hbox hb; have n0_ := Aside0.mk (Kd.R_below (by (with_reducible repeat (first | apply Kd.R_alloc | apply Kd.R_drewN | apply Kd.R_drew)); exact HO164.out) hb); have n1_ := Aside0.mk (IsS59.below (by repeat (first | (with_reducible first | exact HI161.out | apply IsS59.alloc | apply IsS59.drewN | apply IsS59.drew | apply IsS59.set_1 | refine IsS59.far ?_ NB161_170.out _) | exact HI161.out)) hb); have n2_ := Aside0.mk (blk_below (g := gb170) (o := .cells #[.int .i64 0, .int .i64 0] 31 (0, 0)) (by (with_reducible repeat (first | refine blk_drewN ?_ _ | refine blk_drew ?_ | refine blk_alloc ?_ _)); exact BK170.out) hb); have n3_ := Aside0.mk (below_step (by repeat (first | (with_reducible first | exact HB.out | apply below_alloc | apply pw_below_drewN | apply below_drew1 | refine below_set ?_ (IsS59.ge HI161.out) | refine below_set ?_ GE170.out) | exact HB.out)) hb); have n4_ := Aside0.mk (hbox); have n5_ := Aside0.mk ((by rw [hg]; exact (below_size (by repeat (first | (with_reducible first | exact HB.out | apply below_alloc | apply pw_below_drewN | apply below_drew1 | refine below_set ?_ (IsS59.ge HI161.out) | refine below_set ?_ GE170.out) | exact HB.out))) : w.heap.size ≤ gb171)); have n6_ := Aside0.mk ((by rw [hg]; exact (below_size (by repeat (first | (with_reducible first | exact HB.out | apply below_alloc | apply pw_below_drewN | apply below_drew1 | refine below_set ?_ (IsS59.ge HI161.out) | refine below_set ?_ GE170.out) | exact HB.out))) : w.heap.size ≤ gb171)); have n7_ := Aside0.mk ((by rw [hg]; exact Nat.ne_of_lt (blk_lt (g := gb170) (o := .cells #[.int .i64 0, .int .i64 0] 31 (0, 0)) (by (with_reducible repeat (first | refine blk_drewN ?_ _ | refine blk_drew ?_ | refine blk_alloc ?_ _)); exact BK170.out)) : gb170 ≠ gb171)); have n8_ := Aside0.mk ((by rw [hg]; exact Nat.ne_of_gt (blk_lt (g := gb170) (o := .cells #[.int .i64 0, .int .i64 0] 31 (0, 0)) (by (with_reducible repeat (first | refine blk_drewN ?_ _ | refine blk_drew ?_ | refine blk_alloc ?_ _)); exact BK170.out)) : gb171 ≠ gb170)); have n9_ := Aside0.mk ((by rw [hg]; exact Nat.ne_of_lt (IsS59.lt (show IsS59 w _ g161 t159 t165 from by repeat (first | (with_reducible first | exact HI161.out | apply IsS59.alloc | apply IsS59.drewN | apply IsS59.drew | apply IsS59.set_1 | refine IsS59.far ?_ NB161_170.out _) | exact HI161.out))) : g161 ≠ gb171)); have n10_ := Aside0.mk ((by rw [hg]; exact Nat.ne_of_gt (IsS59.lt (show IsS59 w _ g161 t159 t165 from by repeat (first | (with_reducible first | exact HI161.out | apply IsS59.alloc | apply IsS59.drewN | apply IsS59.drew | apply IsS59.set_1 | refine IsS59.far ?_ NB161_170.out _) | exact HI161.out))) : gb171 ≠ g161)); clear HO164; clear HI161; clear BK170; clear HB; have HO164 := n0_; have HI161 := n1_; have BK170 := n2_; have HB := n3_; have BK171 := n4_; have GW171 := n5_; have GE171 := n6_; have NB170_171 := n7_; have NB171_170 := n8_; have NB161_171 := n9_; have NB171_161 := n10_; clear n0_ n1_ n2_ n3_ n4_ n5_ n6_ n7_ n8_ n9_ n10_; clear hb hbox hg; have hnb23 := NB170_171.out; have hnc23 := NB171_170.out; have hnb24 := NB170_161.out; have hnc24 := NB161_170.out; have hcz25_0 : w22.cell? ⟨gb170, 0, none⟩ = some (.int .i64 0) := (blk_cell BK170.out 0).trans rfl; have hcz25_1 : w22.cell? ⟨gb170, 1, none⟩ = some (.int .i64 0) := (blk_cell BK170.out 1).trans rfl; have hfz25_0 := blk_frozen BK170.out 0; have hfz25_1 := blk_frozen BK170.out 1) | ((with_reducible refine gate_store (t := 31) (p := 12) rfl ?_); refine store_event (t := 31) (p := 12) (v := ?vo_w26) (w1 := ((w22.setCell ⟨gb170, 0, none⟩ (.int .i64 t166)).setCell ⟨gb170, 1, none⟩ (.int .i64 t167))) ?hg ?ho ?hn ?hr ?_; (case ho => rfl); (case hg => rfl); (case hn => rfl); (case hr => first | (go_simp; done) | (go_simp; rfl)); intro w26 hw; have n0_ : Aside0 (Kd.R (Kd.int .i64) 3 w26 w.heap.size (fun _ => True) v163 t162) := ⟨(by rw [hw]; exact (by (with_reducible repeat (first | apply Kd.R_alloc | apply Kd.R_drewN | apply Kd.R_drew)); exact Kd.R_mono (Kd.R_far (p := ⟨gb170, 1, none⟩) (Kd.R_far (p := ⟨gb170, 0, none⟩) (Kd.R_types HO164.out BK170.out (by decide)) (fun _ hk => hk.2) (.int .i64 t166)) (fun _ hk => hk.2) (.int .i64 t167)) (fun _ hk => trivial)))⟩; have n1_ : Aside0 (w26.heap[gb170]? = some (.cells #[.int .i64 t166, .int .i64 t167] 31 (0, 0))) := ⟨(by rw [hw]; exact (by (with_reducible repeat (first | refine blk_drewN ?_ _ | refine blk_drew ?_ | refine blk_alloc ?_ _)); refine blk_put (cs := #[.int .i64 t166, .int .i64 0]) ?_ 1 _ rfl; (with_reducible repeat (first | refine blk_drewN ?_ _ | refine blk_drew ?_ | refine blk_alloc ?_ _)); refine blk_put (cs := #[.int .i64 0, .int .i64 0]) ?_ 0 _ rfl; (with_reducible repeat (first | refine blk_drewN ?_ _ | refine blk_drew ?_ | refine blk_alloc ?_ _)); exact BK170.out))⟩; have n2_ : Aside0 (w26.heap[gb171]? = some (.cells #[.int .i64 0, .int .i64 0] 31 (0, 0))) := ⟨(by rw [hw]; exact (by (with_reducible repeat (first | refine blk_drewN ?_ _ | refine blk_drew ?_ | refine blk_alloc ?_ _)); refine blk_far ?_ NB171_170.out _; (with_reducible repeat (first | refine blk_drewN ?_ _ | refine blk_drew ?_ | refine blk_alloc ?_ _)); refine blk_far ?_ NB171_170.out _; (with_reducible repeat (first | refine blk_drewN ?_ _ | refine blk_drew ?_ | refine blk_alloc ?_ _)); exact BK171.out))⟩; have n3_ : Aside0 (IsS59 w w26 g161 t159 t165) := ⟨(by rw [hw]; exact (by repeat (first | (with_reducible first | exact HI161.out | apply IsS59.alloc | apply IsS59.drewN | apply IsS59.drew | apply IsS59.set_1 | refine IsS59.far ?_ NB161_170.out _ | refine IsS59.far ?_ NB161_171.out _) | exact HI161.out)))⟩; have n4_ : Aside0 (Below w.heap.size w w26) := ⟨(by rw [hw]; exact (by repeat (first | (with_reducible first | exact HB.out | apply below_alloc | apply pw_below_drewN | apply below_drew1 | refine below_set ?_ (IsS59.ge HI161.out) | refine below_set ?_ GE170.out | refine below_set ?_ GE171.out) | exact HB.out)))⟩; clear hw; clear HO164; clear BK170; clear BK171; clear HI161; clear HB; have HO164 := n0_; have BK170 := n1_; have BK171 := n2_; have HI161 := n3_; have HB := n4_; clear n0_ n1_ n2_ n3_ n4_; have hnb27 := NB171_161.out; have hnc27 := NB161_171.out; have hcz28_0 : w26.cell? ⟨gb171, 0, none⟩ = some (.int .i64 0) := (blk_cell BK171.out 0).trans rfl; have hcz28_1 : w26.cell? ⟨gb171, 1, none⟩ = some (.int .i64 0) := (blk_cell BK171.out 1).trans rfl; have hfz28_0 := blk_frozen BK171.out 0; have hfz28_1 := blk_frozen BK171.out 1) | ((with_reducible refine gate_store (t := 31) (p := 13) rfl ?_); refine store_event (t := 31) (p := 13) (v := ?vo_w29) (w1 := ((w26.setCell ⟨gb171, 0, none⟩ (.int .i64 t168)).setCell ⟨gb171, 1, none⟩ (.int .i64 t169))) ?hg ?ho ?hn ?hr ?_; (case ho => rfl); (case hg => rfl); (case hn => rfl); (case hr => first | (go_simp; done) | (go_simp; rfl)); intro w29 hw; have n0_ : Aside0 (Kd.R (Kd.int .i64) 3 w29 w.heap.size (fun _ => True) v163 t162) := ⟨(by rw [hw]; exact (by (with_reducible repeat (first | apply Kd.R_alloc | apply Kd.R_drewN | apply Kd.R_drew)); exact Kd.R_mono (Kd.R_far (p := ⟨gb171, 1, none⟩) (Kd.R_far (p := ⟨gb171, 0, none⟩) (Kd.R_types HO164.out BK171.out (by decide)) (fun _ hk => hk.2) (.int .i64 t168)) (fun _ hk => hk.2) (.int .i64 t169)) (fun _ hk => trivial)))⟩; have n1_ : Aside0 (w29.heap[gb170]? = some (.cells #[.int .i64 t166, .int .i64 t167] 31 (0, 0))) := ⟨(by rw [hw]; exact (by (with_reducible repeat (first | refine blk_drewN ?_ _ | refine blk_drew ?_ | refine blk_alloc ?_ _)); refine blk_far ?_ NB170_171.out _; (with_reducible repeat (first | refine blk_drewN ?_ _ | refine blk_drew ?_ | refine blk_alloc ?_ _)); refine blk_far ?_ NB170_171.out _; (with_reducible repeat (first | refine blk_drewN ?_ _ | refine blk_drew ?_ | refine blk_alloc ?_ _)); exact BK170.out))⟩; have n2_ : Aside0 (w29.heap[gb171]? = some (.cells #[.int .i64 t168, .int .i64 t169] 31 (0, 0))) := ⟨(by rw [hw]; exact (by (with_reducible repeat (first | refine blk_drewN ?_ _ | refine blk_drew ?_ | refine blk_alloc ?_ _)); refine blk_put (cs := #[.int .i64 t168, .int .i64 0]) ?_ 1 _ rfl; (with_reducible repeat (first | refine blk_drewN ?_ _ | refine blk_drew ?_ | refine blk_alloc ?_ _)); refine blk_put (cs := #[.int .i64 0, .int .i64 0]) ?_ 0 _ rfl; (with_reducible repeat (first | refine blk_drewN ?_ _ | refine blk_drew ?_ | refine blk_alloc ?_ _)); exact BK171.out))⟩; have n3_ : Aside0 (IsS59 w w29 g161 t159 t165) := ⟨(by rw [hw]; exact (by repeat (first | (with_reducible first | exact HI161.out | apply IsS59.alloc | apply IsS59.drewN | apply IsS59.drew | apply IsS59.set_1 | refine IsS59.far ?_ NB161_170.out _ | refine IsS59.far ?_ NB161_171.out _) | exact HI161.out)))⟩; have n4_ : Aside0 (Below w.heap.size w w29) := ⟨(by rw [hw]; exact (by repeat (first | (with_reducible first | exact HB.out | apply below_alloc | apply pw_below_drewN | apply below_drew1 | refine below_set ?_ (IsS59.ge HI161.out) | refine below_set ?_ GE170.out | refine below_set ?_ GE171.out) | exact HB.out)))⟩; clear hw; clear HO164; clear BK170; clear BK171; clear HI161; clear HB; have HO164 := n0_; have BK170 := n1_; have BK171 := n2_; have HI161 := n3_; have HB := n4_; clear n0_ n1_ n2_ n3_ n4_; have hcz30_0 : w29.cell? ⟨gb170, 0, none⟩ = some (.int .i64 t166) := (blk_cell BK170.out 0).trans rfl; have hcz30_1 : w29.cell? ⟨gb170, 1, none⟩ = some (.int .i64 t167) := (blk_cell BK170.out 1).trans rfl; have hfz30_0 := blk_frozen BK170.out 0; have hfz30_1 := blk_frozen BK170.out 1; have hcz31_0 : w29.cell? ⟨gb171, 0, none⟩ = some (.int .i64 t168) := (blk_cell BK171.out 0).trans rfl; have hcz31_1 : w29.cell? ⟨gb171, 1, none⟩ = some (.int .i64 t169) := (blk_cell BK171.out 1).trans rfl; have hfz31_0 := blk_frozen BK171.out 0; have hfz31_1 := blk_frozen BK171.out 1) | ((with_reducible refine gate_callee (f := 13) rfl ?_); refine goesL_ (some 45) rfl rfl Try.func13 (by kernel_rfl) rfl #[.agg #[.int .i64 t166, .int .i64 t167], .agg #[.int .i64 t168, .int .i64 t169]] rfl (by (try simp only [List.map_toArray, List.map_cons, List.map_nil]); first | done | rfl | (simp only [List.length_drop, List.length_take]; rfl)) ?_; (with_reducible refine (score_Compare.calls t166 t167 t168 t169 t172 _ A14.out).mono ?_); rintro e w32 ⟨rfl, hb⟩; refine ⟨_, rfl, ?_⟩; have n0_ := Aside0.mk (Kd.R_below (by (with_reducible repeat (first | apply Kd.R_alloc | apply Kd.R_drewN | apply Kd.R_drew)); exact HO164.out) hb); have n1_ := Aside0.mk (IsS59.below (by repeat (first | (with_reducible first | exact HI161.out | apply IsS59.alloc | apply IsS59.drewN | apply IsS59.drew | apply IsS59.set_1 | refine IsS59.far ?_ NB161_170.out _ | refine IsS59.far ?_ NB161_171.out _) | exact HI161.out)) hb); have n2_ := Aside0.mk (blk_below (g := gb170) (o := .cells #[.int .i64 t166, .int .i64 t167] 31 (0, 0)) (by (with_reducible repeat (first | refine blk_drewN ?_ _ | refine blk_drew ?_ | refine blk_alloc ?_ _)); exact BK170.out) hb); have n3_ := Aside0.mk (blk_below (g := gb171) (o := .cells #[.int .i64 t168, .int .i64 t169] 31 (0, 0)) (by (with_reducible repeat (first | refine blk_drewN ?_ _ | refine blk_drew ?_ | refine blk_alloc ?_ _)); exact BK171.out) hb); have n4_ := Aside0.mk (below_step (by repeat (first | (with_reducible first | exact HB.out | apply below_alloc | apply pw_below_drewN | apply below_drew1 | refine below_set ?_ (IsS59.ge HI161.out) | refine below_set ?_ GE170.out | refine below_set ?_ GE171.out) | exact HB.out)) hb); clear HO164; clear HI161; clear BK170; clear BK171; clear HB; have HO164 := n0_; have HI161 := n1_; have BK170 := n2_; have BK171 := n3_; have HB := n4_; clear n0_ n1_ n2_ n3_ n4_; (try clear hb); (try clear hb2); (try clear hk); (try clear hi)))
    (try simp only [Act.put, List.setIfInBounds_toArray, List.set_cons_zero, List.set_cons_succ])
    go_cut [] (fun wc => ∃ (kq : Nat) (x171000_14 : Int) (x171001_14 : Int) (x172000_14 : Int) (x172001_14 : Int), Aside0 (synopticlaw39_SamplingIntervals.j0 kq a3 a4 t162 x171000_14 x171001_14 x172000_14 x172001_14 = some r) ∧ Aside0 (kq ≤ k) ∧ Aside0 (Kd.R (Kd.int .i64) 3 wc w.heap.size (fun _ => True) v163 t162) ∧ Aside0 (wc.heap[gb170]? = some (.cells #[.int .i64 x171000_14, .int .i64 x171001_14] 31 (0, 0))) ∧ Aside0 (wc.heap[gb171]? = some (.cells #[.int .i64 x172000_14, .int .i64 x172001_14] 31 (0, 0))) ∧ Aside0 (Below w.heap.size w wc))
    case first =>
      have H := HC15.out
      clear HC15
      by_cases c33 : t172 > 0
      · rw [if_pos c33] at H
        have c33b0 : decide (0 < t172) = true := decide_eq_true c33
        clear c33
        (first | rw [c33b0] | (simp only [i64_w, i32_w]; rw [c33b0]) | skip)
        have H' := Aside0.mk H
        clear H
        have hnb34 := NB171_170.out
        have hnc34 := NB170_171.out
        have hnb35 := NB171_161.out
        have hnc35 := NB161_171.out
        have hcz36_0 : w32.cell? ⟨gb171, 0, none⟩ = some (.int .i64 t168) := (blk_cell BK171.out 0).trans rfl
        have hcz36_1 : w32.cell? ⟨gb171, 1, none⟩ = some (.int .i64 t169) := (blk_cell BK171.out 1).trans rfl
        have hfz36_0 := blk_frozen BK171.out 0
        have hfz36_1 := blk_frozen BK171.out 1
        have hnb37 := NB170_161.out
        have hnc37 := NB161_170.out
        have hcz38_0 : w32.cell? ⟨gb170, 0, none⟩ = some (.int .i64 t166) := (blk_cell BK170.out 0).trans rfl
        have hcz38_1 : w32.cell? ⟨gb170, 1, none⟩ = some (.int .i64 t167) := (blk_cell BK170.out 1).trans rfl
        have hfz38_0 := blk_frozen BK170.out 0
        have hfz38_1 := blk_frozen BK170.out 1
        go_wp2_with (first | ((with_reducible refine gate_store (t := 31) (p := 12) rfl ?_); refine store_event (t := 31) (p := 12) (v := ?vo_w39) (w1 := ((w32.setCell ⟨gb170, 0, none⟩ (.int .i64 t168)).setCell ⟨gb170, 1, none⟩ (.int .i64 t169))) ?hg ?ho ?hn ?hr ?_; (case ho => rfl); (case hg => rfl); (case hn => rfl); (case hr => first | (go_simp; done) | (go_simp; rfl)); intro w39 hw; have n0_ : Aside0 (Kd.R (Kd.int .i64) 3 w39 w.heap.size (fun _ => True) v163 t162) := ⟨(by rw [hw]; exact (by (with_reducible repeat (first | apply Kd.R_alloc | apply Kd.R_drewN | apply Kd.R_drew)); exact Kd.R_mono (Kd.R_far (p := ⟨gb170, 1, none⟩) (Kd.R_far (p := ⟨gb170, 0, none⟩) (Kd.R_types HO164.out BK170.out (by decide)) (fun _ hk => hk.2) (.int .i64 t168)) (fun _ hk => hk.2) (.int .i64 t169)) (fun _ hk => trivial)))⟩; have n1_ : Aside0 (w39.heap[gb170]? = some (.cells #[.int .i64 t168, .int .i64 t169] 31 (0, 0))) := ⟨(by rw [hw]; exact (by (with_reducible repeat (first | refine blk_drewN ?_ _ | refine blk_drew ?_ | refine blk_alloc ?_ _)); refine blk_put (cs := #[.int .i64 t168, .int .i64 t167]) ?_ 1 _ rfl; (with_reducible repeat (first | refine blk_drewN ?_ _ | refine blk_drew ?_ | refine blk_alloc ?_ _)); refine blk_put (cs := #[.int .i64 t166, .int .i64 t167]) ?_ 0 _ rfl; (with_reducible repeat (first | refine blk_drewN ?_ _ | refine blk_drew ?_ | refine blk_alloc ?_ _)); exact BK170.out))⟩; have n2_ : Aside0 (w39.heap[gb171]? = some (.cells #[.int .i64 t168, .int .i64 t169] 31 (0, 0))) := ⟨(by rw [hw]; exact (by (with_reducible repeat (first | refine blk_drewN ?_ _ | refine blk_drew ?_ | refine blk_alloc ?_ _)); refine blk_far ?_ NB171_170.out _; (with_reducible repeat (first | refine blk_drewN ?_ _ | refine blk_drew ?_ | refine blk_alloc ?_ _)); refine blk_far ?_ NB171_170.out _; (with_reducible repeat (first | refine blk_drewN ?_ _ | refine blk_drew ?_ | refine blk_alloc ?_ _)); exact BK171.out))⟩; have n3_ : Aside0 (IsS59 w w39 g161 t159 t165) := ⟨(by rw [hw]; exact (by repeat (first | (with_reducible first | exact HI161.out | apply IsS59.alloc | apply IsS59.drewN | apply IsS59.drew | apply IsS59.set_1 | refine IsS59.far ?_ NB161_170.out _ | refine IsS59.far ?_ NB161_171.out _) | exact HI161.out)))⟩; have n4_ : Aside0 (Below w.heap.size w w39) := ⟨(by rw [hw]; exact (by repeat (first | (with_reducible first | exact HB.out | apply below_alloc | apply pw_below_drewN | apply below_drew1 | refine below_set ?_ (IsS59.ge HI161.out) | refine below_set ?_ GE170.out | refine below_set ?_ GE171.out) | exact HB.out)))⟩; clear hw; clear HO164; clear BK170; clear BK171; clear HI161; clear HB; have HO164 := n0_; have BK170 := n1_; have BK171 := n2_; have HI161 := n3_; have HB := n4_; clear n0_ n1_ n2_ n3_ n4_; have hcz40_0 : w39.cell? ⟨gb171, 0, none⟩ = some (.int .i64 t168) := (blk_cell BK171.out 0).trans rfl; have hcz40_1 : w39.cell? ⟨gb171, 1, none⟩ = some (.int .i64 t169) := (blk_cell BK171.out 1).trans rfl; have hfz40_0 := blk_frozen BK171.out 0; have hfz40_1 := blk_frozen BK171.out 1) | ((with_reducible refine gate_store (t := 31) (p := 13) rfl ?_); refine store_event (t := 31) (p := 13) (v := ?vo_w41) (w1 := ((w39.setCell ⟨gb171, 0, none⟩ (.int .i64 t166)).setCell ⟨gb171, 1, none⟩ (.int .i64 t167))) ?hg ?ho ?hn ?hr ?_; (case ho => rfl); (case hg => rfl); (case hn => rfl); (case hr => first | (go_simp; done) | (go_simp; rfl)); intro w41 hw; have n0_ : Aside0 (Kd.R (Kd.int .i64) 3 w41 w.heap.size (fun _ => True) v163 t162) := ⟨(by rw [hw]; exact (by (with_reducible repeat (first | apply Kd.R_alloc | apply Kd.R_drewN | apply Kd.R_drew)); exact Kd.R_mono (Kd.R_far (p := ⟨gb171, 1, none⟩) (Kd.R_far (p := ⟨gb171, 0, none⟩) (Kd.R_types HO164.out BK171.out (by decide)) (fun _ hk => hk.2) (.int .i64 t166)) (fun _ hk => hk.2) (.int .i64 t167)) (fun _ hk => trivial)))⟩; have n1_ : Aside0 (w41.heap[gb170]? = some (.cells #[.int .i64 t168, .int .i64 t169] 31 (0, 0))) := ⟨(by rw [hw]; exact (by (with_reducible repeat (first | refine blk_drewN ?_ _ | refine blk_drew ?_ | refine blk_alloc ?_ _)); refine blk_far ?_ NB170_171.out _; (with_reducible repeat (first | refine blk_drewN ?_ _ | refine blk_drew ?_ | refine blk_alloc ?_ _)); refine blk_far ?_ NB170_171.out _; (with_reducible repeat (first | refine blk_drewN ?_ _ | refine blk_drew ?_ | refine blk_alloc ?_ _)); exact BK170.out))⟩; have n2_ : Aside0 (w41.heap[gb171]? = some (.cells #[.int .i64 t166, .int .i64 t167] 31 (0, 0))) := ⟨(by rw [hw]; exact (by (with_reducible repeat (first | refine blk_drewN ?_ _ | refine blk_drew ?_ | refine blk_alloc ?_ _)); refine blk_put (cs := #[.int .i64 t166, .int .i64 t169]) ?_ 1 _ rfl; (with_reducible repeat (first | refine blk_drewN ?_ _ | refine blk_drew ?_ | refine blk_alloc ?_ _)); refine blk_put (cs := #[.int .i64 t168, .int .i64 t169]) ?_ 0 _ rfl; (with_reducible repeat (first | refine blk_drewN ?_ _ | refine blk_drew ?_ | refine blk_alloc ?_ _)); exact BK171.out))⟩; have n3_ : Aside0 (IsS59 w w41 g161 t159 t165) := ⟨(by rw [hw]; exact (by repeat (first | (with_reducible first | exact HI161.out | apply IsS59.alloc | apply IsS59.drewN | apply IsS59.drew | apply IsS59.set_1 | refine IsS59.far ?_ NB161_170.out _ | refine IsS59.far ?_ NB161_171.out _) | exact HI161.out)))⟩; have n4_ : Aside0 (Below w.heap.size w w41) := ⟨(by rw [hw]; exact (by repeat (first | (with_reducible first | exact HB.out | apply below_alloc | apply pw_below_drewN | apply below_drew1 | refine below_set ?_ (IsS59.ge HI161.out) | refine below_set ?_ GE170.out | refine below_set ?_ GE171.out) | exact HB.out)))⟩; clear hw; clear HO164; clear BK170; clear BK171; clear HI161; clear HB; have HO164 := n0_; have BK170 := n1_; have BK171 := n2_; have HI161 := n3_; have HB := n4_; clear n0_ n1_ n2_ n3_ n4_))
        go_meet
        case rel => exact ⟨_, (t168), (t169), (t166), (t167), H', ⟨by first | omega | exact Nat.le_refl _⟩, ⟨by (with_reducible repeat (first | apply Kd.R_alloc | apply Kd.R_drewN | apply Kd.R_drew)); exact HO164.out⟩, ⟨by (with_reducible repeat (first | refine blk_drewN ?_ _ | refine blk_drew ?_ | refine blk_alloc ?_ _)); exact BK170.out⟩, ⟨by (with_reducible repeat (first | refine blk_drewN ?_ _ | refine blk_drew ?_ | refine blk_alloc ?_ _)); exact BK171.out⟩, ⟨by repeat (first | (with_reducible first | exact HB.out | apply below_alloc | apply pw_below_drewN | apply below_drew1 | refine below_set ?_ (IsS59.ge HI161.out) | refine below_set ?_ GE170.out | refine below_set ?_ GE171.out) | exact HB.out)⟩⟩
      · rw [if_neg c33] at H
        have c33b0 : decide (0 < t172) = false := decide_eq_false c33
        clear c33
        (first | rw [c33b0] | (simp only [i64_w, i32_w]; rw [c33b0]) | skip)
        have H' := Aside0.mk H
        clear H
        go_wp2
        go_meet
        case rel => exact ⟨_, (t166), (t167), (t168), (t169), H', ⟨by first | omega | exact Nat.le_refl _⟩, ⟨by (with_reducible repeat (first | apply Kd.R_alloc | apply Kd.R_drewN | apply Kd.R_drew)); exact HO164.out⟩, ⟨by (with_reducible repeat (first | refine blk_drewN ?_ _ | refine blk_drew ?_ | refine blk_alloc ?_ _)); exact BK170.out⟩, ⟨by (with_reducible repeat (first | refine blk_drewN ?_ _ | refine blk_drew ?_ | refine blk_alloc ?_ _)); exact BK171.out⟩, ⟨by repeat (first | (with_reducible first | exact HB.out | apply below_alloc | apply pw_below_drewN | apply below_drew1 | refine below_set ?_ (IsS59.ge HI161.out) | refine below_set ?_ GE170.out | refine below_set ?_ GE171.out) | exact HB.out)⟩⟩
    case rest =>
      clear HC15
      try clear c1
      try clear c2
      try clear p2
      try clear c3
      try clear p6
      try clear c7
      try clear c9
      try clear c10
      try clear c11
      try clear c13
      try clear c18
      try clear c23
      try clear c24
      try clear c27
      try clear c33
      try clear c33b0
      try clear c34
      try clear c35
      try clear c37
      try clear hcz25_0
      try clear hcz25_1
      try clear hcz28_0
      try clear hcz28_1
      try clear hcz30_0
      try clear hcz30_1
      try clear hcz31_0
      try clear hcz31_1
      try clear hcz36_0
      try clear hcz36_1
      try clear hcz38_0
      try clear hcz38_1
      try clear hcz40_0
      try clear hcz40_1
      try clear hfz25_0
      try clear hfz25_1
      try clear hfz28_0
      try clear hfz28_1
      try clear hfz30_0
      try clear hfz30_1
      try clear hfz31_0
      try clear hfz31_1
      try clear hfz36_0
      try clear hfz36_1
      try clear hfz38_0
      try clear hfz38_1
      try clear hfz40_0
      try clear hfz40_1
      obtain ⟨kq, x171000_14, x171001_14, x172000_14, x172001_14, HA, HJ14, HO_11, BK170, BK171, HB⟩ := hcut
      cases kq with
      | zero => exact absurd HA.out (by simp [synopticlaw39_SamplingIntervals.j0])
      | succ kj14 =>
        have H := HA.out
        clear HA
        simp only [synopticlaw39_SamplingIntervals.j0] at H
        replace H := Option.bind_eq_some_iff.mp H
        obtain ⟨⟨t173, t174, t175⟩, A420, H⟩ := H
        replace H : ((sampling_Median.f t162 x172000_14 x172001_14).bind fun bt176 => (if t175 = 0 then (if t173 > t174 then (none) else ((synopticlaw39_in.f kj14 t162 t173).bind fun t179 => (if t179 = true then ((synopticlaw39_in.f kj14 t162 t174).bind fun t180 => (if t180 = true then (if bt176.2.2 = 0 then (if bt176.1 > t173 then (none) else (if bt176.2.1 < t174 then (none) else (synopticlaw39_SamplingIntervals.j1 kj14 a3 a4 false))) else (synopticlaw39_SamplingIntervals.j1 kj14 a3 a4 false)) else (none))) else (none)))) else (if bt176.2.2 = 0 then (none) else (synopticlaw39_SamplingIntervals.j1 kj14 a3 a4 false)))) = some r := H
        have A42 := Aside0.mk A420
        clear A420
        replace H := Option.bind_eq_some_iff.mp H
        obtain ⟨⟨t176, t177, t178⟩, A430, H⟩ := H
        replace H : (if t175 = 0 then (if t173 > t174 then (none) else ((synopticlaw39_in.f kj14 t162 t173).bind fun t179 => (if t179 = true then ((synopticlaw39_in.f kj14 t162 t174).bind fun t180 => (if t180 = true then (if t178 = 0 then (if t176 > t173 then (none) else (if t177 < t174 then (none) else (synopticlaw39_SamplingIntervals.j1 kj14 a3 a4 false))) else (synopticlaw39_SamplingIntervals.j1 kj14 a3 a4 false)) else (none))) else (none)))) else (if t178 = 0 then (none) else (synopticlaw39_SamplingIntervals.j1 kj14 a3 a4 false))) = some r := H
        have A43 := Aside0.mk A430
        clear A430
        have HC44 := Aside0.mk H
        clear H
        have hnb45 := NB170_171.out
        have hnc45 := NB171_170.out
        have hcz46_0 : wc.cell? ⟨gb170, 0, none⟩ = some (.int .i64 x171000_14) := (blk_cell BK170.out 0).trans rfl
        have hcz46_1 : wc.cell? ⟨gb170, 1, none⟩ = some (.int .i64 x171001_14) := (blk_cell BK170.out 1).trans rfl
        have hfz46_0 := blk_frozen BK170.out 0
        have hfz46_1 := blk_frozen BK170.out 1
        obtain ⟨Ao47, co47, eo47⟩ := Kd.R_slice HO_11.out
        subst eo47
        go_upto_region 9 with (first | ((with_reducible refine gate_callee (f := 19) rfl ?_); refine goesL_ (some 52) rfl rfl Try.func19 (by kernel_rfl) rfl #[.slice Ao47 t162.length co47, .agg #[.int .i64 x171000_14, .int .i64 x171001_14]] rfl (by (try simp only [List.map_toArray, List.map_cons, List.map_nil]); first | done | rfl | (simp only [List.length_drop, List.length_take]; rfl)) ?_; (with_reducible refine (sampling_Median.calls _ _ t162 x171000_14 x171001_14 t173 t174 t175 _ ?side1 ?side2 A42.out).mono ?_); (case side1 => repeat (first | exact (Kd.R_reads' HO_11.out).2.2 | (with_reducible refine Kd.C_alloc ?_ _) | (with_reducible refine Kd.C_drewN ?_ _) | (with_reducible refine Kd.C_drew ?_))); (case side2 => exact (Kd.R_reads' HO_11.out).2.1); rintro e w48 ⟨rfl, hb⟩; refine ⟨_, rfl, ?_⟩; have n0_ := Aside0.mk (Kd.R_below (by (with_reducible repeat (first | apply Kd.R_alloc | apply Kd.R_drewN | apply Kd.R_drew)); exact HO_11.out) hb); have n1_ := Aside0.mk (blk_below (g := gb170) (o := .cells #[.int .i64 x171000_14, .int .i64 x171001_14] 31 (0, 0)) (by (with_reducible repeat (first | refine blk_drewN ?_ _ | refine blk_drew ?_ | refine blk_alloc ?_ _)); exact BK170.out) hb); have n2_ := Aside0.mk (blk_below (g := gb171) (o := .cells #[.int .i64 x172000_14, .int .i64 x172001_14] 31 (0, 0)) (by (with_reducible repeat (first | refine blk_drewN ?_ _ | refine blk_drew ?_ | refine blk_alloc ?_ _)); exact BK171.out) hb); have n3_ := Aside0.mk (below_step (by repeat (first | (with_reducible first | exact HB.out | apply below_alloc | apply pw_below_drewN | apply below_drew1 | refine below_set ?_ GE170.out | refine below_set ?_ GE171.out) | exact HB.out)) hb); clear HO_11; clear BK170; clear BK171; clear HB; have HO_11 := n0_; have BK170 := n1_; have BK171 := n2_; have HB := n3_; clear n0_ n1_ n2_ n3_; (try clear hb); (try clear hb2); (try clear hk); (try clear hi); have hcz49_0 : w48.cell? ⟨gb171, 0, none⟩ = some (.int .i64 x172000_14) := (blk_cell BK171.out 0).trans rfl; have hcz49_1 : w48.cell? ⟨gb171, 1, none⟩ = some (.int .i64 x172001_14) := (blk_cell BK171.out 1).trans rfl; have hfz49_0 := blk_frozen BK171.out 0; have hfz49_1 := blk_frozen BK171.out 1) | ((with_reducible refine gate_callee (f := 19) rfl ?_); refine goesL_ (some 59) rfl rfl Try.func19 (by kernel_rfl) rfl #[.slice Ao47 t162.length co47, .agg #[.int .i64 x172000_14, .int .i64 x172001_14]] rfl (by (try simp only [List.map_toArray, List.map_cons, List.map_nil]); first | done | rfl | (simp only [List.length_drop, List.length_take]; rfl)) ?_; (with_reducible refine (sampling_Median.calls _ _ t162 x172000_14 x172001_14 t176 t177 t178 _ ?side1 ?side2 A43.out).mono ?_); (case side1 => repeat (first | exact (Kd.R_reads' HO_11.out).2.2 | (with_reducible refine Kd.C_alloc ?_ _) | (with_reducible refine Kd.C_drewN ?_ _) | (with_reducible refine Kd.C_drew ?_))); (case side2 => exact (Kd.R_reads' HO_11.out).2.1); rintro e w50 ⟨rfl, hb⟩; refine ⟨_, rfl, ?_⟩; have n0_ := Aside0.mk (Kd.R_below (by (with_reducible repeat (first | apply Kd.R_alloc | apply Kd.R_drewN | apply Kd.R_drew)); exact HO_11.out) hb); have n1_ := Aside0.mk (blk_below (g := gb170) (o := .cells #[.int .i64 x171000_14, .int .i64 x171001_14] 31 (0, 0)) (by (with_reducible repeat (first | refine blk_drewN ?_ _ | refine blk_drew ?_ | refine blk_alloc ?_ _)); exact BK170.out) hb); have n2_ := Aside0.mk (blk_below (g := gb171) (o := .cells #[.int .i64 x172000_14, .int .i64 x172001_14] 31 (0, 0)) (by (with_reducible repeat (first | refine blk_drewN ?_ _ | refine blk_drew ?_ | refine blk_alloc ?_ _)); exact BK171.out) hb); have n3_ := Aside0.mk (below_step (by repeat (first | (with_reducible first | exact HB.out | apply below_alloc | apply pw_below_drewN | apply below_drew1 | refine below_set ?_ GE170.out | refine below_set ?_ GE171.out) | exact HB.out)) hb); clear HO_11; clear BK170; clear BK171; clear HB; have HO_11 := n0_; have BK170 := n1_; have BK171 := n2_; have HB := n3_; clear n0_ n1_ n2_ n3_; (try clear hb); (try clear hb2); (try clear hk); (try clear hi)))
        (try simp only [Act.put, List.setIfInBounds_toArray, List.set_cons_zero, List.set_cons_succ])
        go_cut [99] (fun v99 wc => ∃ (kq : Nat) (x99_43 : Bool), v99 = .bool x99_43 ∧ Aside0 (synopticlaw39_SamplingIntervals.j1 kq a3 a4 x99_43 = some r) ∧ Aside0 (kq ≤ kj14) ∧ Aside0 (wc.heap[gb170]? = some (.cells #[.int .i64 x171000_14, .int .i64 x171001_14] 31 (0, 0))) ∧ Aside0 (wc.heap[gb171]? = some (.cells #[.int .i64 x172000_14, .int .i64 x172001_14] 31 (0, 0))) ∧ Aside0 (Below w.heap.size w wc))
        case first =>
          have H := HC44.out
          clear HC44
          by_cases c51 : t175 = 0
          · rw [if_pos c51] at H
            have c51b0 : (t175 == 0) = true := beq_iff_eq.mpr c51
            have c51b1 : (t175 != 0) = false := bne_eq_false_iff_eq.mpr c51
            clear c51
            (first | rw [c51b0] | (simp only [i64_w, i32_w]; rw [c51b0]) | skip)
            by_cases c52 : t173 > t174
            · rw [if_pos c52] at H
              exact absurd H (by simp)
            · rw [if_neg c52] at H
              have c52b0 : decide (t174 < t173) = false := decide_eq_false c52
              clear c52
              replace H := Option.bind_eq_some_iff.mp H
              obtain ⟨t179, A530, H⟩ := H
              replace H : (if t179 = true then ((synopticlaw39_in.f kj14 t162 t174).bind fun t180 => (if t180 = true then (if t178 = 0 then (if t176 > t173 then (none) else (if t177 < t174 then (none) else (synopticlaw39_SamplingIntervals.j1 kj14 a3 a4 false))) else (synopticlaw39_SamplingIntervals.j1 kj14 a3 a4 false)) else (none))) else (none)) = some r := H
              have A53 := Aside0.mk A530
              clear A530
              by_cases c54 : t179 = true
              · subst c54
                have H1 : ((synopticlaw39_in.f kj14 t162 t174).bind fun t180 => (if t180 = true then (if t178 = 0 then (if t176 > t173 then (none) else (if t177 < t174 then (none) else (synopticlaw39_SamplingIntervals.j1 kj14 a3 a4 false))) else (synopticlaw39_SamplingIntervals.j1 kj14 a3 a4 false)) else (none))) = some r := by rw [if_pos rfl] at H; exact H
                clear H
                have H := H1
                clear H1
                replace H := Option.bind_eq_some_iff.mp H
                obtain ⟨t180, A550, H⟩ := H
                replace H : (if t180 = true then (if t178 = 0 then (if t176 > t173 then (none) else (if t177 < t174 then (none) else (synopticlaw39_SamplingIntervals.j1 kj14 a3 a4 false))) else (synopticlaw39_SamplingIntervals.j1 kj14 a3 a4 false)) else (none)) = some r := H
                have A55 := Aside0.mk A550
                clear A550
                by_cases c56 : t180 = true
                · subst c56
                  have H1 : (if t178 = 0 then (if t176 > t173 then (none) else (if t177 < t174 then (none) else (synopticlaw39_SamplingIntervals.j1 kj14 a3 a4 false))) else (synopticlaw39_SamplingIntervals.j1 kj14 a3 a4 false)) = some r := by rw [if_pos rfl] at H; exact H
                  clear H
                  have H := H1
                  clear H1
                  by_cases c57 : t178 = 0
                  · rw [if_pos c57] at H
                    have c57b0 : (t178 == 0) = true := beq_iff_eq.mpr c57
                    have c57b1 : (t178 != 0) = false := bne_eq_false_iff_eq.mpr c57
                    clear c57
                    by_cases c58 : t176 > t173
                    · rw [if_pos c58] at H
                      exact absurd H (by simp)
                    · rw [if_neg c58] at H
                      have c58b0 : decide (t173 < t176) = false := decide_eq_false c58
                      clear c58
                      by_cases c59 : t177 < t174
                      · rw [if_pos c59] at H
                        exact absurd H (by simp)
                      · rw [if_neg c59] at H
                        have c59b0 : decide (t177 < t174) = false := decide_eq_false c59
                        clear c59
                        have H' := Aside0.mk H
                        clear H
                        go_wp2_with (first | (go_at_call 20; (with_reducible refine (synopticlaw39_in.calls kj14 _ _ t162 t173 true _ ?side1 ?side2 A53.out).mono ?_); (case side1 => repeat (first | exact (Kd.R_reads' HO_11.out).2.2 | (with_reducible refine Kd.C_alloc ?_ _) | (with_reducible refine Kd.C_drewN ?_ _) | (with_reducible refine Kd.C_drew ?_))); (case side2 => exact (Kd.R_reads' HO_11.out).2.1); rintro e w' ⟨rfl, ⟨nd, rfl⟩⟩) | (go_at_call 20; (with_reducible refine (synopticlaw39_in.calls kj14 _ _ t162 t174 true _ ?side1 ?side2 A55.out).mono ?_); (case side1 => repeat (first | exact (Kd.R_reads' HO_11.out).2.2 | (with_reducible refine Kd.C_alloc ?_ _) | (with_reducible refine Kd.C_drewN ?_ _) | (with_reducible refine Kd.C_drew ?_))); (case side2 => exact (Kd.R_reads' HO_11.out).2.1); rintro e w' ⟨rfl, ⟨nd, rfl⟩⟩))
                        go_meet
                        case rel => exact ⟨_, (false), (by first | rfl | (simp; done) | (simp [*]; done)), H', ⟨by have := HJ14.out; first | omega | exact Nat.le_refl _⟩, ⟨by (with_reducible repeat (first | refine blk_drewN ?_ _ | refine blk_drew ?_ | refine blk_alloc ?_ _)); exact BK170.out⟩, ⟨by (with_reducible repeat (first | refine blk_drewN ?_ _ | refine blk_drew ?_ | refine blk_alloc ?_ _)); exact BK171.out⟩, ⟨by repeat (first | (with_reducible first | exact HB.out | apply below_alloc | apply pw_below_drewN | apply below_drew1 | refine below_set ?_ GE170.out | refine below_set ?_ GE171.out) | exact HB.out)⟩⟩
                  · rw [if_neg c57] at H
                    have c57b0 : (t178 == 0) = false := beq_eq_false_iff_ne.mpr c57
                    have c57b1 : (t178 != 0) = true := bne_iff_ne.mpr c57
                    have H' := Aside0.mk H
                    clear H
                    go_wp2_with (first | (go_at_call 20; (with_reducible refine (synopticlaw39_in.calls kj14 _ _ t162 t173 true _ ?side1 ?side2 A53.out).mono ?_); (case side1 => repeat (first | exact (Kd.R_reads' HO_11.out).2.2 | (with_reducible refine Kd.C_alloc ?_ _) | (with_reducible refine Kd.C_drewN ?_ _) | (with_reducible refine Kd.C_drew ?_))); (case side2 => exact (Kd.R_reads' HO_11.out).2.1); rintro e w' ⟨rfl, ⟨nd, rfl⟩⟩) | (go_at_call 20; (with_reducible refine (synopticlaw39_in.calls kj14 _ _ t162 t174 true _ ?side1 ?side2 A55.out).mono ?_); (case side1 => repeat (first | exact (Kd.R_reads' HO_11.out).2.2 | (with_reducible refine Kd.C_alloc ?_ _) | (with_reducible refine Kd.C_drewN ?_ _) | (with_reducible refine Kd.C_drew ?_))); (case side2 => exact (Kd.R_reads' HO_11.out).2.1); rintro e w' ⟨rfl, ⟨nd, rfl⟩⟩))
                    go_meet
                    case rel => exact ⟨_, (false), (by first | rfl | (simp; done) | (simp [*]; done)), H', ⟨by have := HJ14.out; first | omega | exact Nat.le_refl _⟩, ⟨by (with_reducible repeat (first | refine blk_drewN ?_ _ | refine blk_drew ?_ | refine blk_alloc ?_ _)); exact BK170.out⟩, ⟨by (with_reducible repeat (first | refine blk_drewN ?_ _ | refine blk_drew ?_ | refine blk_alloc ?_ _)); exact BK171.out⟩, ⟨by repeat (first | (with_reducible first | exact HB.out | apply below_alloc | apply pw_below_drewN | apply below_drew1 | refine below_set ?_ GE170.out | refine below_set ?_ GE171.out) | exact HB.out)⟩⟩
                · replace c56 := Bool.eq_false_iff.mpr c56
                  subst c56
                  have H1 : (none) = some r := by rw [if_neg (show ¬ (false = true) by decide)] at H; exact H
                  clear H
                  have H := H1
                  clear H1
                  exact absurd H (by simp)
              · replace c54 := Bool.eq_false_iff.mpr c54
                subst c54
                have H1 : (none) = some r := by rw [if_neg (show ¬ (false = true) by decide)] at H; exact H
                clear H
                have H := H1
                clear H1
                exact absurd H (by simp)
          · rw [if_neg c51] at H
            have c51b0 : (t175 == 0) = false := beq_eq_false_iff_ne.mpr c51
            have c51b1 : (t175 != 0) = true := bne_iff_ne.mpr c51
            (first | rw [c51b0] | (simp only [i64_w, i32_w]; rw [c51b0]) | skip)
            by_cases c60 : t178 = 0
            · rw [if_pos c60] at H
              exact absurd H (by simp)
            · rw [if_neg c60] at H
              have c60b0 : (t178 == 0) = false := beq_eq_false_iff_ne.mpr c60
              have c60b1 : (t178 != 0) = true := bne_iff_ne.mpr c60
              have H' := Aside0.mk H
              clear H
              go_wp2
              go_meet
              case rel => exact ⟨_, (false), (by first | rfl | (simp; done) | (simp [*]; done)), H', ⟨by have := HJ14.out; first | omega | exact Nat.le_refl _⟩, ⟨by (with_reducible repeat (first | refine blk_drewN ?_ _ | refine blk_drew ?_ | refine blk_alloc ?_ _)); exact BK170.out⟩, ⟨by (with_reducible repeat (first | refine blk_drewN ?_ _ | refine blk_drew ?_ | refine blk_alloc ?_ _)); exact BK171.out⟩, ⟨by repeat (first | (with_reducible first | exact HB.out | apply below_alloc | apply pw_below_drewN | apply below_drew1 | refine below_set ?_ GE170.out | refine below_set ?_ GE171.out) | exact HB.out)⟩⟩
        case rest =>
          clear HC44
          try clear c1
          try clear c2
          try clear p2
          try clear c3
          try clear c4
          try clear c5
          try clear c6
          try clear p6
          try clear c7
          try clear c9
          try clear c10
          try clear c11
          try clear c13
          try clear c18
          try clear c19
          try clear c23
          try clear c24
          try clear c27
          try clear c33
          try clear c33b0
          try clear c34
          try clear c35
          try clear c37
          try clear c45
          try clear c51
          try clear c51b0
          try clear c51b1
          try clear c52
          try clear c52b0
          try clear c54
          try clear c56
          try clear c57
          try clear c57b0
          try clear c57b1
          try clear c58
          try clear c58b0
          try clear c59
          try clear c59b0
          try clear c60
          try clear c60b0
          try clear c60b1
          try clear hcz25_0
          try clear hcz25_1
          try clear hcz28_0
          try clear hcz28_1
          try clear hcz30_0
          try clear hcz30_1
          try clear hcz31_0
          try clear hcz31_1
          try clear hcz36_0
          try clear hcz36_1
          try clear hcz38_0
          try clear hcz38_1
          try clear hcz40_0
          try clear hcz40_1
          try clear hcz46_0
          try clear hcz46_1
          try clear hcz49_0
          try clear hcz49_1
          try clear hfz25_0
          try clear hfz25_1
          try clear hfz28_0
          try clear hfz28_1
          try clear hfz30_0
          try clear hfz30_1
          try clear hfz31_0
          try clear hfz31_1
          try clear hfz36_0
          try clear hfz36_1
          try clear hfz38_0
          try clear hfz38_1
          try clear hfz40_0
          try clear hfz40_1
          try clear hfz46_0
          try clear hfz46_1
          try clear hfz49_0
          try clear hfz49_1
          try clear p2
          try clear p6
          obtain ⟨kq, x99_43, rfl, HA, HJ43, BK170, BK171, HB⟩ := hcut
          cases kq with
          | zero => exact absurd HA.out (by simp [synopticlaw39_SamplingIntervals.j1])
          | succ kj43 =>
            have H := HA.out
            clear HA
            simp only [synopticlaw39_SamplingIntervals.j1] at H
            by_cases c61 : x99_43 = true
            · subst c61
              have H1 : (none) = some r := by rw [if_pos rfl] at H; exact H
              clear H
              have H := H1
              clear H1
              exact absurd H (by simp)
            · replace c61 := Bool.eq_false_iff.mpr c61
              subst c61
              have H1 : (if (wrap64 ((Int.tmod (wrap64 (a3)) 51) + 2)) = 0 then (none) else ((sampling_Tail.f kj43 (Int.tmod (wrap64 (a3)) 51) (wrap64 ((Int.tmod (wrap64 (a4)) (wrap64 ((Int.tmod (wrap64 (a3)) 51) + 2))) - 1))).bind fun bt181 => ((sampling_Tail.f kj43 (Int.tmod (wrap64 (a3)) 51) (wrap64 ((Int.tmod (wrap64 (a3)) 51) - (Int.tmod (wrap64 (a4)) (wrap64 ((Int.tmod (wrap64 (a3)) 51) + 2)))))).bind fun bt185 => (if bt181.2.1 < 1 then (none) else (if bt185.2.1 < 1 then (none) else (if 0 ≤ (IntKind.u64.wrap (Int.tmod (wrap64 (a3)) 51)) then (if bt181.2.1 = 0 then (none) else (if bt185.2.1 = 0 then (none) else ((score_Reduce.f (wrap64 ((wrap64 (bt181.1 * (wrap64 (Int.tdiv (shl .i64 1 (IntKind.u64.wrap (Int.tmod (wrap64 (a3)) 51))) bt181.2.1)))) + (wrap64 (bt185.1 * (wrap64 (Int.tdiv (shl .i64 1 (IntKind.u64.wrap (Int.tmod (wrap64 (a3)) 51))) bt185.2.1)))))) (shl .i64 1 (IntKind.u64.wrap (Int.tmod (wrap64 (a3)) 51)))).bind fun bt189 => (if bt181.2.2 = 0 then (if bt185.2.2 = 0 then (if bt189.2.2 = 0 then (some (bt189.1 == 1 && (bt189.2.1 == 1))) else (none)) else (none)) else (none))))) else (none))))))) = some r := by rw [if_neg (show ¬ (false = true) by decide)] at H; exact H
              clear H
              have H := H1
              clear H1
              by_cases c62 : (wrap64 ((Int.tmod (wrap64 (a3)) 51) + 2)) = 0
              · rw [if_pos c62] at H
                exact absurd H (by simp)
              · rw [if_neg c62] at H
                have c62b0 : ((wrap64 ((Int.tmod (wrap64 (a3)) 51) + 2)) == 0) = false := beq_eq_false_iff_ne.mpr c62
                have c62b1 : ((wrap64 ((Int.tmod (wrap64 (a3)) 51) + 2)) != 0) = true := bne_iff_ne.mpr c62
                replace H := Option.bind_eq_some_iff.mp H
                obtain ⟨⟨t181, t182, t183⟩, A630, H⟩ := H
                replace H : ((sampling_Tail.f kj43 (Int.tmod (wrap64 (a3)) 51) (wrap64 ((Int.tmod (wrap64 (a3)) 51) - (Int.tmod (wrap64 (a4)) (wrap64 ((Int.tmod (wrap64 (a3)) 51) + 2)))))).bind fun bt185 => (if t182 < 1 then (none) else (if bt185.2.1 < 1 then (none) else (if 0 ≤ (IntKind.u64.wrap (Int.tmod (wrap64 (a3)) 51)) then (if t182 = 0 then (none) else (if bt185.2.1 = 0 then (none) else ((score_Reduce.f (wrap64 ((wrap64 (t181 * (wrap64 (Int.tdiv (shl .i64 1 (IntKind.u64.wrap (Int.tmod (wrap64 (a3)) 51))) t182)))) + (wrap64 (bt185.1 * (wrap64 (Int.tdiv (shl .i64 1 (IntKind.u64.wrap (Int.tmod (wrap64 (a3)) 51))) bt185.2.1)))))) (shl .i64 1 (IntKind.u64.wrap (Int.tmod (wrap64 (a3)) 51)))).bind fun bt189 => (if t183 = 0 then (if bt185.2.2 = 0 then (if bt189.2.2 = 0 then (some (bt189.1 == 1 && (bt189.2.1 == 1))) else (none)) else (none)) else (none))))) else (none))))) = some r := H
                have A63 := Aside0.mk A630
                clear A630
                replace H := Option.bind_eq_some_iff.mp H
                obtain ⟨⟨t185, t186, t187⟩, A640, H⟩ := H
                replace H : (if t182 < 1 then (none) else (if t186 < 1 then (none) else (if 0 ≤ (IntKind.u64.wrap (Int.tmod (wrap64 (a3)) 51)) then (if t182 = 0 then (none) else (if t186 = 0 then (none) else ((score_Reduce.f (wrap64 ((wrap64 (t181 * (wrap64 (Int.tdiv (shl .i64 1 (IntKind.u64.wrap (Int.tmod (wrap64 (a3)) 51))) t182)))) + (wrap64 (t185 * (wrap64 (Int.tdiv (shl .i64 1 (IntKind.u64.wrap (Int.tmod (wrap64 (a3)) 51))) t186)))))) (shl .i64 1 (IntKind.u64.wrap (Int.tmod (wrap64 (a3)) 51)))).bind fun bt189 => (if t183 = 0 then (if t187 = 0 then (if bt189.2.2 = 0 then (some (bt189.1 == 1 && (bt189.2.1 == 1))) else (none)) else (none)) else (none))))) else (none)))) = some r := H
                have A64 := Aside0.mk A640
                clear A640
                by_cases c65 : t182 < 1
                · rw [if_pos c65] at H
                  exact absurd H (by simp)
                · rw [if_neg c65] at H
                  have c65b0 : decide (t182 < 1) = false := decide_eq_false c65
                  clear c65
                  by_cases c66 : t186 < 1
                  · rw [if_pos c66] at H
                    exact absurd H (by simp)
                  · rw [if_neg c66] at H
                    have c66b0 : decide (t186 < 1) = false := decide_eq_false c66
                    clear c66
                    obtain ⟨ji67, hji67⟩ : ∃ j_ : Int, (IntKind.u64.wrap (Int.tmod (wrap64 (a3)) 51)) = j_ := ⟨_, rfl⟩
                    replace H : (if 0 ≤ (ji67) then (if t182 = 0 then (none) else (if t186 = 0 then (none) else ((score_Reduce.f (wrap64 ((wrap64 (t181 * (wrap64 (Int.tdiv (shl .i64 1 (ji67)) t182)))) + (wrap64 (t185 * (wrap64 (Int.tdiv (shl .i64 1 (ji67)) t186)))))) (shl .i64 1 (ji67))).bind fun bt189 => (if t183 = 0 then (if t187 = 0 then (if bt189.2.2 = 0 then (some (bt189.1 == 1 && (bt189.2.1 == 1))) else (none)) else (none)) else (none))))) else (none)) = some r := by first | (rw [hji67] at H; exact H) | (simp only [hji67] at H ⊢; exact H)
                    (try rw [hji67] at A63)
                    (try rw [hji67] at A64)
                    by_cases c68 : 0 ≤ (ji67)
                    · rw [if_pos c68] at H
                      have c68b0 := eq_true c68
                      have c68b1 : decide (0 ≤ (ji67)) = true := decide_eq_true c68
                      clear c68
                      obtain ⟨ji69, hji69⟩ : ∃ j_ : Int, (shl .i64 1 (ji67)) = j_ := ⟨_, rfl⟩
                      replace H : (if t182 = 0 then (none) else (if t186 = 0 then (none) else ((score_Reduce.f (wrap64 ((wrap64 (t181 * (wrap64 (Int.tdiv (ji69) t182)))) + (wrap64 (t185 * (wrap64 (Int.tdiv (ji69) t186)))))) (ji69)).bind fun bt189 => (if t183 = 0 then (if t187 = 0 then (if bt189.2.2 = 0 then (some (bt189.1 == 1 && (bt189.2.1 == 1))) else (none)) else (none)) else (none))))) = some r := by first | (rw [hji69] at H; exact H) | (simp only [hji69] at H ⊢; exact H)
                      (try rw [hji69] at A63)
                      (try rw [hji69] at A64)
                      have hji69_ : (IntKind.i64.wrap (1 * 2 ^ min (ji67).toNat 64)) = ji69 := hji69
                      have hji69z : (ji67) ≤ 64 → (IntKind.i64.wrap (1 * 2 ^ (ji67).toNat)) = ji69 := shl_small hji69
                      have hji69u : (IntKind.i64.wrap (2 ^ min (ji67).toNat 64)) = ji69 := by have h_ := hji69_; rw [Int.one_mul] at h_; exact h_
                      have hji69v : (ji67) ≤ 64 → (IntKind.i64.wrap (2 ^ (ji67).toNat)) = ji69 := fun hle_ => by have h_ := hji69z hle_; rw [Int.one_mul] at h_; exact h_
                      have hji69y : (wrap64 (1 * 2 ^ min (ji67).toNat 64)) = ji69 := (i64_w _).symm.trans hji69_
                      have hji69x : (ji67) ≤ 64 → (wrap64 (1 * 2 ^ (ji67).toNat)) = ji69 := fun h_ => (i64_w _).symm.trans (hji69z h_)
                      by_cases c70 : t182 = 0
                      · rw [if_pos c70] at H
                        exact absurd H (by simp)
                      · rw [if_neg c70] at H
                        have c70b0 : (t182 == 0) = false := beq_eq_false_iff_ne.mpr c70
                        have c70b1 : (t182 != 0) = true := bne_iff_ne.mpr c70
                        have c71b0 := eq_true (of_decide_eq_true (by first | (with_reducible assumption) | assumption) : 0 ≤ (ji67))
                        by_cases c73 : t186 = 0
                        · rw [if_pos c73] at H
                          exact absurd H (by simp)
                        · rw [if_neg c73] at H
                          have c73b0 : (t186 == 0) = false := beq_eq_false_iff_ne.mpr c73
                          have c73b1 : (t186 != 0) = true := bne_iff_ne.mpr c73
                          have c74b0 := eq_true (of_decide_eq_true (by first | (with_reducible assumption) | assumption) : 0 ≤ (ji67))
                          replace H := Option.bind_eq_some_iff.mp H
                          obtain ⟨⟨t189, t190, t191⟩, A760, H⟩ := H
                          replace H : (if t183 = 0 then (if t187 = 0 then (if t191 = 0 then (some (t189 == 1 && (t190 == 1))) else (none)) else (none)) else (none)) = some r := H
                          have A76 := Aside0.mk A760
                          clear A760
                          by_cases c77 : t183 = 0
                          · rw [if_pos c77] at H
                            have c77b0 : (t183 == 0) = true := beq_iff_eq.mpr c77
                            have c77b1 : (t183 != 0) = false := bne_eq_false_iff_eq.mpr c77
                            clear c77
                            by_cases c78 : t187 = 0
                            · rw [if_pos c78] at H
                              have c78b0 : (t187 == 0) = true := beq_iff_eq.mpr c78
                              have c78b1 : (t187 != 0) = false := bne_eq_false_iff_eq.mpr c78
                              clear c78
                              by_cases c79 : t191 = 0
                              · rw [if_pos c79] at H
                                have c79b0 : (t191 == 0) = true := beq_iff_eq.mpr c79
                                have c79b1 : (t191 != 0) = false := bne_eq_false_iff_eq.mpr c79
                                clear c79
                                obtain rfl := Option.some.inj H
                                try go_wp2_with (first | ((with_reducible refine gate_callee (f := 21) rfl ?_); refine goesL_ (some 112) rfl rfl Try.func21 (by kernel_rfl) rfl #[.int .i64 (Int.tmod (wrap64 (a3)) 51), .int .i64 (wrap64 ((Int.tmod (wrap64 (a4)) (wrap64 ((Int.tmod (wrap64 (a3)) 51) + 2))) - 1))] rfl (by (try simp only [List.map_toArray, List.map_cons, List.map_nil]); first | done | rfl | (simp only [List.length_drop, List.length_take]; rfl)) ?_; (with_reducible refine (sampling_Tail.calls kj43 (Int.tmod (wrap64 (a3)) 51) (wrap64 ((Int.tmod (wrap64 (a4)) (wrap64 ((Int.tmod (wrap64 (a3)) 51) + 2))) - 1)) t181 t182 t183 _ A63.out).mono ?_); rintro e w80 ⟨rfl, hb⟩; refine ⟨_, rfl, ?_⟩; have n0_ := Aside0.mk (blk_below (g := gb170) (o := .cells #[.int .i64 x171000_14, .int .i64 x171001_14] 31 (0, 0)) (by (with_reducible repeat (first | refine blk_drewN ?_ _ | refine blk_drew ?_ | refine blk_alloc ?_ _)); exact BK170.out) hb); have n1_ := Aside0.mk (blk_below (g := gb171) (o := .cells #[.int .i64 x172000_14, .int .i64 x172001_14] 31 (0, 0)) (by (with_reducible repeat (first | refine blk_drewN ?_ _ | refine blk_drew ?_ | refine blk_alloc ?_ _)); exact BK171.out) hb); have n2_ := Aside0.mk (below_step (by repeat (first | (with_reducible first | exact HB.out | apply below_alloc | apply pw_below_drewN | apply below_drew1 | refine below_set ?_ GE170.out | refine below_set ?_ GE171.out) | exact HB.out)) hb); clear BK170; clear BK171; clear HB; have BK170 := n0_; have BK171 := n1_; have HB := n2_; clear n0_ n1_ n2_; (try clear hb); (try clear hb2); (try clear hk); (try clear hi)) | ((with_reducible refine gate_dst (N := 22) rfl ?_); refine box_event ?hg (N := 22) ?hd (cs := #[.int .i64 0, .int .i64 0]) (t := 31) ?hr ?_; (case hd => rfl); (case hg => rfl); (case hr => first | (go_simp; done) | (go_simp; rfl)); intro gb184 hg w81 hbox hb; have n0_ := Aside0.mk (blk_below (g := gb170) (o := .cells #[.int .i64 x171000_14, .int .i64 x171001_14] 31 (0, 0)) (by (with_reducible repeat (first | refine blk_drewN ?_ _ | refine blk_drew ?_ | refine blk_alloc ?_ _)); exact BK170.out) hb); have n1_ := Aside0.mk (blk_below (g := gb171) (o := .cells #[.int .i64 x172000_14, .int .i64 x172001_14] 31 (0, 0)) (by (with_reducible repeat (first | refine blk_drewN ?_ _ | refine blk_drew ?_ | refine blk_alloc ?_ _)); exact BK171.out) hb); have n2_ := Aside0.mk (below_step (by repeat (first | (with_reducible first | exact HB.out | apply below_alloc | apply pw_below_drewN | apply below_drew1 | refine below_set ?_ GE170.out | refine below_set ?_ GE171.out) | exact HB.out)) hb); have n3_ := Aside0.mk (hbox); have n4_ := Aside0.mk ((by rw [hg]; exact (below_size (by repeat (first | (with_reducible first | exact HB.out | apply below_alloc | apply pw_below_drewN | apply below_drew1 | refine below_set ?_ GE170.out | refine below_set ?_ GE171.out) | exact HB.out))) : w.heap.size ≤ gb184)); have n5_ := Aside0.mk ((by rw [hg]; exact (below_size (by repeat (first | (with_reducible first | exact HB.out | apply below_alloc | apply pw_below_drewN | apply below_drew1 | refine below_set ?_ GE170.out | refine below_set ?_ GE171.out) | exact HB.out))) : w.heap.size ≤ gb184)); have n6_ := Aside0.mk ((by rw [hg]; exact Nat.ne_of_lt (blk_lt (g := gb170) (o := .cells #[.int .i64 x171000_14, .int .i64 x171001_14] 31 (0, 0)) (by (with_reducible repeat (first | refine blk_drewN ?_ _ | refine blk_drew ?_ | refine blk_alloc ?_ _)); exact BK170.out)) : gb170 ≠ gb184)); have n7_ := Aside0.mk ((by rw [hg]; exact Nat.ne_of_gt (blk_lt (g := gb170) (o := .cells #[.int .i64 x171000_14, .int .i64 x171001_14] 31 (0, 0)) (by (with_reducible repeat (first | refine blk_drewN ?_ _ | refine blk_drew ?_ | refine blk_alloc ?_ _)); exact BK170.out)) : gb184 ≠ gb170)); have n8_ := Aside0.mk ((by rw [hg]; exact Nat.ne_of_lt (blk_lt (g := gb171) (o := .cells #[.int .i64 x172000_14, .int .i64 x172001_14] 31 (0, 0)) (by (with_reducible repeat (first | refine blk_drewN ?_ _ | refine blk_drew ?_ | refine blk_alloc ?_ _)); exact BK171.out)) : gb171 ≠ gb184)); have n9_ := Aside0.mk ((by rw [hg]; exact Nat.ne_of_gt (blk_lt (g := gb171) (o := .cells #[.int .i64 x172000_14, .int .i64 x172001_14] 31 (0, 0)) (by (with_reducible repeat (first | refine blk_drewN ?_ _ | refine blk_drew ?_ | refine blk_alloc ?_ _)); exact BK171.out)) : gb184 ≠ gb171)); clear BK170; clear BK171; clear HB; have BK170 := n0_; have BK171 := n1_; have HB := n2_; have BK184 := n3_; have GW184 := n4_; have GE184 := n5_; have NB170_184 := n6_; have NB184_170 := n7_; have NB171_184 := n8_; have NB184_171 := n9_; clear n0_ n1_ n2_ n3_ n4_ n5_ n6_ n7_ n8_ n9_; clear hb hbox hg; have hnb82 := NB184_170.out; have hnc82 := NB170_184.out; have hnb83 := NB184_171.out; have hnc83 := NB171_184.out; have hcz84_0 : w81.cell? ⟨gb184, 0, none⟩ = some (.int .i64 0) := (blk_cell BK184.out 0).trans rfl; have hcz84_1 : w81.cell? ⟨gb184, 1, none⟩ = some (.int .i64 0) := (blk_cell BK184.out 1).trans rfl; have hfz84_0 := blk_frozen BK184.out 0; have hfz84_1 := blk_frozen BK184.out 1) | ((with_reducible refine gate_store (t := 31) (p := 22) rfl ?_); refine store_event (t := 31) (p := 22) (v := ?vo_w85) (w1 := ((w81.setCell ⟨gb184, 0, none⟩ (.int .i64 t181)).setCell ⟨gb184, 1, none⟩ (.int .i64 t182))) ?hg ?ho ?hn ?hr ?_; (case ho => rfl); (case hg => rfl); (case hn => rfl); (case hr => first | (go_simp; done) | (go_simp; rfl)); intro w85 hw; have n0_ : Aside0 (w85.heap[gb170]? = some (.cells #[.int .i64 x171000_14, .int .i64 x171001_14] 31 (0, 0))) := ⟨(by rw [hw]; exact (by (with_reducible repeat (first | refine blk_drewN ?_ _ | refine blk_drew ?_ | refine blk_alloc ?_ _)); refine blk_far ?_ NB170_184.out _; (with_reducible repeat (first | refine blk_drewN ?_ _ | refine blk_drew ?_ | refine blk_alloc ?_ _)); refine blk_far ?_ NB170_184.out _; (with_reducible repeat (first | refine blk_drewN ?_ _ | refine blk_drew ?_ | refine blk_alloc ?_ _)); exact BK170.out))⟩; have n1_ : Aside0 (w85.heap[gb171]? = some (.cells #[.int .i64 x172000_14, .int .i64 x172001_14] 31 (0, 0))) := ⟨(by rw [hw]; exact (by (with_reducible repeat (first | refine blk_drewN ?_ _ | refine blk_drew ?_ | refine blk_alloc ?_ _)); refine blk_far ?_ NB171_184.out _; (with_reducible repeat (first | refine blk_drewN ?_ _ | refine blk_drew ?_ | refine blk_alloc ?_ _)); refine blk_far ?_ NB171_184.out _; (with_reducible repeat (first | refine blk_drewN ?_ _ | refine blk_drew ?_ | refine blk_alloc ?_ _)); exact BK171.out))⟩; have n2_ : Aside0 (w85.heap[gb184]? = some (.cells #[.int .i64 t181, .int .i64 t182] 31 (0, 0))) := ⟨(by rw [hw]; exact (by (with_reducible repeat (first | refine blk_drewN ?_ _ | refine blk_drew ?_ | refine blk_alloc ?_ _)); refine blk_put (cs := #[.int .i64 t181, .int .i64 0]) ?_ 1 _ rfl; (with_reducible repeat (first | refine blk_drewN ?_ _ | refine blk_drew ?_ | refine blk_alloc ?_ _)); refine blk_put (cs := #[.int .i64 0, .int .i64 0]) ?_ 0 _ rfl; (with_reducible repeat (first | refine blk_drewN ?_ _ | refine blk_drew ?_ | refine blk_alloc ?_ _)); exact BK184.out))⟩; have n3_ : Aside0 (Below w.heap.size w w85) := ⟨(by rw [hw]; exact (by repeat (first | (with_reducible first | exact HB.out | apply below_alloc | apply pw_below_drewN | apply below_drew1 | refine below_set ?_ GE170.out | refine below_set ?_ GE171.out | refine below_set ?_ GE184.out) | exact HB.out)))⟩; clear hw; clear BK170; clear BK171; clear BK184; clear HB; have BK170 := n0_; have BK171 := n1_; have BK184 := n2_; have HB := n3_; clear n0_ n1_ n2_ n3_) | ((with_reducible refine gate_callee (f := 21) rfl ?_); refine goesL_ (some 120) rfl rfl Try.func21 (by kernel_rfl) rfl #[.int .i64 (Int.tmod (wrap64 (a3)) 51), .int .i64 (wrap64 ((Int.tmod (wrap64 (a3)) 51) - (Int.tmod (wrap64 (a4)) (wrap64 ((Int.tmod (wrap64 (a3)) 51) + 2)))))] rfl (by (try simp only [List.map_toArray, List.map_cons, List.map_nil]); first | done | rfl | (simp only [List.length_drop, List.length_take]; rfl)) ?_; (with_reducible refine (sampling_Tail.calls kj43 (Int.tmod (wrap64 (a3)) 51) (wrap64 ((Int.tmod (wrap64 (a3)) 51) - (Int.tmod (wrap64 (a4)) (wrap64 ((Int.tmod (wrap64 (a3)) 51) + 2))))) t185 t186 t187 _ A64.out).mono ?_); rintro e w86 ⟨rfl, hb⟩; refine ⟨_, rfl, ?_⟩; have n0_ := Aside0.mk (blk_below (g := gb170) (o := .cells #[.int .i64 x171000_14, .int .i64 x171001_14] 31 (0, 0)) (by (with_reducible repeat (first | refine blk_drewN ?_ _ | refine blk_drew ?_ | refine blk_alloc ?_ _)); exact BK170.out) hb); have n1_ := Aside0.mk (blk_below (g := gb171) (o := .cells #[.int .i64 x172000_14, .int .i64 x172001_14] 31 (0, 0)) (by (with_reducible repeat (first | refine blk_drewN ?_ _ | refine blk_drew ?_ | refine blk_alloc ?_ _)); exact BK171.out) hb); have n2_ := Aside0.mk (blk_below (g := gb184) (o := .cells #[.int .i64 t181, .int .i64 t182] 31 (0, 0)) (by (with_reducible repeat (first | refine blk_drewN ?_ _ | refine blk_drew ?_ | refine blk_alloc ?_ _)); exact BK184.out) hb); have n3_ := Aside0.mk (below_step (by repeat (first | (with_reducible first | exact HB.out | apply below_alloc | apply pw_below_drewN | apply below_drew1 | refine below_set ?_ GE170.out | refine below_set ?_ GE171.out | refine below_set ?_ GE184.out) | exact HB.out)) hb); clear BK170; clear BK171; clear BK184; clear HB; have BK170 := n0_; have BK171 := n1_; have BK184 := n2_; have HB := n3_; clear n0_ n1_ n2_ n3_; (try clear hb); (try clear hb2); (try clear hk); (try clear hi)) | ((with_reducible refine gate_dst (N := 24) rfl ?_); refine box_event ?hg (N := 24) ?hd (cs := #[.int .i64 0, .int .i64 0]) (t := 31) ?hr ?_; (case hd => rfl); (case hg => rfl); (case hr => first | (go_simp; done) | (go_simp; rfl)); intro gb188 hg w87 hbox hb; have n0_ := Aside0.mk (blk_below (g := gb170) (o := .cells #[.int .i64 x171000_14, .int .i64 x171001_14] 31 (0, 0)) (by (with_reducible repeat (first | refine blk_drewN ?_ _ | refine blk_drew ?_ | refine blk_alloc ?_ _)); exact BK170.out) hb); have n1_ := Aside0.mk (blk_below (g := gb171) (o := .cells #[.int .i64 x172000_14, .int .i64 x172001_14] 31 (0, 0)) (by (with_reducible repeat (first | refine blk_drewN ?_ _ | refine blk_drew ?_ | refine blk_alloc ?_ _)); exact BK171.out) hb); have n2_ := Aside0.mk (blk_below (g := gb184) (o := .cells #[.int .i64 t181, .int .i64 t182] 31 (0, 0)) (by (with_reducible repeat (first | refine blk_drewN ?_ _ | refine blk_drew ?_ | refine blk_alloc ?_ _)); exact BK184.out) hb); have n3_ := Aside0.mk (below_step (by repeat (first | (with_reducible first | exact HB.out | apply below_alloc | apply pw_below_drewN | apply below_drew1 | refine below_set ?_ GE170.out | refine below_set ?_ GE171.out | refine below_set ?_ GE184.out) | exact HB.out)) hb); have n4_ := Aside0.mk (hbox); have n5_ := Aside0.mk ((by rw [hg]; exact (below_size (by repeat (first | (with_reducible first | exact HB.out | apply below_alloc | apply pw_below_drewN | apply below_drew1 | refine below_set ?_ GE170.out | refine below_set ?_ GE171.out | refine below_set ?_ GE184.out) | exact HB.out))) : w.heap.size ≤ gb188)); have n6_ := Aside0.mk ((by rw [hg]; exact (below_size (by repeat (first | (with_reducible first | exact HB.out | apply below_alloc | apply pw_below_drewN | apply below_drew1 | refine below_set ?_ GE170.out | refine below_set ?_ GE171.out | refine below_set ?_ GE184.out) | exact HB.out))) : w.heap.size ≤ gb188)); have n7_ := Aside0.mk ((by rw [hg]; exact Nat.ne_of_lt (blk_lt (g := gb170) (o := .cells #[.int .i64 x171000_14, .int .i64 x171001_14] 31 (0, 0)) (by (with_reducible repeat (first | refine blk_drewN ?_ _ | refine blk_drew ?_ | refine blk_alloc ?_ _)); exact BK170.out)) : gb170 ≠ gb188)); have n8_ := Aside0.mk ((by rw [hg]; exact Nat.ne_of_gt (blk_lt (g := gb170) (o := .cells #[.int .i64 x171000_14, .int .i64 x171001_14] 31 (0, 0)) (by (with_reducible repeat (first | refine blk_drewN ?_ _ | refine blk_drew ?_ | refine blk_alloc ?_ _)); exact BK170.out)) : gb188 ≠ gb170)); have n9_ := Aside0.mk ((by rw [hg]; exact Nat.ne_of_lt (blk_lt (g := gb171) (o := .cells #[.int .i64 x172000_14, .int .i64 x172001_14] 31 (0, 0)) (by (with_reducible repeat (first | refine blk_drewN ?_ _ | refine blk_drew ?_ | refine blk_alloc ?_ _)); exact BK171.out)) : gb171 ≠ gb188)); have n10_ := Aside0.mk ((by rw [hg]; exact Nat.ne_of_gt (blk_lt (g := gb171) (o := .cells #[.int .i64 x172000_14, .int .i64 x172001_14] 31 (0, 0)) (by (with_reducible repeat (first | refine blk_drewN ?_ _ | refine blk_drew ?_ | refine blk_alloc ?_ _)); exact BK171.out)) : gb188 ≠ gb171)); have n11_ := Aside0.mk ((by rw [hg]; exact Nat.ne_of_lt (blk_lt (g := gb184) (o := .cells #[.int .i64 t181, .int .i64 t182] 31 (0, 0)) (by (with_reducible repeat (first | refine blk_drewN ?_ _ | refine blk_drew ?_ | refine blk_alloc ?_ _)); exact BK184.out)) : gb184 ≠ gb188)); have n12_ := Aside0.mk ((by rw [hg]; exact Nat.ne_of_gt (blk_lt (g := gb184) (o := .cells #[.int .i64 t181, .int .i64 t182] 31 (0, 0)) (by (with_reducible repeat (first | refine blk_drewN ?_ _ | refine blk_drew ?_ | refine blk_alloc ?_ _)); exact BK184.out)) : gb188 ≠ gb184)); clear BK170; clear BK171; clear BK184; clear HB; have BK170 := n0_; have BK171 := n1_; have BK184 := n2_; have HB := n3_; have BK188 := n4_; have GW188 := n5_; have GE188 := n6_; have NB170_188 := n7_; have NB188_170 := n8_; have NB171_188 := n9_; have NB188_171 := n10_; have NB184_188 := n11_; have NB188_184 := n12_; clear n0_ n1_ n2_ n3_ n4_ n5_ n6_ n7_ n8_ n9_ n10_ n11_ n12_; clear hb hbox hg; have hnb88 := NB188_170.out; have hnc88 := NB170_188.out; have hnb89 := NB188_171.out; have hnc89 := NB171_188.out; have hnb90 := NB188_184.out; have hnc90 := NB184_188.out; have hcz91_0 : w87.cell? ⟨gb188, 0, none⟩ = some (.int .i64 0) := (blk_cell BK188.out 0).trans rfl; have hcz91_1 : w87.cell? ⟨gb188, 1, none⟩ = some (.int .i64 0) := (blk_cell BK188.out 1).trans rfl; have hfz91_0 := blk_frozen BK188.out 0; have hfz91_1 := blk_frozen BK188.out 1) | ((with_reducible refine gate_store (t := 31) (p := 24) rfl ?_); refine store_event (t := 31) (p := 24) (v := ?vo_w92) (w1 := ((w87.setCell ⟨gb188, 0, none⟩ (.int .i64 t185)).setCell ⟨gb188, 1, none⟩ (.int .i64 t186))) ?hg ?ho ?hn ?hr ?_; (case ho => rfl); (case hg => rfl); (case hn => rfl); (case hr => first | (go_simp; done) | (go_simp; rfl)); intro w92 hw; have n0_ : Aside0 (w92.heap[gb170]? = some (.cells #[.int .i64 x171000_14, .int .i64 x171001_14] 31 (0, 0))) := ⟨(by rw [hw]; exact (by (with_reducible repeat (first | refine blk_drewN ?_ _ | refine blk_drew ?_ | refine blk_alloc ?_ _)); refine blk_far ?_ NB170_188.out _; (with_reducible repeat (first | refine blk_drewN ?_ _ | refine blk_drew ?_ | refine blk_alloc ?_ _)); refine blk_far ?_ NB170_188.out _; (with_reducible repeat (first | refine blk_drewN ?_ _ | refine blk_drew ?_ | refine blk_alloc ?_ _)); exact BK170.out))⟩; have n1_ : Aside0 (w92.heap[gb171]? = some (.cells #[.int .i64 x172000_14, .int .i64 x172001_14] 31 (0, 0))) := ⟨(by rw [hw]; exact (by (with_reducible repeat (first | refine blk_drewN ?_ _ | refine blk_drew ?_ | refine blk_alloc ?_ _)); refine blk_far ?_ NB171_188.out _; (with_reducible repeat (first | refine blk_drewN ?_ _ | refine blk_drew ?_ | refine blk_alloc ?_ _)); refine blk_far ?_ NB171_188.out _; (with_reducible repeat (first | refine blk_drewN ?_ _ | refine blk_drew ?_ | refine blk_alloc ?_ _)); exact BK171.out))⟩; have n2_ : Aside0 (w92.heap[gb184]? = some (.cells #[.int .i64 t181, .int .i64 t182] 31 (0, 0))) := ⟨(by rw [hw]; exact (by (with_reducible repeat (first | refine blk_drewN ?_ _ | refine blk_drew ?_ | refine blk_alloc ?_ _)); refine blk_far ?_ NB184_188.out _; (with_reducible repeat (first | refine blk_drewN ?_ _ | refine blk_drew ?_ | refine blk_alloc ?_ _)); refine blk_far ?_ NB184_188.out _; (with_reducible repeat (first | refine blk_drewN ?_ _ | refine blk_drew ?_ | refine blk_alloc ?_ _)); exact BK184.out))⟩; have n3_ : Aside0 (w92.heap[gb188]? = some (.cells #[.int .i64 t185, .int .i64 t186] 31 (0, 0))) := ⟨(by rw [hw]; exact (by (with_reducible repeat (first | refine blk_drewN ?_ _ | refine blk_drew ?_ | refine blk_alloc ?_ _)); refine blk_put (cs := #[.int .i64 t185, .int .i64 0]) ?_ 1 _ rfl; (with_reducible repeat (first | refine blk_drewN ?_ _ | refine blk_drew ?_ | refine blk_alloc ?_ _)); refine blk_put (cs := #[.int .i64 0, .int .i64 0]) ?_ 0 _ rfl; (with_reducible repeat (first | refine blk_drewN ?_ _ | refine blk_drew ?_ | refine blk_alloc ?_ _)); exact BK188.out))⟩; have n4_ : Aside0 (Below w.heap.size w w92) := ⟨(by rw [hw]; exact (by repeat (first | (with_reducible first | exact HB.out | apply below_alloc | apply pw_below_drewN | apply below_drew1 | refine below_set ?_ GE170.out | refine below_set ?_ GE171.out | refine below_set ?_ GE184.out | refine below_set ?_ GE188.out) | exact HB.out)))⟩; clear hw; clear BK170; clear BK171; clear BK184; clear BK188; clear HB; have BK170 := n0_; have BK171 := n1_; have BK184 := n2_; have BK188 := n3_; have HB := n4_; clear n0_ n1_ n2_ n3_ n4_; have hcz93_0 : w92.cell? ⟨gb184, 0, none⟩ = some (.int .i64 t181) := (blk_cell BK184.out 0).trans rfl; have hcz93_1 : w92.cell? ⟨gb184, 1, none⟩ = some (.int .i64 t182) := (blk_cell BK184.out 1).trans rfl; have hfz93_0 := blk_frozen BK184.out 0; have hfz93_1 := blk_frozen BK184.out 1; have hcz94_0 : w92.cell? ⟨gb188, 0, none⟩ = some (.int .i64 t185) := (blk_cell BK188.out 0).trans rfl; have hcz94_1 : w92.cell? ⟨gb188, 1, none⟩ = some (.int .i64 t186) := (blk_cell BK188.out 1).trans rfl; have hfz94_0 := blk_frozen BK188.out 0; have hfz94_1 := blk_frozen BK188.out 1))
                                have n0_ := Aside0.mk (blk_drew BK170.out)
                                have n1_ := Aside0.mk (blk_drew BK171.out)
                                have n2_ := Aside0.mk (blk_drew BK184.out)
                                have n3_ := Aside0.mk (blk_drew BK188.out)
                                have n4_ := Aside0.mk (below_drew1 HB.out)
                                clear BK170
                                clear BK171
                                clear BK184
                                clear BK188
                                clear HB
                                have BK170 := n0_
                                have BK171 := n1_
                                have BK184 := n2_
                                have BK188 := n3_
                                have HB := n4_
                                clear n0_ n1_ n2_ n3_ n4_
                                refine start_ (n := 29) (S := fun w' => w'.cell? ⟨gb184, 0, none⟩ = some (.int .i64 t181) ∧ w'.cell? ⟨gb184, 1, none⟩ = some (.int .i64 t182) ∧ w'.cell? ⟨gb188, 0, none⟩ = some (.int .i64 t185) ∧ w'.cell? ⟨gb188, 1, none⟩ = some (.int .i64 t186)) (ds := []) #[false, false, false, false, false, false, false, false, false, false, false, false, false, false, false, false, false, false, false, false, false, false, false, false, false, false, false, false, false] (by kernel_rfl) rfl rfl ⟨(blk_cell BK184.out 0).trans rfl, (blk_cell BK184.out 1).trans rfl, (blk_cell BK188.out 0).trans rfl, (blk_cell BK188.out 1).trans rfl⟩ (fun hHeld => ?_); refine with_tabW synopticlaw39_SamplingIntervals.tab17 synopticlaw39_SamplingIntervals.bits17 (fun HT_ HW_ => ?_)
                                generalize w92.drew = w95 at BK170 BK171 BK184 BK188 HB hHeld ⊢
                                refine pure_ (i := 0) (N := some 132) (v := ?_) (a' := ?_) #[true, false, false, false, false, false, false, false, false, false, false, false, false, false, false, false, false, false, false, false, false, false, false, false, false, false, false, false, false] rfl rfl (any_of HT_.out (by kernel_rfl)) (fun _ _ _ h => h) (Or.inl ⟨by rfl, ?_⟩) ?_ ?_
                                rotate_left
                                · intro w'
                                  go_simp
                                  with_reducible rfl
                                rotate_left
                                · simp only [Act.put, List.setIfInBounds_toArray, List.set_cons_zero, List.set_cons_succ, i64_w, i32_w]
                                  rfl
                                refine pure_ (i := 2) (N := some 134) (v := ?_) (a' := ?_) #[true, false, true, false, false, false, false, false, false, false, false, false, false, false, false, false, false, false, false, false, false, false, false, false, false, false, false, false, false] rfl rfl (any_of HT_.out (by kernel_rfl)) (fun _ _ _ h => h) (Or.inl ⟨by rfl, ?_⟩) ?_ ?_
                                rotate_left
                                · intro w'
                                  go_simp
                                  with_reducible rfl
                                rotate_left
                                · simp only [Act.put, List.setIfInBounds_toArray, List.set_cons_zero, List.set_cons_succ, i64_w, i32_w]
                                  rfl
                                refine pure_ (i := 3) (N := some 135) (v := ?_) (a' := ?_) #[true, false, true, true, false, false, false, false, false, false, false, false, false, false, false, false, false, false, false, false, false, false, false, false, false, false, false, false, false] rfl rfl (any_of HT_.out (by kernel_rfl)) (fun _ _ _ h => h) (Or.inl ⟨by rfl, ?_⟩) ?_ ?_
                                rotate_left
                                · intro w'
                                  go_simp
                                  with_reducible rfl
                                rotate_left
                                · simp only [Act.put, List.setIfInBounds_toArray, List.set_cons_zero, List.set_cons_succ, i64_w, i32_w]
                                  rfl
                                refine pure_ (i := 4) (N := some 136) (v := ?_) (a' := ?_) #[true, false, true, true, true, false, false, false, false, false, false, false, false, false, false, false, false, false, false, false, false, false, false, false, false, false, false, false, false] rfl rfl (any_of HT_.out (by kernel_rfl)) (fun _ _ _ h => h) (Or.inl ⟨by rfl, ?_⟩) ?_ ?_
                                rotate_left
                                · intro w'
                                  go_simp
                                  with_reducible rfl
                                rotate_left
                                · simp only [Act.put, List.setIfInBounds_toArray, List.set_cons_zero, List.set_cons_succ, i64_w, i32_w]
                                  rfl
                                refine pure_ (i := 5) (N := some 137) (v := ?_) (a' := ?_) #[true, false, true, true, true, true, false, false, false, false, false, false, false, false, false, false, false, false, false, false, false, false, false, false, false, false, false, false, false] rfl rfl (any_of HT_.out (by kernel_rfl)) (fun _ _ _ h => h) (Or.inl ⟨by rfl, ?_⟩) ?_ ?_
                                rotate_left
                                · intro w'
                                  go_simp
                                  with_reducible rfl
                                rotate_left
                                · simp only [Act.put, List.setIfInBounds_toArray, List.set_cons_zero, List.set_cons_succ, i64_w, i32_w]
                                  rfl
                                refine pure_ (i := 9) (N := some 141) (v := ?_) (a' := ?_) #[true, false, true, true, true, true, false, false, false, true, false, false, false, false, false, false, false, false, false, false, false, false, false, false, false, false, false, false, false] rfl rfl (any_of HT_.out (by kernel_rfl)) (fun _ _ _ h => h) (Or.inl ⟨by rfl, ?_⟩) ?_ ?_
                                rotate_left
                                · intro w'
                                  go_simp
                                  with_reducible rfl
                                rotate_left
                                · simp only [Act.put, List.setIfInBounds_toArray, List.set_cons_zero, List.set_cons_succ, i64_w, i32_w]
                                  rfl
                                refine pure_ (i := 11) (N := some 143) (v := ?_) (a' := ?_) #[true, false, true, true, true, true, false, false, false, true, false, true, false, false, false, false, false, false, false, false, false, false, false, false, false, false, false, false, false] rfl rfl (any_of HT_.out (by kernel_rfl)) (fun _ _ _ h => h) (Or.inl ⟨by rfl, ?_⟩) ?_ ?_
                                rotate_left
                                · intro w'
                                  go_simp
                                  with_reducible rfl
                                rotate_left
                                · simp only [Act.put, List.setIfInBounds_toArray, List.set_cons_zero, List.set_cons_succ, i64_w, i32_w]
                                  rfl
                                refine pure_ (i := 12) (N := some 144) (v := ?_) (a' := ?_) #[true, false, true, true, true, true, false, false, false, true, false, true, true, false, false, false, false, false, false, false, false, false, false, false, false, false, false, false, false] rfl rfl (any_of HT_.out (by kernel_rfl)) (fun _ _ _ h => h) (Or.inl ⟨by rfl, ?_⟩) ?_ ?_
                                rotate_left
                                · intro w'
                                  go_simp
                                  with_reducible rfl
                                rotate_left
                                · simp only [Act.put, List.setIfInBounds_toArray, List.set_cons_zero, List.set_cons_succ, i64_w, i32_w]
                                  rfl
                                refine pure_ (i := 13) (N := some 145) (v := ?_) (a' := ?_) #[true, false, true, true, true, true, false, false, false, true, false, true, true, true, false, false, false, false, false, false, false, false, false, false, false, false, false, false, false] rfl rfl (any_of HT_.out (by kernel_rfl)) (fun _ _ _ h => h) (Or.inl ⟨by rfl, ?_⟩) ?_ ?_
                                rotate_left
                                · intro w'
                                  go_simp
                                  with_reducible rfl
                                rotate_left
                                · simp only [Act.put, List.setIfInBounds_toArray, List.set_cons_zero, List.set_cons_succ, i64_w, i32_w]
                                  rfl
                                refine pure_ (i := 14) (N := some 146) (v := ?_) (a' := ?_) #[true, false, true, true, true, true, false, false, false, true, false, true, true, true, true, false, false, false, false, false, false, false, false, false, false, false, false, false, false] rfl rfl (any_of HT_.out (by kernel_rfl)) (fun _ _ _ h => h) (Or.inl ⟨by rfl, ?_⟩) ?_ ?_
                                rotate_left
                                · intro w'
                                  go_simp
                                  with_reducible rfl
                                rotate_left
                                · simp only [Act.put, List.setIfInBounds_toArray, List.set_cons_zero, List.set_cons_succ, i64_w, i32_w]
                                  rfl
                                refine pure_ (i := 19) (N := some 151) (v := ?_) (a' := ?_) #[true, false, true, true, true, true, false, false, false, true, false, true, true, true, true, false, false, false, false, true, false, false, false, false, false, false, false, false, false] rfl rfl (any_of HT_.out (by kernel_rfl)) (fun _ _ _ h => h) (Or.inl ⟨by rfl, ?_⟩) ?_ ?_
                                rotate_left
                                · intro w'
                                  go_simp
                                  with_reducible rfl
                                rotate_left
                                · simp only [Act.put, List.setIfInBounds_toArray, List.set_cons_zero, List.set_cons_succ, i64_w, i32_w]
                                  rfl
                                refine pure_ (i := 20) (N := some 152) (v := ?_) (a' := ?_) #[true, false, true, true, true, true, false, false, false, true, false, true, true, true, true, false, false, false, false, true, true, false, false, false, false, false, false, false, false] rfl rfl (any_of HT_.out (by kernel_rfl)) (fun _ _ _ h => h) (Or.inl ⟨by rfl, ?_⟩) ?_ ?_
                                rotate_left
                                · intro w'
                                  go_simp
                                  with_reducible rfl
                                rotate_left
                                · simp only [Act.put, List.setIfInBounds_toArray, List.set_cons_zero, List.set_cons_succ, i64_w, i32_w]
                                  rfl
                                refine pure_ (i := 21) (N := some 153) (v := ?_) (a' := ?_) #[true, false, true, true, true, true, false, false, false, true, false, true, true, true, true, false, false, false, false, true, true, true, false, false, false, false, false, false, false] rfl rfl (any_of HT_.out (by kernel_rfl)) (fun _ _ _ h => h) (Or.inl ⟨by rfl, ?_⟩) ?_ ?_
                                rotate_left
                                · intro w'
                                  go_simp
                                  with_reducible rfl
                                rotate_left
                                · simp only [Act.put, List.setIfInBounds_toArray, List.set_cons_zero, List.set_cons_succ, i64_w, i32_w]
                                  rfl
                                refine take_ (i := 1) (N := some 133) (v := ?_) (a' := ?_) #[true, true, true, true, true, true, false, false, false, true, false, true, true, true, true, false, false, false, false, true, true, true, false, false, false, false, false, false, false] rfl rfl (take_ofW HT_.out HW_.out (by kernel_rfl)) (fun _ _ _ h => h) (Or.inl ⟨by rfl, ?_⟩) hHeld ?_ ?_
                                rotate_left
                                · rintro w' ⟨s0, s1, s2, s3⟩
                                  go_simp
                                  with_reducible rfl
                                rotate_left
                                · simp only [Act.put, List.setIfInBounds_toArray, List.set_cons_zero, List.set_cons_succ, i64_w, i32_w]
                                  rfl
                                refine take_ (i := 6) (N := some 138) (v := ?_) (a' := ?_) #[true, true, true, true, true, true, true, false, false, true, false, true, true, true, true, false, false, false, false, true, true, true, false, false, false, false, false, false, false] rfl rfl (take_ofW HT_.out HW_.out (by kernel_rfl)) (fun _ _ _ h => h) (Or.inl ⟨by rfl, ?_⟩) hHeld ?_ ?_
                                rotate_left
                                · rintro w' ⟨s0, s1, s2, s3⟩
                                  go_simp
                                  with_reducible rfl
                                rotate_left
                                · simp only [Act.put, List.setIfInBounds_toArray, List.set_cons_zero, List.set_cons_succ, i64_w, i32_w]
                                  rfl
                                refine pure_ (i := 7) (N := some 139) (v := ?_) (a' := ?_) #[true, true, true, true, true, true, true, true, false, true, false, true, true, true, true, false, false, false, false, true, true, true, false, false, false, false, false, false, false] rfl rfl (any_of HT_.out (by kernel_rfl)) (fun _ _ _ h => h) (Or.inl ⟨by rfl, ?_⟩) ?_ ?_
                                rotate_left
                                · intro w'
                                  go_simp
                                  with_reducible rfl
                                rotate_left
                                · simp only [Act.put, List.setIfInBounds_toArray, List.set_cons_zero, List.set_cons_succ, i64_w, i32_w]
                                  rfl
                                refine pure_ (i := 8) (N := some 140) (v := ?_) (a' := ?_) #[true, true, true, true, true, true, true, true, true, true, false, true, true, true, true, false, false, false, false, true, true, true, false, false, false, false, false, false, false] rfl rfl (any_of HT_.out (by kernel_rfl)) (fun _ _ _ h => h) (Or.inl ⟨by rfl, ?_⟩) ?_ ?_
                                rotate_left
                                · intro w'
                                  go_simp
                                  with_reducible rfl
                                rotate_left
                                · simp only [Act.put, List.setIfInBounds_toArray, List.set_cons_zero, List.set_cons_succ, i64_w, i32_w]
                                  rfl
                                refine take_ (i := 10) (N := some 142) (v := ?_) (a' := ?_) #[true, true, true, true, true, true, true, true, true, true, true, true, true, true, true, false, false, false, false, true, true, true, false, false, false, false, false, false, false] rfl rfl (take_ofW HT_.out HW_.out (by kernel_rfl)) (fun _ _ _ h => h) (Or.inl ⟨by rfl, ?_⟩) hHeld ?_ ?_
                                rotate_left
                                · rintro w' ⟨s0, s1, s2, s3⟩
                                  go_simp
                                  with_reducible rfl
                                rotate_left
                                · simp only [Act.put, List.setIfInBounds_toArray, List.set_cons_zero, List.set_cons_succ, i64_w, i32_w]
                                  rfl
                                refine take_ (i := 15) (N := some 147) (v := ?_) (a' := ?_) #[true, true, true, true, true, true, true, true, true, true, true, true, true, true, true, true, false, false, false, true, true, true, false, false, false, false, false, false, false] rfl rfl (take_ofW HT_.out HW_.out (by kernel_rfl)) (fun _ _ _ h => h) (Or.inl ⟨by rfl, ?_⟩) hHeld ?_ ?_
                                rotate_left
                                · rintro w' ⟨s0, s1, s2, s3⟩
                                  go_simp
                                  with_reducible rfl
                                rotate_left
                                · simp only [Act.put, List.setIfInBounds_toArray, List.set_cons_zero, List.set_cons_succ, i64_w, i32_w]
                                  rfl
                                refine pure_ (i := 16) (N := some 148) (v := ?_) (a' := ?_) #[true, true, true, true, true, true, true, true, true, true, true, true, true, true, true, true, true, false, false, true, true, true, false, false, false, false, false, false, false] rfl rfl (any_of HT_.out (by kernel_rfl)) (fun _ _ _ h => h) (Or.inl ⟨by rfl, ?_⟩) ?_ ?_
                                rotate_left
                                · intro w'
                                  go_simp
                                  with_reducible rfl
                                rotate_left
                                · simp only [Act.put, List.setIfInBounds_toArray, List.set_cons_zero, List.set_cons_succ, i64_w, i32_w]
                                  rfl
                                refine pure_ (i := 17) (N := some 149) (v := ?_) (a' := ?_) #[true, true, true, true, true, true, true, true, true, true, true, true, true, true, true, true, true, true, false, true, true, true, false, false, false, false, false, false, false] rfl rfl (any_of HT_.out (by kernel_rfl)) (fun _ _ _ h => h) (Or.inl ⟨by rfl, ?_⟩) ?_ ?_
                                rotate_left
                                · intro w'
                                  go_simp
                                  with_reducible rfl
                                rotate_left
                                · simp only [Act.put, List.setIfInBounds_toArray, List.set_cons_zero, List.set_cons_succ, i64_w, i32_w]
                                  rfl
                                refine pure_ (i := 18) (N := some 150) (v := ?_) (a' := ?_) #[true, true, true, true, true, true, true, true, true, true, true, true, true, true, true, true, true, true, true, true, true, true, false, false, false, false, false, false, false] rfl rfl (any_of HT_.out (by kernel_rfl)) (fun _ _ _ h => h) (Or.inl ⟨by rfl, ?_⟩) ?_ ?_
                                rotate_left
                                · intro w'
                                  go_simp
                                  with_reducible rfl
                                rotate_left
                                · simp only [Act.put, List.setIfInBounds_toArray, List.set_cons_zero, List.set_cons_succ, i64_w, i32_w]
                                  rfl
                                refine join_ (σ := Nat) 2 #[true, true, true, true, true, true, true, true, true, true, true, true, true, true, true, true, true, true, true, true, true, true, true, true, true, true, true, false, false] (fun s_ => [(154, .tuple #[.agg #[.int .i64 t189, .int .i64 t190], .int .i64 t191]), (26, .pointer (some ⟨s_, 0, none⟩)), (131, .tuple #[.agg #[.int .i64 t189, .int .i64 t190], .int .i64 t191]), (155, .agg #[.int .i64 t189, .int .i64 t190]), (156, .int .i64 t191)]) (fun s_ w' => (w'.cell? ⟨gb184, 0, none⟩ = some (.int .i64 t181) ∧ w'.cell? ⟨gb184, 1, none⟩ = some (.int .i64 t182) ∧ w'.cell? ⟨gb188, 0, none⟩ = some (.int .i64 t185) ∧ w'.cell? ⟨gb188, 1, none⟩ = some (.int .i64 t186)) ∧ (w'.heap[gb170]? = some (.cells #[.int .i64 x171000_14, .int .i64 x171001_14] 31 (0, 0))) ∧ (w'.heap[gb171]? = some (.cells #[.int .i64 x172000_14, .int .i64 x172001_14] 31 (0, 0))) ∧ (w'.heap[gb184]? = some (.cells #[.int .i64 t181, .int .i64 t182] 31 (0, 0))) ∧ (w'.heap[gb188]? = some (.cells #[.int .i64 t185, .int .i64 t186] 31 (0, 0))) ∧ (w'.heap[s_]? = some (.cells #[.int .i64 0, .int .i64 0] 31 (0, 0))) ∧ (w.heap.size ≤ s_) ∧ (w.heap.size ≤ s_) ∧ (gb170 ≠ s_) ∧ (s_ ≠ gb170) ∧ (gb171 ≠ s_) ∧ (s_ ≠ gb171) ∧ (gb184 ≠ s_) ∧ (s_ ≠ gb184) ∧ (gb188 ≠ s_) ∧ (s_ ≠ gb188) ∧ (Below w.heap.size w w')) ?_ ?_
                                rotate_left
                                · intro hCont
                                  refine two_ (i := 22) (j := 26) (Ni := some 154) (Nj := some 26) #[true, true, true, true, true, true, true, true, true, true, true, true, true, true, true, true, true, true, true, true, true, true, true, false, false, false, false, false, false] #[true, true, true, true, true, true, true, true, true, true, true, true, true, true, true, true, true, true, true, true, true, true, false, false, false, false, true, false, false] rfl rfl rfl rfl (two_of HT_.out (by kernel_rfl)) (by decide) (by decide) (fun K hK => ?_) (fun K hK => ?_)
                                  · skip
                                    refine goes_ Try.func22 (by kernel_rfl) rfl #[.int .i64 (wrap64 ((wrap64 (t181 * (wrap64 (Int.tdiv (ji69) t182)))) + (wrap64 (t185 * (wrap64 (Int.tdiv (ji69) t186)))))), .int .i64 ji69] (by rfl) rfl rfl (by (try simp only [List.map_toArray, List.map_cons, List.map_nil]); first | done | (simp only [hji69]; rfl) | rfl | (simp only [List.length_drop, List.length_take]; rfl)) ?_
                                    with_reducible refine (score_Reduce.calls (wrap64 ((wrap64 (t181 * (wrap64 (Int.tdiv (ji69) t182)))) + (wrap64 (t185 * (wrap64 (Int.tdiv (ji69) t186)))))) ji69 t189 t190 t191 _ A76.out).mono ?_
                                    rintro e w96 ⟨rfl, hb⟩
                                    refine ⟨_, rfl, ?_⟩
                                    have n0_ := Aside0.mk (blk_below (g := gb170) (o := .cells #[.int .i64 x171000_14, .int .i64 x171001_14] 31 (0, 0)) (by (with_reducible repeat (first | refine blk_drewN ?_ _ | refine blk_drew ?_ | refine blk_alloc ?_ _)); exact BK170.out) hb)
                                    have n1_ := Aside0.mk (blk_below (g := gb171) (o := .cells #[.int .i64 x172000_14, .int .i64 x172001_14] 31 (0, 0)) (by (with_reducible repeat (first | refine blk_drewN ?_ _ | refine blk_drew ?_ | refine blk_alloc ?_ _)); exact BK171.out) hb)
                                    have n2_ := Aside0.mk (blk_below (g := gb184) (o := .cells #[.int .i64 t181, .int .i64 t182] 31 (0, 0)) (by (with_reducible repeat (first | refine blk_drewN ?_ _ | refine blk_drew ?_ | refine blk_alloc ?_ _)); exact BK184.out) hb)
                                    have n3_ := Aside0.mk (blk_below (g := gb188) (o := .cells #[.int .i64 t185, .int .i64 t186] 31 (0, 0)) (by (with_reducible repeat (first | refine blk_drewN ?_ _ | refine blk_drew ?_ | refine blk_alloc ?_ _)); exact BK188.out) hb)
                                    have n4_ := Aside0.mk (below_step (by repeat (first | (with_reducible first | exact HB.out | apply below_alloc | apply pw_below_drewN | apply below_drew1 | refine below_set ?_ GE170.out | refine below_set ?_ GE171.out | refine below_set ?_ GE184.out | refine below_set ?_ GE188.out) | exact HB.out)) hb)
                                    clear BK170
                                    clear BK171
                                    clear BK184
                                    clear BK188
                                    clear HB
                                    have BK170 := n0_
                                    have BK171 := n1_
                                    have BK184 := n2_
                                    have BK188 := n3_
                                    have HB := n4_
                                    clear n0_ n1_ n2_ n3_ n4_
                                    (try clear hb)
                                    (try clear hb2)
                                    (try clear hk)
                                    (try clear hi)
                                    refine hK.out _ _ ⟨(blk_cell BK184.out 0).trans rfl, (blk_cell BK184.out 1).trans rfl, (blk_cell BK188.out 0).trans rfl, (blk_cell BK188.out 1).trans rfl⟩ (fun hHeld => ?_)
                                    clear hK K
                                    refine norm_ (a' := ?_) ?_ ?_
                                    rotate_left
                                    · show Act.put _ (some 154) _ = _
                                      simp only [Act.put, List.setIfInBounds_toArray, List.set_cons_zero, List.set_cons_succ, i64_w, i32_w]
                                      rfl
                                    refine pure_ (i := 23) (N := some 131) (v := ?_) (a' := ?_) #[true, true, true, true, true, true, true, true, true, true, true, true, true, true, true, true, true, true, true, true, true, true, true, true, false, false, false, false, false] rfl rfl (any_of HT_.out (by kernel_rfl)) (fun _ _ _ h => h) (Or.inl ⟨by rfl, ?_⟩) ?_ ?_
                                    rotate_left
                                    · intro w'
                                      go_simp
                                      with_reducible rfl
                                    rotate_left
                                    · simp only [Act.put, List.setIfInBounds_toArray, List.set_cons_zero, List.set_cons_succ, i64_w, i32_w]
                                      rfl
                                    refine pure_ (i := 24) (N := some 155) (v := ?_) (a' := ?_) #[true, true, true, true, true, true, true, true, true, true, true, true, true, true, true, true, true, true, true, true, true, true, true, true, true, false, false, false, false] rfl rfl (any_of HT_.out (by kernel_rfl)) (fun _ _ _ h => h) (Or.inl ⟨by rfl, ?_⟩) ?_ ?_
                                    rotate_left
                                    · intro w'
                                      go_simp
                                      with_reducible rfl
                                    rotate_left
                                    · simp only [Act.put, List.setIfInBounds_toArray, List.set_cons_zero, List.set_cons_succ, i64_w, i32_w]
                                      rfl
                                    refine pure_ (i := 25) (N := some 156) (v := ?_) (a' := ?_) #[true, true, true, true, true, true, true, true, true, true, true, true, true, true, true, true, true, true, true, true, true, true, true, true, true, true, false, false, false] rfl rfl (any_of HT_.out (by kernel_rfl)) (fun _ _ _ h => h) (Or.inl ⟨by rfl, ?_⟩) ?_ ?_
                                    rotate_left
                                    · intro w'
                                      go_simp
                                      with_reducible rfl
                                    rotate_left
                                    · simp only [Act.put, List.setIfInBounds_toArray, List.set_cons_zero, List.set_cons_succ, i64_w, i32_w]
                                      rfl
                                    refine one_ (i := 26) (N := some 26) #[true, true, true, true, true, true, true, true, true, true, true, true, true, true, true, true, true, true, true, true, true, true, true, true, true, true, true, false, false] rfl rfl (one_of HT_.out (by kernel_rfl)) (by decide) (fun K hK => ?_)
                                    refine box_step ?hg (N := 26) ?hd (cs := #[.int .i64 0, .int .i64 0]) (t := 31) ?hr ?_; (case hd => rfl); (case hg => rfl); (case hr => first | (go_simp; done) | (go_simp; rfl))
                                    intro gb192 hg w97 hbox hb
                                    have n0_ := Aside0.mk (blk_below (g := gb170) (o := .cells #[.int .i64 x171000_14, .int .i64 x171001_14] 31 (0, 0)) (by (with_reducible repeat (first | refine blk_drewN ?_ _ | refine blk_drew ?_ | refine blk_alloc ?_ _)); exact BK170.out) hb)
                                    have n1_ := Aside0.mk (blk_below (g := gb171) (o := .cells #[.int .i64 x172000_14, .int .i64 x172001_14] 31 (0, 0)) (by (with_reducible repeat (first | refine blk_drewN ?_ _ | refine blk_drew ?_ | refine blk_alloc ?_ _)); exact BK171.out) hb)
                                    have n2_ := Aside0.mk (blk_below (g := gb184) (o := .cells #[.int .i64 t181, .int .i64 t182] 31 (0, 0)) (by (with_reducible repeat (first | refine blk_drewN ?_ _ | refine blk_drew ?_ | refine blk_alloc ?_ _)); exact BK184.out) hb)
                                    have n3_ := Aside0.mk (blk_below (g := gb188) (o := .cells #[.int .i64 t185, .int .i64 t186] 31 (0, 0)) (by (with_reducible repeat (first | refine blk_drewN ?_ _ | refine blk_drew ?_ | refine blk_alloc ?_ _)); exact BK188.out) hb)
                                    have n4_ := Aside0.mk (below_step (by repeat (first | (with_reducible first | exact HB.out | apply below_alloc | apply pw_below_drewN | apply below_drew1 | refine below_set ?_ GE170.out | refine below_set ?_ GE171.out | refine below_set ?_ GE184.out | refine below_set ?_ GE188.out) | exact HB.out)) hb)
                                    have n5_ := Aside0.mk (hbox)
                                    have n6_ := Aside0.mk ((by rw [hg]; exact (below_size (by repeat (first | (with_reducible first | exact HB.out | apply below_alloc | apply pw_below_drewN | apply below_drew1 | refine below_set ?_ GE170.out | refine below_set ?_ GE171.out | refine below_set ?_ GE184.out | refine below_set ?_ GE188.out) | exact HB.out))) : w.heap.size ≤ gb192))
                                    have n7_ := Aside0.mk ((by rw [hg]; exact (below_size (by repeat (first | (with_reducible first | exact HB.out | apply below_alloc | apply pw_below_drewN | apply below_drew1 | refine below_set ?_ GE170.out | refine below_set ?_ GE171.out | refine below_set ?_ GE184.out | refine below_set ?_ GE188.out) | exact HB.out))) : w.heap.size ≤ gb192))
                                    have n8_ := Aside0.mk ((by rw [hg]; exact Nat.ne_of_lt (blk_lt (g := gb170) (o := .cells #[.int .i64 x171000_14, .int .i64 x171001_14] 31 (0, 0)) (by (with_reducible repeat (first | refine blk_drewN ?_ _ | refine blk_drew ?_ | refine blk_alloc ?_ _)); exact BK170.out)) : gb170 ≠ gb192))
                                    have n9_ := Aside0.mk ((by rw [hg]; exact Nat.ne_of_gt (blk_lt (g := gb170) (o := .cells #[.int .i64 x171000_14, .int .i64 x171001_14] 31 (0, 0)) (by (with_reducible repeat (first | refine blk_drewN ?_ _ | refine blk_drew ?_ | refine blk_alloc ?_ _)); exact BK170.out)) : gb192 ≠ gb170))
                                    have n10_ := Aside0.mk ((by rw [hg]; exact Nat.ne_of_lt (blk_lt (g := gb171) (o := .cells #[.int .i64 x172000_14, .int .i64 x172001_14] 31 (0, 0)) (by (with_reducible repeat (first | refine blk_drewN ?_ _ | refine blk_drew ?_ | refine blk_alloc ?_ _)); exact BK171.out)) : gb171 ≠ gb192))
                                    have n11_ := Aside0.mk ((by rw [hg]; exact Nat.ne_of_gt (blk_lt (g := gb171) (o := .cells #[.int .i64 x172000_14, .int .i64 x172001_14] 31 (0, 0)) (by (with_reducible repeat (first | refine blk_drewN ?_ _ | refine blk_drew ?_ | refine blk_alloc ?_ _)); exact BK171.out)) : gb192 ≠ gb171))
                                    have n12_ := Aside0.mk ((by rw [hg]; exact Nat.ne_of_lt (blk_lt (g := gb184) (o := .cells #[.int .i64 t181, .int .i64 t182] 31 (0, 0)) (by (with_reducible repeat (first | refine blk_drewN ?_ _ | refine blk_drew ?_ | refine blk_alloc ?_ _)); exact BK184.out)) : gb184 ≠ gb192))
                                    have n13_ := Aside0.mk ((by rw [hg]; exact Nat.ne_of_gt (blk_lt (g := gb184) (o := .cells #[.int .i64 t181, .int .i64 t182] 31 (0, 0)) (by (with_reducible repeat (first | refine blk_drewN ?_ _ | refine blk_drew ?_ | refine blk_alloc ?_ _)); exact BK184.out)) : gb192 ≠ gb184))
                                    have n14_ := Aside0.mk ((by rw [hg]; exact Nat.ne_of_lt (blk_lt (g := gb188) (o := .cells #[.int .i64 t185, .int .i64 t186] 31 (0, 0)) (by (with_reducible repeat (first | refine blk_drewN ?_ _ | refine blk_drew ?_ | refine blk_alloc ?_ _)); exact BK188.out)) : gb188 ≠ gb192))
                                    have n15_ := Aside0.mk ((by rw [hg]; exact Nat.ne_of_gt (blk_lt (g := gb188) (o := .cells #[.int .i64 t185, .int .i64 t186] 31 (0, 0)) (by (with_reducible repeat (first | refine blk_drewN ?_ _ | refine blk_drew ?_ | refine blk_alloc ?_ _)); exact BK188.out)) : gb192 ≠ gb188))
                                    clear BK170
                                    clear BK171
                                    clear BK184
                                    clear BK188
                                    clear HB
                                    have BK170 := n0_
                                    have BK171 := n1_
                                    have BK184 := n2_
                                    have BK188 := n3_
                                    have HB := n4_
                                    have BK192 := n5_
                                    have GW192 := n6_
                                    have GE192 := n7_
                                    have NB170_192 := n8_
                                    have NB192_170 := n9_
                                    have NB171_192 := n10_
                                    have NB192_171 := n11_
                                    have NB184_192 := n12_
                                    have NB192_184 := n13_
                                    have NB188_192 := n14_
                                    have NB192_188 := n15_
                                    clear n0_ n1_ n2_ n3_ n4_ n5_ n6_ n7_ n8_ n9_ n10_ n11_ n12_ n13_ n14_ n15_
                                    clear hb hbox hg
                                    refine hK.out _ _ ⟨(blk_cell BK184.out 0).trans rfl, (blk_cell BK184.out 1).trans rfl, (blk_cell BK188.out 0).trans rfl, (blk_cell BK188.out 1).trans rfl⟩ (fun hHeld => ?_)
                                    clear hK K
                                    refine norm_ (a' := ?_) ?_ ?_
                                    rotate_left
                                    · show Act.put _ (some 26) _ = _
                                      simp only [Act.put, List.setIfInBounds_toArray, List.set_cons_zero, List.set_cons_succ, i64_w, i32_w]
                                      rfl
                                    exact norm_ (by simp only [putAll, Act.put, List.setIfInBounds_toArray, List.set_cons_zero, List.set_cons_succ]) (hCont (gb192) _ ⟨hHeld, (by (with_reducible repeat (first | refine blk_drewN ?_ _ | refine blk_drew ?_ | refine blk_alloc ?_ _)); exact BK170.out), (by (with_reducible repeat (first | refine blk_drewN ?_ _ | refine blk_drew ?_ | refine blk_alloc ?_ _)); exact BK171.out), (by (with_reducible repeat (first | refine blk_drewN ?_ _ | refine blk_drew ?_ | refine blk_alloc ?_ _)); exact BK184.out), (by (with_reducible repeat (first | refine blk_drewN ?_ _ | refine blk_drew ?_ | refine blk_alloc ?_ _)); exact BK188.out), (by (with_reducible repeat (first | refine blk_drewN ?_ _ | refine blk_drew ?_ | refine blk_alloc ?_ _)); exact BK192.out), GW192.out, GE192.out, NB170_192.out, NB192_170.out, NB171_192.out, NB192_171.out, NB184_192.out, NB192_184.out, NB188_192.out, NB192_188.out, (by repeat (first | (with_reducible first | exact HB.out | apply below_alloc | apply pw_below_drewN | apply below_drew1 | refine below_set ?_ GE170.out | refine below_set ?_ GE171.out | refine below_set ?_ GE184.out | refine below_set ?_ GE188.out | refine below_set ?_ GE192.out) | exact HB.out))⟩)
                                  · skip
                                    refine box_step ?hg (N := 26) ?hd (cs := #[.int .i64 0, .int .i64 0]) (t := 31) ?hr ?_; (case hd => rfl); (case hg => rfl); (case hr => first | (go_simp; done) | (go_simp; rfl))
                                    intro gb192 hg w96 hbox hb
                                    have n0_ := Aside0.mk (blk_below (g := gb170) (o := .cells #[.int .i64 x171000_14, .int .i64 x171001_14] 31 (0, 0)) (by (with_reducible repeat (first | refine blk_drewN ?_ _ | refine blk_drew ?_ | refine blk_alloc ?_ _)); exact BK170.out) hb)
                                    have n1_ := Aside0.mk (blk_below (g := gb171) (o := .cells #[.int .i64 x172000_14, .int .i64 x172001_14] 31 (0, 0)) (by (with_reducible repeat (first | refine blk_drewN ?_ _ | refine blk_drew ?_ | refine blk_alloc ?_ _)); exact BK171.out) hb)
                                    have n2_ := Aside0.mk (blk_below (g := gb184) (o := .cells #[.int .i64 t181, .int .i64 t182] 31 (0, 0)) (by (with_reducible repeat (first | refine blk_drewN ?_ _ | refine blk_drew ?_ | refine blk_alloc ?_ _)); exact BK184.out) hb)
                                    have n3_ := Aside0.mk (blk_below (g := gb188) (o := .cells #[.int .i64 t185, .int .i64 t186] 31 (0, 0)) (by (with_reducible repeat (first | refine blk_drewN ?_ _ | refine blk_drew ?_ | refine blk_alloc ?_ _)); exact BK188.out) hb)
                                    have n4_ := Aside0.mk (below_step (by repeat (first | (with_reducible first | exact HB.out | apply below_alloc | apply pw_below_drewN | apply below_drew1 | refine below_set ?_ GE170.out | refine below_set ?_ GE171.out | refine below_set ?_ GE184.out | refine below_set ?_ GE188.out) | exact HB.out)) hb)
                                    have n5_ := Aside0.mk (hbox)
                                    have n6_ := Aside0.mk ((by rw [hg]; exact (below_size (by repeat (first | (with_reducible first | exact HB.out | apply below_alloc | apply pw_below_drewN | apply below_drew1 | refine below_set ?_ GE170.out | refine below_set ?_ GE171.out | refine below_set ?_ GE184.out | refine below_set ?_ GE188.out) | exact HB.out))) : w.heap.size ≤ gb192))
                                    have n7_ := Aside0.mk ((by rw [hg]; exact (below_size (by repeat (first | (with_reducible first | exact HB.out | apply below_alloc | apply pw_below_drewN | apply below_drew1 | refine below_set ?_ GE170.out | refine below_set ?_ GE171.out | refine below_set ?_ GE184.out | refine below_set ?_ GE188.out) | exact HB.out))) : w.heap.size ≤ gb192))
                                    have n8_ := Aside0.mk ((by rw [hg]; exact Nat.ne_of_lt (blk_lt (g := gb170) (o := .cells #[.int .i64 x171000_14, .int .i64 x171001_14] 31 (0, 0)) (by (with_reducible repeat (first | refine blk_drewN ?_ _ | refine blk_drew ?_ | refine blk_alloc ?_ _)); exact BK170.out)) : gb170 ≠ gb192))
                                    have n9_ := Aside0.mk ((by rw [hg]; exact Nat.ne_of_gt (blk_lt (g := gb170) (o := .cells #[.int .i64 x171000_14, .int .i64 x171001_14] 31 (0, 0)) (by (with_reducible repeat (first | refine blk_drewN ?_ _ | refine blk_drew ?_ | refine blk_alloc ?_ _)); exact BK170.out)) : gb192 ≠ gb170))
                                    have n10_ := Aside0.mk ((by rw [hg]; exact Nat.ne_of_lt (blk_lt (g := gb171) (o := .cells #[.int .i64 x172000_14, .int .i64 x172001_14] 31 (0, 0)) (by (with_reducible repeat (first | refine blk_drewN ?_ _ | refine blk_drew ?_ | refine blk_alloc ?_ _)); exact BK171.out)) : gb171 ≠ gb192))
                                    have n11_ := Aside0.mk ((by rw [hg]; exact Nat.ne_of_gt (blk_lt (g := gb171) (o := .cells #[.int .i64 x172000_14, .int .i64 x172001_14] 31 (0, 0)) (by (with_reducible repeat (first | refine blk_drewN ?_ _ | refine blk_drew ?_ | refine blk_alloc ?_ _)); exact BK171.out)) : gb192 ≠ gb171))
                                    have n12_ := Aside0.mk ((by rw [hg]; exact Nat.ne_of_lt (blk_lt (g := gb184) (o := .cells #[.int .i64 t181, .int .i64 t182] 31 (0, 0)) (by (with_reducible repeat (first | refine blk_drewN ?_ _ | refine blk_drew ?_ | refine blk_alloc ?_ _)); exact BK184.out)) : gb184 ≠ gb192))
                                    have n13_ := Aside0.mk ((by rw [hg]; exact Nat.ne_of_gt (blk_lt (g := gb184) (o := .cells #[.int .i64 t181, .int .i64 t182] 31 (0, 0)) (by (with_reducible repeat (first | refine blk_drewN ?_ _ | refine blk_drew ?_ | refine blk_alloc ?_ _)); exact BK184.out)) : gb192 ≠ gb184))
                                    have n14_ := Aside0.mk ((by rw [hg]; exact Nat.ne_of_lt (blk_lt (g := gb188) (o := .cells #[.int .i64 t185, .int .i64 t186] 31 (0, 0)) (by (with_reducible repeat (first | refine blk_drewN ?_ _ | refine blk_drew ?_ | refine blk_alloc ?_ _)); exact BK188.out)) : gb188 ≠ gb192))
                                    have n15_ := Aside0.mk ((by rw [hg]; exact Nat.ne_of_gt (blk_lt (g := gb188) (o := .cells #[.int .i64 t185, .int .i64 t186] 31 (0, 0)) (by (with_reducible repeat (first | refine blk_drewN ?_ _ | refine blk_drew ?_ | refine blk_alloc ?_ _)); exact BK188.out)) : gb192 ≠ gb188))
                                    clear BK170
                                    clear BK171
                                    clear BK184
                                    clear BK188
                                    clear HB
                                    have BK170 := n0_
                                    have BK171 := n1_
                                    have BK184 := n2_
                                    have BK188 := n3_
                                    have HB := n4_
                                    have BK192 := n5_
                                    have GW192 := n6_
                                    have GE192 := n7_
                                    have NB170_192 := n8_
                                    have NB192_170 := n9_
                                    have NB171_192 := n10_
                                    have NB192_171 := n11_
                                    have NB184_192 := n12_
                                    have NB192_184 := n13_
                                    have NB188_192 := n14_
                                    have NB192_188 := n15_
                                    clear n0_ n1_ n2_ n3_ n4_ n5_ n6_ n7_ n8_ n9_ n10_ n11_ n12_ n13_ n14_ n15_
                                    clear hb hbox hg
                                    refine hK.out _ _ ⟨(blk_cell BK184.out 0).trans rfl, (blk_cell BK184.out 1).trans rfl, (blk_cell BK188.out 0).trans rfl, (blk_cell BK188.out 1).trans rfl⟩ (fun hHeld => ?_)
                                    clear hK K
                                    refine norm_ (a' := ?_) ?_ ?_
                                    rotate_left
                                    · show Act.put _ (some 26) _ = _
                                      simp only [Act.put, List.setIfInBounds_toArray, List.set_cons_zero, List.set_cons_succ, i64_w, i32_w]
                                      rfl
                                    refine one_ (i := 22) (N := some 154) #[true, true, true, true, true, true, true, true, true, true, true, true, true, true, true, true, true, true, true, true, true, true, true, false, false, false, true, false, false] rfl rfl (one_of HT_.out (by kernel_rfl)) (by decide) (fun K hK => ?_)
                                    refine goes_ Try.func22 (by kernel_rfl) rfl #[.int .i64 (wrap64 ((wrap64 (t181 * (wrap64 (Int.tdiv (ji69) t182)))) + (wrap64 (t185 * (wrap64 (Int.tdiv (ji69) t186)))))), .int .i64 ji69] (by rfl) rfl rfl (by (try simp only [List.map_toArray, List.map_cons, List.map_nil]); first | done | (simp only [hji69]; rfl) | rfl | (simp only [List.length_drop, List.length_take]; rfl)) ?_
                                    with_reducible refine (score_Reduce.calls (wrap64 ((wrap64 (t181 * (wrap64 (Int.tdiv (ji69) t182)))) + (wrap64 (t185 * (wrap64 (Int.tdiv (ji69) t186)))))) ji69 t189 t190 t191 _ A76.out).mono ?_
                                    rintro e w97 ⟨rfl, hb⟩
                                    refine ⟨_, rfl, ?_⟩
                                    have n0_ := Aside0.mk (blk_below (g := gb170) (o := .cells #[.int .i64 x171000_14, .int .i64 x171001_14] 31 (0, 0)) (by (with_reducible repeat (first | refine blk_drewN ?_ _ | refine blk_drew ?_ | refine blk_alloc ?_ _)); exact BK170.out) hb)
                                    have n1_ := Aside0.mk (blk_below (g := gb171) (o := .cells #[.int .i64 x172000_14, .int .i64 x172001_14] 31 (0, 0)) (by (with_reducible repeat (first | refine blk_drewN ?_ _ | refine blk_drew ?_ | refine blk_alloc ?_ _)); exact BK171.out) hb)
                                    have n2_ := Aside0.mk (blk_below (g := gb184) (o := .cells #[.int .i64 t181, .int .i64 t182] 31 (0, 0)) (by (with_reducible repeat (first | refine blk_drewN ?_ _ | refine blk_drew ?_ | refine blk_alloc ?_ _)); exact BK184.out) hb)
                                    have n3_ := Aside0.mk (blk_below (g := gb188) (o := .cells #[.int .i64 t185, .int .i64 t186] 31 (0, 0)) (by (with_reducible repeat (first | refine blk_drewN ?_ _ | refine blk_drew ?_ | refine blk_alloc ?_ _)); exact BK188.out) hb)
                                    have n4_ := Aside0.mk (blk_below (g := gb192) (o := .cells #[.int .i64 0, .int .i64 0] 31 (0, 0)) (by (with_reducible repeat (first | refine blk_drewN ?_ _ | refine blk_drew ?_ | refine blk_alloc ?_ _)); exact BK192.out) hb)
                                    have n5_ := Aside0.mk (below_step (by repeat (first | (with_reducible first | exact HB.out | apply below_alloc | apply pw_below_drewN | apply below_drew1 | refine below_set ?_ GE170.out | refine below_set ?_ GE171.out | refine below_set ?_ GE184.out | refine below_set ?_ GE188.out | refine below_set ?_ GE192.out) | exact HB.out)) hb)
                                    clear BK170
                                    clear BK171
                                    clear BK184
                                    clear BK188
                                    clear BK192
                                    clear HB
                                    have BK170 := n0_
                                    have BK171 := n1_
                                    have BK184 := n2_
                                    have BK188 := n3_
                                    have BK192 := n4_
                                    have HB := n5_
                                    clear n0_ n1_ n2_ n3_ n4_ n5_
                                    (try clear hb)
                                    (try clear hb2)
                                    (try clear hk)
                                    (try clear hi)
                                    refine hK.out _ _ ⟨(blk_cell BK184.out 0).trans rfl, (blk_cell BK184.out 1).trans rfl, (blk_cell BK188.out 0).trans rfl, (blk_cell BK188.out 1).trans rfl⟩ (fun hHeld => ?_)
                                    clear hK K
                                    refine norm_ (a' := ?_) ?_ ?_
                                    rotate_left
                                    · show Act.put _ (some 154) _ = _
                                      simp only [Act.put, List.setIfInBounds_toArray, List.set_cons_zero, List.set_cons_succ, i64_w, i32_w]
                                      rfl
                                    refine pure_ (i := 23) (N := some 131) (v := ?_) (a' := ?_) #[true, true, true, true, true, true, true, true, true, true, true, true, true, true, true, true, true, true, true, true, true, true, true, true, false, false, true, false, false] rfl rfl (any_of HT_.out (by kernel_rfl)) (fun _ _ _ h => h) (Or.inl ⟨by rfl, ?_⟩) ?_ ?_
                                    rotate_left
                                    · intro w'
                                      go_simp
                                      with_reducible rfl
                                    rotate_left
                                    · simp only [Act.put, List.setIfInBounds_toArray, List.set_cons_zero, List.set_cons_succ, i64_w, i32_w]
                                      rfl
                                    refine pure_ (i := 24) (N := some 155) (v := ?_) (a' := ?_) #[true, true, true, true, true, true, true, true, true, true, true, true, true, true, true, true, true, true, true, true, true, true, true, true, true, false, true, false, false] rfl rfl (any_of HT_.out (by kernel_rfl)) (fun _ _ _ h => h) (Or.inl ⟨by rfl, ?_⟩) ?_ ?_
                                    rotate_left
                                    · intro w'
                                      go_simp
                                      with_reducible rfl
                                    rotate_left
                                    · simp only [Act.put, List.setIfInBounds_toArray, List.set_cons_zero, List.set_cons_succ, i64_w, i32_w]
                                      rfl
                                    refine pure_ (i := 25) (N := some 156) (v := ?_) (a' := ?_) #[true, true, true, true, true, true, true, true, true, true, true, true, true, true, true, true, true, true, true, true, true, true, true, true, true, true, true, false, false] rfl rfl (any_of HT_.out (by kernel_rfl)) (fun _ _ _ h => h) (Or.inl ⟨by rfl, ?_⟩) ?_ ?_
                                    rotate_left
                                    · intro w'
                                      go_simp
                                      with_reducible rfl
                                    rotate_left
                                    · simp only [Act.put, List.setIfInBounds_toArray, List.set_cons_zero, List.set_cons_succ, i64_w, i32_w]
                                      rfl
                                    exact norm_ (by simp only [putAll, Act.put, List.setIfInBounds_toArray, List.set_cons_zero, List.set_cons_succ]) (hCont (gb192) _ ⟨hHeld, (by (with_reducible repeat (first | refine blk_drewN ?_ _ | refine blk_drew ?_ | refine blk_alloc ?_ _)); exact BK170.out), (by (with_reducible repeat (first | refine blk_drewN ?_ _ | refine blk_drew ?_ | refine blk_alloc ?_ _)); exact BK171.out), (by (with_reducible repeat (first | refine blk_drewN ?_ _ | refine blk_drew ?_ | refine blk_alloc ?_ _)); exact BK184.out), (by (with_reducible repeat (first | refine blk_drewN ?_ _ | refine blk_drew ?_ | refine blk_alloc ?_ _)); exact BK188.out), (by (with_reducible repeat (first | refine blk_drewN ?_ _ | refine blk_drew ?_ | refine blk_alloc ?_ _)); exact BK192.out), GW192.out, GE192.out, NB170_192.out, NB192_170.out, NB171_192.out, NB192_171.out, NB184_192.out, NB192_184.out, NB188_192.out, NB192_188.out, (by repeat (first | (with_reducible first | exact HB.out | apply below_alloc | apply pw_below_drewN | apply below_drew1 | refine below_set ?_ GE170.out | refine below_set ?_ GE171.out | refine below_set ?_ GE184.out | refine below_set ?_ GE188.out | refine below_set ?_ GE192.out) | exact HB.out))⟩)
                                rintro gb192 w98 ⟨hS_, h0_, h1_, h2_, h3_, h4_, h5_, h6_, h7_, h8_, h9_, h10_, h11_, h12_, h13_, h14_, h15_⟩
                                have n0_ : Aside0 (w98.heap[gb170]? = some (.cells #[.int .i64 x171000_14, .int .i64 x171001_14] 31 (0, 0))) := ⟨h0_⟩
                                have n1_ : Aside0 (w98.heap[gb171]? = some (.cells #[.int .i64 x172000_14, .int .i64 x172001_14] 31 (0, 0))) := ⟨h1_⟩
                                have n2_ : Aside0 (w98.heap[gb184]? = some (.cells #[.int .i64 t181, .int .i64 t182] 31 (0, 0))) := ⟨h2_⟩
                                have n3_ : Aside0 (w98.heap[gb188]? = some (.cells #[.int .i64 t185, .int .i64 t186] 31 (0, 0))) := ⟨h3_⟩
                                have n4_ : Aside0 (w98.heap[gb192]? = some (.cells #[.int .i64 0, .int .i64 0] 31 (0, 0))) := ⟨h4_⟩
                                have n5_ : Aside0 (w.heap.size ≤ gb192) := ⟨h5_⟩
                                have n6_ : Aside0 (w.heap.size ≤ gb192) := ⟨h6_⟩
                                have n7_ : Aside0 (gb170 ≠ gb192) := ⟨h7_⟩
                                have n8_ : Aside0 (gb192 ≠ gb170) := ⟨h8_⟩
                                have n9_ : Aside0 (gb171 ≠ gb192) := ⟨h9_⟩
                                have n10_ : Aside0 (gb192 ≠ gb171) := ⟨h10_⟩
                                have n11_ : Aside0 (gb184 ≠ gb192) := ⟨h11_⟩
                                have n12_ : Aside0 (gb192 ≠ gb184) := ⟨h12_⟩
                                have n13_ : Aside0 (gb188 ≠ gb192) := ⟨h13_⟩
                                have n14_ : Aside0 (gb192 ≠ gb188) := ⟨h14_⟩
                                have n15_ : Aside0 (Below w.heap.size w w98) := ⟨h15_⟩
                                clear BK170
                                clear BK171
                                clear BK184
                                clear BK188
                                clear HB
                                clear h0_ h1_ h2_ h3_ h4_ h5_ h6_ h7_ h8_ h9_ h10_ h11_ h12_ h13_ h14_ h15_
                                have BK170 := n0_
                                have BK171 := n1_
                                have BK184 := n2_
                                have BK188 := n3_
                                have BK192 := n4_
                                have GW192 := n5_
                                have GE192 := n6_
                                have NB170_192 := n7_
                                have NB192_170 := n8_
                                have NB171_192 := n9_
                                have NB192_171 := n10_
                                have NB184_192 := n11_
                                have NB192_184 := n12_
                                have NB188_192 := n13_
                                have NB192_188 := n14_
                                have HB := n15_
                                clear n0_ n1_ n2_ n3_ n4_ n5_ n6_ n7_ n8_ n9_ n10_ n11_ n12_ n13_ n14_ n15_
                                have hHeld : w98.cell? ⟨gb184, 0, none⟩ = some (.int .i64 t181) ∧ w98.cell? ⟨gb184, 1, none⟩ = some (.int .i64 t182) ∧ w98.cell? ⟨gb188, 0, none⟩ = some (.int .i64 t185) ∧ w98.cell? ⟨gb188, 1, none⟩ = some (.int .i64 t186) := hS_
                                refine norm_ (a' := ?_) ?_ ?_
                                rotate_left
                                · simp only [putAll, Act.put, List.setIfInBounds_toArray, List.set_cons_zero, List.set_cons_succ]
                                  rfl
                                refine one_ (i := 27) (N := none) #[true, true, true, true, true, true, true, true, true, true, true, true, true, true, true, true, true, true, true, true, true, true, true, true, true, true, true, true, false] rfl rfl (one_of HT_.out (by kernel_rfl)) (by decide) (fun K hK => ?_)
                                have hs99 : w98.cell? ⟨gb192, 0, none⟩ = some (.int .i64 0) := (blk_cell BK192.out 0).trans rfl
                                have hfs99 := blk_frozen BK192.out 0
                                have hns99_0 := NB170_192.out
                                have hns99_1 := NB171_192.out
                                have hns99_2 := NB184_192.out
                                have hns99_3 := NB188_192.out
                                have hms99_0 := NB192_170.out
                                have hms99_1 := NB192_171.out
                                have hms99_2 := NB192_184.out
                                have hms99_3 := NB192_188.out
                                have hs100 : w98.cell? ⟨gb192, 1, none⟩ = some (.int .i64 0) := (blk_cell BK192.out 1).trans rfl
                                have hfs100 := blk_frozen BK192.out 1
                                have hns100_0 := NB170_192.out
                                have hns100_1 := NB171_192.out
                                have hns100_2 := NB184_192.out
                                have hns100_3 := NB188_192.out
                                have hms100_0 := NB192_170.out
                                have hms100_1 := NB192_171.out
                                have hms100_2 := NB192_184.out
                                have hms100_3 := NB192_188.out
                                refine skip_ (w1 := ?_) (by rfl) rfl ?_ ?_
                                rotate_left
                                · go_simp
                                  rfl
                                refine hK.out _ _ ⟨((cell_far (p := ⟨gb192, _, none⟩) NB184_192.out _).trans (((cell_far (p := ⟨gb192, _, none⟩) NB184_192.out _).trans (hHeld.1)))), ((cell_far (p := ⟨gb192, _, none⟩) NB184_192.out _).trans (((cell_far (p := ⟨gb192, _, none⟩) NB184_192.out _).trans (hHeld.2.1)))), ((cell_far (p := ⟨gb192, _, none⟩) NB188_192.out _).trans (((cell_far (p := ⟨gb192, _, none⟩) NB188_192.out _).trans (hHeld.2.2.1)))), ((cell_far (p := ⟨gb192, _, none⟩) NB188_192.out _).trans (((cell_far (p := ⟨gb192, _, none⟩) NB188_192.out _).trans (hHeld.2.2.2))))⟩ (fun hHeld => ?_)
                                clear hK K
                                refine pure_ (i := 28) (N := some 27) (v := ?_) (a' := ?_) #[true, true, true, true, true, true, true, true, true, true, true, true, true, true, true, true, true, true, true, true, true, true, true, true, true, true, true, true, true] rfl rfl (any_of HT_.out (by kernel_rfl)) (fun _ _ _ h => h) (Or.inl ⟨by rfl, ?_⟩) ?_ ?_
                                rotate_left
                                · intro w'
                                  go_simp
                                  with_reducible rfl
                                rotate_left
                                · simp only [Act.put, List.setIfInBounds_toArray, List.set_cons_zero, List.set_cons_succ, i64_w, i32_w]
                                  rfl
                                refine done_ (done_of HT_.out (by kernel_rfl)) ?_
                                have hnb101 := NB192_170.out
                                have hnc101 := NB170_192.out
                                have hnb102 := NB192_171.out
                                have hnc102 := NB171_192.out
                                have hnb103 := NB192_184.out
                                have hnc103 := NB184_192.out
                                have hnb104 := NB192_188.out
                                have hnc104 := NB188_192.out
                                have hcz105_0 : w98.cell? ⟨gb192, 0, none⟩ = some (.int .i64 0) := (blk_cell BK192.out 0).trans rfl
                                have hcz105_1 : w98.cell? ⟨gb192, 1, none⟩ = some (.int .i64 0) := (blk_cell BK192.out 1).trans rfl
                                have hfz105_0 := blk_frozen BK192.out 0
                                have hfz105_1 := blk_frozen BK192.out 1
                                try go_wp2
                                go_ret
                                exact ⟨by first | rfl | (simp [errW_none, errW_some] <;> rfl) | (simp only [← hji10, ← hji12, ← hji67, ← hji69]; first | rfl | (simp [errW_none, errW_some] <;> rfl)) | (simp [*, errW_none, errW_some] <;> rfl), by repeat (first | (with_reducible first | exact HB.out | apply below_alloc | apply pw_below_drewN | apply below_drew1 | refine below_set ?_ GE170.out | refine below_set ?_ GE171.out | refine below_set ?_ GE184.out | refine below_set ?_ GE188.out | refine below_set ?_ GE192.out) | exact HB.out)⟩
                              · rw [if_neg c79] at H
                                exact absurd H (by simp)
                            · rw [if_neg c78] at H
                              exact absurd H (by simp)
                          · rw [if_neg c77] at H
                            exact absurd H (by simp)
                    · rw [if_neg c68] at H
                      exact absurd H (by simp)
  · replace c7 := Bool.eq_false_iff.mpr c7
    subst c7
    have H1 : (none) = some r := by rw [if_neg (show ¬ (false = true) by decide)] at H; exact H
    clear H
    have H := H1
    clear H1
    exact absurd H (by simp)

/-- THE ONE PURE STATEMENT of synopticlaw39_SamplingIntervals: yours. -/
def synopticlaw39_SamplingIntervals.Pure : Prop := ∀ (l0 : List Int) (a1 : Int) (a2 : Int) (a3 : Int) (a4 : Int), l0.length ≤ maxLen → l0.length * 1 ≤ 140737488351232 → (∀ x ∈ l0, (Lit.int .u8 x).wf = true) → (Lit.int .u8 a1).wf = true → (Lit.int .u8 a2).wf = true → (Lit.int .u8 a3).wf = true → (Lit.int .u8 a4).wf = true → ∃ k, synopticlaw39_SamplingIntervals.f k l0 a1 a2 a3 a4 = some true
theorem synopticlaw39_SamplingIntervals.walk (P : synopticlaw39_SamplingIntervals.Pure) (a0 : Option Addr) (len0 cap0 : Nat) (z0 : List Int) (a1 : Int) (a2 : Int) (a3 : Int) (a4 : Int) (w : World) (w0 : (a0 = none ∧ len0 = 0 ∧ cap0 = 0 ∧ z0 = []) ∨ ∃ x, a0 = some x ∧ len0 ≤ cap0 ∧ cap0 ≤ maxLen ∧ z0.length = cap0 ∧ (∀ i, i < z0.length → w.cell? (x.add i) = some (.int .u8 (z0.getD i 0))) ∧ ∀ n ∈ z0, (Lit.int .u8 n).wf = true) (y0 : len0 * 1 ≤ 140737488351232) (w1 : (Lit.int .u8 a1).wf = true) (w2 : (Lit.int .u8 a2).wf = true) (w3 : (Lit.int .u8 a3).wf = true) (w4 : (Lit.int .u8 a4).wf = true) :
    Calls Try.prog 7 #[.slice a0 len0 cap0, .int .u8 a1, .int .u8 a2, .int .u8 a3, .int .u8 a4] w fun e w' => e = .returned (.bool true) ∧ Below w.heap.size w w' := by
  obtain ⟨l0, rfl, hr0, hm0, hw0, hc0⟩ := ReadsInt.ofRowC w0
  obtain ⟨k, h⟩ := P l0 a1 a2 a3 a4 hm0 y0 hw0 w1 w2 w3 w4
  refine (synopticlaw39_SamplingIntervals.calls k _ _ l0 a1 a2 a3 a4 true w (Kd.C_of_reads (d := (0 : Int)) (h1 := fun _ => rfl) hr0) hc0 h).mono ?_
  rintro e w' ⟨rfl, hd⟩
  exact ⟨rfl, hd⟩

end Go.Proofs.Ytcgjgpdandjicaa.B
