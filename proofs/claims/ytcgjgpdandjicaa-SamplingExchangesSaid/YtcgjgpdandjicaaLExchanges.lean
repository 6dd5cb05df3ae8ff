/- Made by our program mkbase.py out of the printed functions of this seat: LExchanges. -/
import Derived.Test.YtcgjgpdandjicaaB1
import Derived.Test.YtcgjgpdandjicaaBC
import Derived.Test.YtcgjgpdandjicaaBW
import Derived.Test.YtcgjgpdandjicaaCmp
import Derived.Test.YtcgjgpdandjicaaExch
namespace Go.Proofs.Ytcgjgpdandjicaa.B
open Go.RowKit Go.Proofs.YtcgjgpdandjicaaW.PrintWords Go.Proofs.YtcgjgpdandjicaaW.PrintLast Go.Proofs.YtcgjgpdandjicaaW.PrintMore
attribute [local go_sem] max2_int min2_int max_two min_two max_three min_three max_four min_four   -- for this text's walks alone
set_option linter.unusedVariables false
set_option linter.unusedSimpArgs false

attribute [local go_sem high] eqA31 eqA90
/-! ### synopticlaw39_SamplingExchanges: function 6 -/
mutual
def synopticlaw39_SamplingExchanges.l0 : Nat → List Int → Int → List (S31) → Int → Option (Bool)
  | 0, _, _, _, _ => none
  | k + 1, x5, x6, x7, x8 => if 0 ≤ (IntKind.u64.wrap ((x5.length : Int))) then (if x8 < (shl .i64 1 (IntKind.u64.wrap ((x5.length : Int)))) then (synopticlaw39_SamplingExchanges.l1 k x5 x6 x7 x8 ([] : List Int) ([] : List Int) (x5.length : Int) 0) else (synopticlaw39_SamplingExchanges.l2 k x7 x7 (x7.length : Int) 0)) else (none)
def synopticlaw39_SamplingExchanges.l1 : Nat → List Int → Int → List (S31) → Int → List Int → List Int → Int → Int → Option (Bool)
  | 0, _, _, _, _, _, _, _, _ => none
  | k + 1, x5, x6, x7, x8, x9, x10, x41, x42 => if x42 < x41 then (if 0 ≤ (IntKind.u64.wrap (x42)) then (if (Go.bits .and .i64 (shr .i64 x8 (IntKind.u64.wrap (x42))) 1) = 1 then (if 0 ≤ x42 then (if x42 < (x5.length : Int) then (if x9.length < 17592186044416 then (synopticlaw39_SamplingExchanges.l1 k x5 x6 x7 x8 (x9 ++ [rd x5 x42]) x10 x41 (wrap64 (x42 + 1))) else (none)) else (none)) else (none)) else (if 0 ≤ x42 then (if x42 < (x5.length : Int) then (if x10.length < 17592186044416 then (synopticlaw39_SamplingExchanges.l1 k x5 x6 x7 x8 x9 (x10 ++ [rd x5 x42]) x41 (wrap64 (x42 + 1))) else (none)) else (none)) else (none))) else (none)) else (if (x9.length : Int) = x6 then ((sampling_Exchange.f x9 x10).bind fun bt145 => ((sampling_Exchange.f x10 x9).bind fun bt149 => (if bt145.2.2 = 0 then (if bt149.2.2 = 0 then (if (!(bt145.1 == bt149.1) || (!(bt145.2.1 == bt149.2.1))) = true then (none) else (if x7.length < 8796093022208 then (synopticlaw39_SamplingExchanges.l0 k x5 x6 (x7 ++ [(⟨bt145.1, bt145.2.1⟩ : S31)]) (wrap64 (x8 + 1))) else (none))) else (none)) else (none)))) else (synopticlaw39_SamplingExchanges.l0 k x5 x6 x7 (wrap64 (x8 + 1))))
def synopticlaw39_SamplingExchanges.l2 : Nat → List (S31) → List (S31) → Int → Int → Option (Bool)
  | 0, _, _, _, _ => none
  | k + 1, x7, x97, x98, x99 => if x99 < x98 then (if 0 ≤ x99 then (if x99 < (x97.length : Int) then (synopticlaw39_SamplingExchanges.l3 k x7 0 x97 x98 x99 x7 (x7.length : Int) 0 ((rd_T31 x97 x99).f0) ((rd_T31 x97 x99).f1)) else (none)) else (none)) else (some true)
def synopticlaw39_SamplingExchanges.l3 : Nat → List (S31) → Int → List (S31) → Int → Int → List (S31) → Int → Int → Int → Int → Option (Bool)
  | 0, _, _, _, _, _, _, _, _, _, _ => none
  | k + 1, x7, x18, x97, x98, x99, x103, x104, x105, x158000, x158001 => if x105 < x104 then (if 0 ≤ x105 then (if x105 < (x103.length : Int) then ((score_Compare.f ((rd_T31 x103 x105).f0) ((rd_T31 x103 x105).f1) x158000 x158001).bind fun t160 => (if t160 ≤ 0 then (synopticlaw39_SamplingExchanges.l3 k x7 (wrap64 (x18 + 1)) x97 x98 x99 x103 x104 (wrap64 (x105 + 1)) x158000 x158001) else (synopticlaw39_SamplingExchanges.l3 k x7 x18 x97 x98 x99 x103 x104 (wrap64 (x105 + 1)) x158000 x158001))) else (none)) else (none)) else ((score_Compare.f x18 (x7.length : Int) x158000 x158001).bind fun t161 => (if t161 > 0 then (none) else (synopticlaw39_SamplingExchanges.l2 k x7 x97 x98 (wrap64 (x99 + 1)))))
end
def synopticlaw39_SamplingExchanges.f (k : Nat) (l0 : List Int) (a1 : Int) : Option (Bool) := (synopticlaw39_awake.f).bind fun t129 => (if t129 = true then ((synopticfield_New.f l0 40).bind fun bt130 => ((synopticlaw39_sample.f k bt130.1 bt130.2 7).bind fun bt133 => (if (wrap64 ((bt133.1.length : Int) + 1)) = 0 then (none) else (synopticlaw39_SamplingExchanges.l0 k bt133.1 (Int.tmod (wrap64 (a1)) (wrap64 ((bt133.1.length : Int) + 1))) ([] : List (S31)) 0)))) else (none))
theorem synopticlaw39_SamplingExchanges.mono_l : ∀ k, (∀ y0 y1 y2 y3, LeO (synopticlaw39_SamplingExchanges.l0 k y0 y1 y2 y3) (synopticlaw39_SamplingExchanges.l0 (k + 1) y0 y1 y2 y3)) ∧ (∀ y0 y1 y2 y3 y4 y5 y6 y7, LeO (synopticlaw39_SamplingExchanges.l1 k y0 y1 y2 y3 y4 y5 y6 y7) (synopticlaw39_SamplingExchanges.l1 (k + 1) y0 y1 y2 y3 y4 y5 y6 y7)) ∧ (∀ y0 y1 y2 y3, LeO (synopticlaw39_SamplingExchanges.l2 k y0 y1 y2 y3) (synopticlaw39_SamplingExchanges.l2 (k + 1) y0 y1 y2 y3)) ∧ (∀ y0 y1 y2 y3 y4 y5 y6 y7 y8 y9, LeO (synopticlaw39_SamplingExchanges.l3 k y0 y1 y2 y3 y4 y5 y6 y7 y8 y9) (synopticlaw39_SamplingExchanges.l3 (k + 1) y0 y1 y2 y3 y4 y5 y6 y7 y8 y9))
  | 0 => ⟨fun _ _ _ _ r h => by simp [synopticlaw39_SamplingExchanges.l0] at h, fun _ _ _ _ _ _ _ _ r h => by simp [synopticlaw39_SamplingExchanges.l1] at h, fun _ _ _ _ r h => by simp [synopticlaw39_SamplingExchanges.l2] at h, fun _ _ _ _ _ _ _ _ _ _ r h => by simp [synopticlaw39_SamplingExchanges.l3] at h⟩
  | k + 1 => by
    obtain ⟨ih0, ih1, ih2, ih3⟩ := synopticlaw39_SamplingExchanges.mono_l k
    refine ⟨?_, ?_, ?_, ?_⟩
    · intro y0 y1 y2 y3
      unfold synopticlaw39_SamplingExchanges.l0
      repeat' first
      | (with_reducible exact ih0 _ _ _ _)
      | (with_reducible exact ih1 _ _ _ _ _ _ _ _)
      | (with_reducible exact ih2 _ _ _ _)
      | (with_reducible exact ih3 _ _ _ _ _ _ _ _ _ _)
      | (with_reducible exact synopticlaw39_sample.mono _ _ _ _)
      | (with_reducible exact LeO.refl _)
      | (with_reducible exact LeO.none _)
      | (with_reducible refine LeO.ite ?_ ?_)
      | (with_reducible refine LeO.bind ?_ (fun _ => ?_))
      | exact ih0 _ _ _ _
      | exact ih1 _ _ _ _ _ _ _ _
      | exact ih2 _ _ _ _
      | exact ih3 _ _ _ _ _ _ _ _ _ _
      | exact synopticlaw39_sample.mono _ _ _ _
      | exact LeO.none _
      | refine LeO.ite ?_ ?_
      | refine LeO.bind ?_ (fun _ => ?_)
    · intro y0 y1 y2 y3 y4 y5 y6 y7
      unfold synopticlaw39_SamplingExchanges.l1
      repeat' first
      | (with_reducible exact ih0 _ _ _ _)
      | (with_reducible exact ih1 _ _ _ _ _ _ _ _)
      | (with_reducible exact ih2 _ _ _ _)
      | (with_reducible exact ih3 _ _ _ _ _ _ _ _ _ _)
      | (with_reducible exact synopticlaw39_sample.mono _ _ _ _)
      | (with_reducible exact LeO.refl _)
      | (with_reducible exact LeO.none _)
      | (with_reducible refine LeO.ite ?_ ?_)
      | (with_reducible refine LeO.bind ?_ (fun _ => ?_))
      | exact ih0 _ _ _ _
      | exact ih1 _ _ _ _ _ _ _ _
      | exact ih2 _ _ _ _
      | exact ih3 _ _ _ _ _ _ _ _ _ _
      | exact synopticlaw39_sample.mono _ _ _ _
      | exact LeO.none _
      | refine LeO.ite ?_ ?_
      | refine LeO.bind ?_ (fun _ => ?_)
    · intro y0 y1 y2 y3
      unfold synopticlaw39_SamplingExchanges.l2
      repeat' first
      | (with_reducible exact ih0 _ _ _ _)
      | (with_reducible exact ih1 _ _ _ _ _ _ _ _)
      | (with_reducible exact ih2 _ _ _ _)
      | (with_reducible exact ih3 _ _ _ _ _ _ _ _ _ _)
      | (with_reducible exact synopticlaw39_sample.mono _ _ _ _)
      | (with_reducible exact LeO.refl _)
      | (with_reducible exact LeO.none _)
      | (with_reducible refine LeO.ite ?_ ?_)
      | (with_reducible refine LeO.bind ?_ (fun _ => ?_))
      | exact ih0 _ _ _ _
      | exact ih1 _ _ _ _ _ _ _ _
      | exact ih2 _ _ _ _
      | exact ih3 _ _ _ _ _ _ _ _ _ _
      | exact synopticlaw39_sample.mono _ _ _ _
      | exact LeO.none _
      | refine LeO.ite ?_ ?_
      | refine LeO.bind ?_ (fun _ => ?_)
    · intro y0 y1 y2 y3 y4 y5 y6 y7 y8 y9
      unfold synopticlaw39_SamplingExchanges.l3
      repeat' first
      | (with_reducible exact ih0 _ _ _ _)
      | (with_reducible exact ih1 _ _ _ _ _ _ _ _)
      | (with_reducible exact ih2 _ _ _ _)
      | (with_reducible exact ih3 _ _ _ _ _ _ _ _ _ _)
      | (with_reducible exact synopticlaw39_sample.mono _ _ _ _)
      | (with_reducible exact LeO.refl _)
      | (with_reducible exact LeO.none _)
      | (with_reducible refine LeO.ite ?_ ?_)
      | (with_reducible refine LeO.bind ?_ (fun _ => ?_))
      | exact ih0 _ _ _ _
      | exact ih1 _ _ _ _ _ _ _ _
      | exact ih2 _ _ _ _
      | exact ih3 _ _ _ _ _ _ _ _ _ _
      | exact synopticlaw39_sample.mono _ _ _ _
      | exact LeO.none _
      | refine LeO.ite ?_ ?_
      | refine LeO.bind ?_ (fun _ => ?_)
theorem synopticlaw39_SamplingExchanges.mono : ∀ a0 a1 k, LeO (synopticlaw39_SamplingExchanges.f k a0 a1) (synopticlaw39_SamplingExchanges.f (k + 1) a0 a1) := by
  intro a0 a1 k
  obtain ⟨ih0, ih1, ih2, ih3⟩ := synopticlaw39_SamplingExchanges.mono_l k
  unfold synopticlaw39_SamplingExchanges.f
  repeat' first
      | (with_reducible exact ih0 _ _ _ _)
      | (with_reducible exact ih1 _ _ _ _ _ _ _ _)
      | (with_reducible exact ih2 _ _ _ _)
      | (with_reducible exact ih3 _ _ _ _ _ _ _ _ _ _)
      | (with_reducible exact synopticlaw39_sample.mono _ _ _ _)
      | (with_reducible exact LeO.refl _)
      | (with_reducible exact LeO.none _)
      | (with_reducible refine LeO.ite ?_ ?_)
      | (with_reducible refine LeO.bind ?_ (fun _ => ?_))
      | exact ih0 _ _ _ _
      | exact ih1 _ _ _ _ _ _ _ _
      | exact ih2 _ _ _ _
      | exact ih3 _ _ _ _ _ _ _ _ _ _
      | exact synopticlaw39_sample.mono _ _ _ _
      | exact LeO.none _
      | refine LeO.ite ?_ ?_
      | refine LeO.bind ?_ (fun _ => ?_)
set_option maxHeartbeats 8000000 in
set_option maxRecDepth 100000 in
theorem synopticlaw39_SamplingExchanges.calls (k : Nat) (A0 : Option Addr) (c0 : Nat) (l0 : List Int) (a1 : Int) (r : Bool) (w : World) (hr0 : Kd.C (Kd.int .u8) w A0 l0.length l0) (hc0 : l0.length ≤ c0) (h : synopticlaw39_SamplingExchanges.f k l0 a1 = some r) :
    Calls Try.prog 6 #[.slice A0 l0.length c0, .int .u8 a1] w fun e w' => e = .returned (.bool r) ∧ Below w.heap.size w w' := by
  have hu31 := Try.underlying31
  have HR0 := Aside0.mk hr0
  have HC0 := Aside0.mk hc0
  clear hr0 hc0
  have HB := Aside0.mk (Below.refl w.heap.size w)
  have H : ((synopticlaw39_awake.f).bind fun t129 => (if t129 = true then ((synopticfield_New.f l0 40).bind fun bt130 => ((synopticlaw39_sample.f k bt130.1 bt130.2 7).bind fun bt133 => (if (wrap64 ((bt133.1.length : Int) + 1)) = 0 then (none) else (synopticlaw39_SamplingExchanges.l0 k bt133.1 (Int.tmod (wrap64 (a1)) (wrap64 ((bt133.1.length : Int) + 1))) ([] : List (S31)) 0)))) else (none))) = some r := h
  clear h
  replace H := Option.bind_eq_some_iff.mp H
  obtain ⟨t129, A30, H⟩ := H
  replace H : (if t129 = true then ((synopticfield_New.f l0 40).bind fun bt130 => ((synopticlaw39_sample.f k bt130.1 bt130.2 7).bind fun bt133 => (if (wrap64 ((bt133.1.length : Int) + 1)) = 0 then (none) else (synopticlaw39_SamplingExchanges.l0 k bt133.1 (Int.tmod (wrap64 (a1)) (wrap64 ((bt133.1.length : Int) + 1))) ([] : List (S31)) 0)))) else (none)) = some r := H
  have A3 := Aside0.mk A30
  clear A30
  by_cases c4 : t129 = true
  · subst c4
    have H1 : ((synopticfield_New.f l0 40).bind fun bt130 => ((synopticlaw39_sample.f k bt130.1 bt130.2 7).bind fun bt133 => (if (wrap64 ((bt133.1.length : Int) + 1)) = 0 then (none) else (synopticlaw39_SamplingExchanges.l0 k bt133.1 (Int.tmod (wrap64 (a1)) (wrap64 ((bt133.1.length : Int) + 1))) ([] : List (S31)) 0)))) = some r := by rw [if_pos rfl] at H; exact H
    clear H
    have H := H1
    clear H1
    replace H := Option.bind_eq_some_iff.mp H
    obtain ⟨⟨t130, t131⟩, A50, H⟩ := H
    replace H : ((synopticlaw39_sample.f k t130 t131 7).bind fun bt133 => (if (wrap64 ((bt133.1.length : Int) + 1)) = 0 then (none) else (synopticlaw39_SamplingExchanges.l0 k bt133.1 (Int.tmod (wrap64 (a1)) (wrap64 ((bt133.1.length : Int) + 1))) ([] : List (S31)) 0))) = some r := H
    have A5 := Aside0.mk A50
    clear A50
    replace H := Option.bind_eq_some_iff.mp H
    obtain ⟨⟨t133, t136⟩, A60, H⟩ := H
    replace H : (if (wrap64 ((t133.length : Int) + 1)) = 0 then (none) else (synopticlaw39_SamplingExchanges.l0 k t133 (Int.tmod (wrap64 (a1)) (wrap64 ((t133.length : Int) + 1))) ([] : List (S31)) 0)) = some r := H
    have A6 := Aside0.mk A60
    clear A60
    by_cases c7 : (wrap64 ((t133.length : Int) + 1)) = 0
    · rw [if_pos c7] at H
      exact absurd H (by simp)
    · rw [if_neg c7] at H
      have c7b0 : ((wrap64 ((t133.length : Int) + 1)) == 0) = false := beq_eq_false_iff_ne.mpr c7
      have c7b1 : ((wrap64 ((t133.length : Int) + 1)) != 0) = true := bne_iff_ne.mpr c7
      have H' := Aside0.mk H
      clear H
      go_enter Try.func6, Try.ntmps6
      go_wp2_with (first | ((with_reducible refine gate_callee (f := 9) rfl ?_); refine goesL_ (some 21) rfl rfl Try.func9 (by kernel_rfl) rfl #[] rfl (by (try simp only [List.map_toArray, List.map_cons, List.map_nil]); first | done | rfl | (simp only [List.length_drop, List.length_take]; rfl)) ?_; (with_reducible refine (synopticlaw39_awake.calls  true _ A3.out).mono ?_); rintro e w8 ⟨rfl, hb⟩; refine ⟨_, rfl, ?_⟩; have n0_ := Aside0.mk (below_step (by repeat (first | (with_reducible first | exact HB.out | apply below_alloc | apply pw_below_drewN | apply below_drew1) | exact HB.out)) hb); clear HB; have HB := n0_; clear n0_; (try clear hb); (try clear hb2); (try clear hk); (try clear hi)) | ((with_reducible refine gate_callee (f := 11) rfl ?_); refine goesL_ (some 24) rfl rfl Try.func11 (by kernel_rfl) rfl #[.slice A0 l0.length c0, .int .i64 40] rfl (by (try simp only [List.map_toArray, List.map_cons, List.map_nil]); first | done | rfl | (simp only [List.length_drop, List.length_take]; rfl)) ?_; (with_reducible refine (synopticfield_New.calls _ _ l0 40 t130 t131 w _ ?side1 ?side2 ?side3 A5.out).mono ?_); (case side1 => repeat (first | (with_reducible first | exact HB.out | apply below_alloc | apply pw_below_drewN | apply below_drew1) | exact HB.out)); (case side2 => exact HR0.out); (case side3 => exact HC0.out); rintro e w9 ⟨g132, rfl, hi, hb, hb2⟩; refine ⟨_, rfl, ?_⟩; have n0_ := Aside0.mk (hb); have n1_ := Aside0.mk (hi); clear HB; have HB := n0_; have HI132 := n1_; clear n0_ n1_; (try clear hb); (try clear hb2); (try clear hk); (try clear hi)) | ((with_reducible refine gate_callee (f := 10) rfl ?_); refine goesL_ (some 25) rfl rfl Try.func10 (by kernel_rfl) rfl #[.pointer (some ⟨g132, 0, none⟩), .int .i64 7] rfl (by (try simp only [List.map_toArray, List.map_cons, List.map_nil]); first | done | rfl | (simp only [List.length_drop, List.length_take]; rfl)) ?_; (with_reducible refine (synopticlaw39_sample.calls k g132 t130 t131 7 t133 t136 w _ ?side1 ?side2 A6.out).mono ?_); (case side1 => repeat (first | (with_reducible first | exact HI132.out | apply IsS59.alloc | apply IsS59.drewN | apply IsS59.drew | apply IsS59.set_1) | exact HI132.out)); (case side2 => repeat (first | (with_reducible first | exact HB.out | apply below_alloc | apply pw_below_drewN | apply below_drew1 | refine below_set ?_ (IsS59.ge HI132.out)) | exact HB.out)); rintro e w10 ⟨v134, rfl, ho0, hi, hb, hk⟩; refine ⟨_, rfl, ?_⟩; have n0_ := Aside0.mk (Kd.R_lower ho0 (below_size (by repeat (first | (with_reducible first | exact HB.out | apply below_alloc | apply pw_below_drewN | apply below_drew1 | refine below_set ?_ (IsS59.ge HI132.out)) | exact HB.out)))); have n1_ := Aside0.mk (hb); have n2_ := Aside0.mk (hi); clear HB; clear HI132; have HO135 := n0_; have HB := n1_; have HI132 := n2_; clear n0_ n1_ n2_; (try clear hb); (try clear hb2); (try clear hk); (try clear hi); (try clear ho0); obtain ⟨Ao11, co11, eo11⟩ := Kd.R_slice HO135.out; subst eo11))
      go_loopg [7, 8] k (fun kq v7 v8 w' => ∃ (x7_1 : List (S31)) (x8_1 : Int), v8 = .int .i64 x8_1 ∧ Aside0 (synopticlaw39_SamplingExchanges.l0 kq t133 (Int.tmod (wrap64 (a1)) (wrap64 ((t133.length : Int) + 1))) x7_1 x8_1 = some r) ∧ Aside0 (kq ≤ k) ∧ Aside0 (Kd.R (Kd.int .i64) 3 w' w.heap.size (fun _ => True) (.slice Ao11 t133.length co11) t133) ∧ Aside0 (Kd.R k31 31 w' w.heap.size (fun _ => True) v7 x7_1) ∧ Aside0 (Below w.heap.size w w'))
      case atStart => exact ⟨(([] : List (S31))), (0), (by first | rfl | (simp; done) | (simp [*]; done)), H', ⟨Nat.le_refl _⟩, ⟨by (with_reducible repeat (first | apply Kd.R_alloc | apply Kd.R_drewN | apply Kd.R_drew)); exact HO135.out⟩, ⟨by first | exact Kd.R_nil _ _ _ _ _ | exact Kd.N_nil _ _ _ _ _ | exact Kd.V_nil _ _ _ _ _ | exact Kd.Q_nil _ _ _ _ _ | exact Kd.S_nil _ _ _ _ _⟩, ⟨by repeat (first | (with_reducible first | exact HB.out | apply below_alloc | apply pw_below_drewN | apply below_drew1 | refine below_set ?_ (IsS59.ge HI132.out)) | exact HB.out)⟩⟩
      case round =>
        clear H'
        try clear c1
        try clear p2
        try clear c4
        try clear c6
        try clear p6
        try clear c7
        try clear c7b0
        try clear c7b1
        try clear c9
        try clear c10
        try clear c11
        obtain ⟨x7_1, x8_1, rfl, HA, HK1, HO_5, HO_7, HB⟩ := hrel
        cases gk with
        | zero => exact absurd HA.out (by simp [synopticlaw39_SamplingExchanges.l0])
        | succ k1 =>
          have H := HA.out
          clear HA
          simp only [synopticlaw39_SamplingExchanges.l0] at H
          obtain ⟨ji12, hji12⟩ : ∃ j_ : Int, (IntKind.u64.wrap ((t133.length : Int))) = j_ := ⟨_, rfl⟩
          replace H : (if 0 ≤ (ji12) then (if x8_1 < (shl .i64 1 (ji12)) then (synopticlaw39_SamplingExchanges.l1 k1 t133 (Int.tmod (wrap64 (a1)) (wrap64 ((t133.length : Int) + 1))) x7_1 x8_1 ([] : List Int) ([] : List Int) (t133.length : Int) 0) else (synopticlaw39_SamplingExchanges.l2 k1 x7_1 x7_1 (x7_1.length : Int) 0)) else (none)) = some r := by first | (rw [hji12] at H; exact H) | (simp only [hji12] at H ⊢; exact H)
          by_cases c13 : 0 ≤ (ji12)
          · rw [if_pos c13] at H
            have c13b0 := eq_true c13
            have c13b1 : decide (0 ≤ (ji12)) = true := decide_eq_true c13
            clear c13
            obtain ⟨ji14, hji14⟩ : ∃ j_ : Int, (shl .i64 1 (ji12)) = j_ := ⟨_, rfl⟩
            replace H : (if x8_1 < (ji14) then (synopticlaw39_SamplingExchanges.l1 k1 t133 (Int.tmod (wrap64 (a1)) (wrap64 ((t133.length : Int) + 1))) x7_1 x8_1 ([] : List Int) ([] : List Int) (t133.length : Int) 0) else (synopticlaw39_SamplingExchanges.l2 k1 x7_1 x7_1 (x7_1.length : Int) 0)) = some r := by first | (rw [hji14] at H; exact H) | (simp only [hji14] at H ⊢; exact H)
            have hji14_ : (IntKind.i64.wrap (1 * 2 ^ min (ji12).toNat 64)) = ji14 := hji14
            have hji14z : (ji12) ≤ 64 → (IntKind.i64.wrap (1 * 2 ^ (ji12).toNat)) = ji14 := shl_small hji14
            have hji14u : (IntKind.i64.wrap (2 ^ min (ji12).toNat 64)) = ji14 := by have h_ := hji14_; rw [Int.one_mul] at h_; exact h_
            have hji14v : (ji12) ≤ 64 → (IntKind.i64.wrap (2 ^ (ji12).toNat)) = ji14 := fun hle_ => by have h_ := hji14z hle_; rw [Int.one_mul] at h_; exact h_
            have hji14y : (wrap64 (1 * 2 ^ min (ji12).toNat 64)) = ji14 := (i64_w _).symm.trans hji14_
            have hji14x : (ji12) ≤ 64 → (wrap64 (1 * 2 ^ (ji12).toNat)) = ji14 := fun h_ => (i64_w _).symm.trans (hji14z h_)
            by_cases c15 : x8_1 < (ji14)
            · rw [if_pos c15] at H
              have c15b0 : decide (x8_1 < (ji14)) = true := decide_eq_true c15
              clear c15
              have H' := Aside0.mk H
              clear H
              go_wp2
              go_loopg [9, 10, 42] k1 (fun kq v9 v10 v42 w' => ∃ (x9_2 : List Int) (x10_2 : List Int) (x42_2 : Int), v42 = .int .i64 x42_2 ∧ Aside0 (synopticlaw39_SamplingExchanges.l1 kq t133 (Int.tmod (wrap64 (a1)) (wrap64 ((t133.length : Int) + 1))) x7_1 x8_1 x9_2 x10_2 (t133.length : Int) x42_2 = some r) ∧ Aside0 (kq ≤ k1) ∧ Aside0 (Kd.R (Kd.int .i64) 3 w' w.heap.size (fun k_ => some k_ ≠ (v9 : Value).ownBlock ∧ some k_ ≠ (v10 : Value).ownBlock) (.slice Ao11 t133.length co11) t133) ∧ Aside0 (Kd.R k31 31 w' w.heap.size (fun _ => True) u7 x7_1) ∧ Aside0 (Kd.R (Kd.int .i64) 3 w' w.heap.size (fun k_ => some k_ ≠ ((.slice Ao11 t133.length co11) : Value).ownBlock ∧ some k_ ≠ (v10 : Value).ownBlock) v9 x9_2) ∧ Aside0 (Kd.R (Kd.int .i64) 3 w' w.heap.size (fun k_ => some k_ ≠ ((.slice Ao11 t133.length co11) : Value).ownBlock ∧ some k_ ≠ (v9 : Value).ownBlock) v10 x10_2) ∧ Aside0 (Below w.heap.size w w'))
              case atStart => exact ⟨(([] : List Int)), (([] : List Int)), (0), (by first | rfl | (simp; done) | (simp [*]; done)), H', ⟨Nat.le_refl _⟩, ⟨by (with_reducible repeat (first | apply Kd.R_alloc | apply Kd.R_drewN | apply Kd.R_drew)); exact Kd.R_mono HO_5.out (fun _ hk => ⟨(by simp [Value.ownBlock]), (by simp [Value.ownBlock])⟩)⟩, ⟨by (with_reducible repeat (first | apply Kd.R_alloc | apply Kd.R_drewN | apply Kd.R_drew)); exact HO_7.out⟩, ⟨by first | exact Kd.R_nil _ _ _ _ _ | exact Kd.N_nil _ _ _ _ _ | exact Kd.V_nil _ _ _ _ _ | exact Kd.Q_nil _ _ _ _ _ | exact Kd.S_nil _ _ _ _ _⟩, ⟨by first | exact Kd.R_nil _ _ _ _ _ | exact Kd.N_nil _ _ _ _ _ | exact Kd.V_nil _ _ _ _ _ | exact Kd.Q_nil _ _ _ _ _ | exact Kd.S_nil _ _ _ _ _⟩, ⟨by repeat (first | (with_reducible first | exact HB.out | apply below_alloc | apply pw_below_drewN | apply below_drew1) | exact HB.out)⟩⟩
              case round =>
                clear H'
                try clear c1
                try clear p2
                try clear c4
                try clear c6
                try clear p6
                try clear c7
                try clear c7b0
                try clear c7b1
                try clear c9
                try clear c10
                try clear c11
                try clear c13
                try clear c13b0
                try clear c13b1
                try clear c15
                try clear c15b0
                try clear p2
                try clear p6
                obtain ⟨x9_2, x10_2, x42_2, rfl, HA, HK2, HO_5, HO_7, HO_9, HO_10, HB⟩ := hrel
                cases gk with
                | zero => exact absurd HA.out (by simp [synopticlaw39_SamplingExchanges.l1])
                | succ k2 =>
                  have H := HA.out
                  clear HA
                  simp only [synopticlaw39_SamplingExchanges.l1] at H
                  by_cases c16 : x42_2 < (t133.length : Int)
                  · rw [if_pos c16] at H
                    have c16b0 : decide (x42_2 < (t133.length : Int)) = true := decide_eq_true c16
                    clear c16
                    obtain ⟨ji17, hji17⟩ : ∃ j_ : Int, (IntKind.u64.wrap (x42_2)) = j_ := ⟨_, rfl⟩
                    replace H : (if 0 ≤ (ji17) then (if (Go.bits .and .i64 (shr .i64 x8_1 (ji17)) 1) = 1 then (if 0 ≤ x42_2 then (if x42_2 < (t133.length : Int) then (if x9_2.length < 17592186044416 then (synopticlaw39_SamplingExchanges.l1 k2 t133 (Int.tmod (wrap64 (a1)) (wrap64 ((t133.length : Int) + 1))) x7_1 x8_1 (x9_2 ++ [rd t133 x42_2]) x10_2 (t133.length : Int) (wrap64 (x42_2 + 1))) else (none)) else (none)) else (none)) else (if 0 ≤ x42_2 then (if x42_2 < (t133.length : Int) then (if x10_2.length < 17592186044416 then (synopticlaw39_SamplingExchanges.l1 k2 t133 (Int.tmod (wrap64 (a1)) (wrap64 ((t133.length : Int) + 1))) x7_1 x8_1 x9_2 (x10_2 ++ [rd t133 x42_2]) (t133.length : Int) (wrap64 (x42_2 + 1))) else (none)) else (none)) else (none))) else (none)) = some r := by first | (rw [hji17] at H; exact H) | (simp only [hji17] at H ⊢; exact H)
                    by_cases c18 : 0 ≤ (ji17)
                    · rw [if_pos c18] at H
                      have c18b0 := eq_true c18
                      have c18b1 : decide (0 ≤ (ji17)) = true := decide_eq_true c18
                      clear c18
                      obtain ⟨ji19, hji19⟩ : ∃ j_ : Int, (shr .i64 x8_1 (ji17)) = j_ := ⟨_, rfl⟩
                      replace H : (if (Go.bits .and .i64 (ji19) 1) = 1 then (if 0 ≤ x42_2 then (if x42_2 < (t133.length : Int) then (if x9_2.length < 17592186044416 then (synopticlaw39_SamplingExchanges.l1 k2 t133 (Int.tmod (wrap64 (a1)) (wrap64 ((t133.length : Int) + 1))) x7_1 x8_1 (x9_2 ++ [rd t133 x42_2]) x10_2 (t133.length : Int) (wrap64 (x42_2 + 1))) else (none)) else (none)) else (none)) else (if 0 ≤ x42_2 then (if x42_2 < (t133.length : Int) then (if x10_2.length < 17592186044416 then (synopticlaw39_SamplingExchanges.l1 k2 t133 (Int.tmod (wrap64 (a1)) (wrap64 ((t133.length : Int) + 1))) x7_1 x8_1 x9_2 (x10_2 ++ [rd t133 x42_2]) (t133.length : Int) (wrap64 (x42_2 + 1))) else (none)) else (none)) else (none))) = some r := by first | (rw [hji19] at H; exact H) | (simp only [hji19] at H ⊢; exact H)
                      have hji19_ : (x8_1 / 2 ^ min (ji17).toNat 64) = ji19 := hji19
                      have hji19z : (ji17) ≤ 64 → (x8_1 / 2 ^ (ji17).toNat) = ji19 := shr_small hji19
                      by_cases c20 : (Go.bits .and .i64 (ji19) 1) = 1
                      · rw [if_pos c20] at H
                        have c20b0 : ((Go.bits .and .i64 (ji19) 1) == 1) = true := beq_iff_eq.mpr c20
                        have c20b1 : ((Go.bits .and .i64 (ji19) 1) != 1) = false := bne_eq_false_iff_eq.mpr c20
                        clear c20
                        by_cases c21 : 0 ≤ x42_2
                        · rw [if_pos c21] at H
                          have c21b0 : decide (0 ≤ x42_2) = true := decide_eq_true c21
                          clear c21
                          by_cases c22 : x42_2 < (t133.length : Int)
                          · rw [if_pos c22] at H
                            have c22b0 : decide (x42_2 < (t133.length : Int)) = true := decide_eq_true c22
                            clear c22
                            by_cases c23 : x9_2.length < 17592186044416
                            · rw [if_pos c23] at H
                              have LMc23 := Aside0.mk c23
                              clear c23
                              obtain ⟨y138, hy138⟩ : ∃ y_ : List Int, y_ = (x9_2 ++ [rd t133 x42_2]) := ⟨_, rfl⟩
                              replace H : (synopticlaw39_SamplingExchanges.l1 k2 t133 (Int.tmod (wrap64 (a1)) (wrap64 ((t133.length : Int) + 1))) x7_1 x8_1 y138 x10_2 (t133.length : Int) (wrap64 (x42_2 + 1))) = some r := by first | (rw [hy138]; with_reducible exact H) | (have H2_ := (Option.bind_some _ _).symm.trans H; rw [hy138]; with_reducible exact H2_) | (have H2_ := (Option.bind_some _ _).symm.trans H; with_reducible exact H2_) | with_reducible exact H | (rw [hy138]; exact H) | exact H
                              have Ny138 := Aside0.mk hy138
                              clear hy138
                              have H' := Aside0.mk H
                              clear H
                              have p137 : 0 ≤ (x42_2 : Int) := of_decide_eq_true (by first | (with_reducible assumption) | assumption)
                              have q137 : x42_2 < (t133.length : Int) := of_decide_eq_true (by first | (with_reducible assumption) | assumption)
                              obtain ⟨ad137, e137, hx137_0⟩ := Kd.at_int (Kd.R_reads' HO_5.out).2.2 x42_2 p137 q137
                              cases e137
                              replace p137 := eq_true p137
                              replace q137 := eq_true q137
                              go_wp2_with (first | ((with_reducible refine gate_builtin (b := .append) (xs := #[.tmp 51, .tmp 56]) rfl ?_); at_builtin; refine Kd.R_append (Kd.int .i64) (w0 := w) w.heap.size rfl (.tmp 51) (.tmp 56) 24 3 (.int .i64 0) 8 rfl Try.underlying24 info3 rfl (by decide) (by omega) u9 x9_2 (rd t133 x42_2) [.int .i64 (rd t133 x42_2)] (fun k_ => some k_ ≠ (.slice (some ad137) t133.length co11 : Value).ownBlock ∧ some k_ ≠ (u10 : Value).ownBlock) (fun _ => False) rfl rfl ?aP (fun _ hk => hk.elim) ?aF ?aO ?aB ?aS ?aL ?_; (case aP => exact rfl); (case aB => exact (by repeat (first | (with_reducible first | exact HB.out | apply below_alloc | apply pw_below_drewN | apply below_drew1) | exact HB.out))); (case aF => exact (fun k_ hk => ⟨Kd.fresh' (Kd.R_lt (by (with_reducible repeat (first | apply Kd.R_alloc | apply Kd.R_drewN | apply Kd.R_drew)); exact HO_5.out)) k_ hk, Kd.fresh' (Kd.R_lt (by (with_reducible repeat (first | apply Kd.R_alloc | apply Kd.R_drewN | apply Kd.R_drew)); exact HO_10.out)) k_ hk⟩)); (case aO => exact (by (with_reducible repeat (first | apply Kd.R_alloc | apply Kd.R_drewN | apply Kd.R_drew)); exact HO_9.out)); (case aS => exact (below_size (by repeat (first | (with_reducible first | exact HB.out | apply below_alloc | apply pw_below_drewN | apply below_drew1) | exact HB.out)))); (case aL => have := LMc23.out; omega); intro v139 w24 ho hb hg hat; rw [← Ny138.out] at ho; have n0_ := Aside0.mk (Kd.R_after (ok := (fun k_ => some k_ ≠ (u10 : Value).ownBlock)) (by (with_reducible repeat (first | apply Kd.R_alloc | apply Kd.R_drewN | apply Kd.R_drew)); exact Kd.R_mono HO_5.out (fun _ hk => ⟨hk.2, hk.1⟩)) hg hat); have n1_ := Aside0.mk (Kd.R_over' (by (with_reducible repeat (first | apply Kd.R_alloc | apply Kd.R_drewN | apply Kd.R_drew)); exact HO_7.out) (Kd.R_typed (by (with_reducible repeat (first | apply Kd.R_alloc | apply Kd.R_drewN | apply Kd.R_drew)); exact HO_9.out)) (by decide) hg); have n2_ := Aside0.mk (Kd.R_after (ok := (fun k_ => some k_ ≠ (.slice (some ad137) t133.length co11 : Value).ownBlock)) (by (with_reducible repeat (first | apply Kd.R_alloc | apply Kd.R_drewN | apply Kd.R_drew)); exact HO_10.out) hg hat); have n3_ := Aside0.mk (hb); have n4_ := Aside0.mk (ho); clear HO_5; clear HO_7; clear HO_10; clear HB; clear HO_9; have HO_5 := n0_; have HO_7 := n1_; have HO_10 := n2_; have HB := n3_; have HO140 := n4_; clear n0_ n1_ n2_ n3_ n4_; clear ho hb hg hat))
                              go_roundg k2
                              case measure => have := HK1.out; have := HK2.out; omega
                              case rel => exact ⟨(y138), (x10_2), (wrap64 (x42_2 + 1)), (by first | rfl | (simp; done) | (simp [*]; done)), H', ⟨by have := HK1.out; have := HK2.out; omega⟩, ⟨by (with_reducible repeat (first | apply Kd.R_alloc | apply Kd.R_drewN | apply Kd.R_drew)); exact Kd.R_mono HO_5.out (fun _ hk => ⟨hk.2, hk.1⟩)⟩, ⟨by (with_reducible repeat (first | apply Kd.R_alloc | apply Kd.R_drewN | apply Kd.R_drew)); exact HO_7.out⟩, ⟨by (with_reducible repeat (first | apply Kd.R_alloc | apply Kd.R_drewN | apply Kd.R_drew)); exact HO140.out⟩, ⟨by (with_reducible repeat (first | apply Kd.R_alloc | apply Kd.R_drewN | apply Kd.R_drew)); exact HO_10.out⟩, ⟨by repeat (first | (with_reducible first | exact HB.out | apply below_alloc | apply pw_below_drewN | apply below_drew1) | exact HB.out)⟩⟩
                            · rw [if_neg c23] at H
                              exact absurd H (by simp)
                          · rw [if_neg c22] at H
                            exact absurd H (by simp)
                        · rw [if_neg c21] at H
                          exact absurd H (by simp)
                      · rw [if_neg c20] at H
                        have c20b0 : ((Go.bits .and .i64 (ji19) 1) == 1) = false := beq_eq_false_iff_ne.mpr c20
                        have c20b1 : ((Go.bits .and .i64 (ji19) 1) != 1) = true := bne_iff_ne.mpr c20
                        by_cases c25 : 0 ≤ x42_2
                        · rw [if_pos c25] at H
                          have c25b0 : decide (0 ≤ x42_2) = true := decide_eq_true c25
                          clear c25
                          by_cases c26 : x42_2 < (t133.length : Int)
                          · rw [if_pos c26] at H
                            have c26b0 : decide (x42_2 < (t133.length : Int)) = true := decide_eq_true c26
                            clear c26
                            by_cases c27 : x10_2.length < 17592186044416
                            · rw [if_pos c27] at H
                              have LMc27 := Aside0.mk c27
                              clear c27
                              obtain ⟨y142, hy142⟩ : ∃ y_ : List Int, y_ = (x10_2 ++ [rd t133 x42_2]) := ⟨_, rfl⟩
                              replace H : (synopticlaw39_SamplingExchanges.l1 k2 t133 (Int.tmod (wrap64 (a1)) (wrap64 ((t133.length : Int) + 1))) x7_1 x8_1 x9_2 y142 (t133.length : Int) (wrap64 (x42_2 + 1))) = some r := by first | (rw [hy142]; with_reducible exact H) | (have H2_ := (Option.bind_some _ _).symm.trans H; rw [hy142]; with_reducible exact H2_) | (have H2_ := (Option.bind_some _ _).symm.trans H; with_reducible exact H2_) | with_reducible exact H | (rw [hy142]; exact H) | exact H
                              have Ny142 := Aside0.mk hy142
                              clear hy142
                              have H' := Aside0.mk H
                              clear H
                              have p141 : 0 ≤ (x42_2 : Int) := of_decide_eq_true (by first | (with_reducible assumption) | assumption)
                              have q141 : x42_2 < (t133.length : Int) := of_decide_eq_true (by first | (with_reducible assumption) | assumption)
                              obtain ⟨ad141, e141, hx141_0⟩ := Kd.at_int (Kd.R_reads' HO_5.out).2.2 x42_2 p141 q141
                              cases e141
                              replace p141 := eq_true p141
                              replace q141 := eq_true q141
                              go_wp2_with (first | ((with_reducible refine gate_builtin (b := .append) (xs := #[.tmp 58, .tmp 63]) rfl ?_); at_builtin; refine Kd.R_append (Kd.int .i64) (w0 := w) w.heap.size rfl (.tmp 58) (.tmp 63) 24 3 (.int .i64 0) 8 rfl Try.underlying24 info3 rfl (by decide) (by omega) u10 x10_2 (rd t133 x42_2) [.int .i64 (rd t133 x42_2)] (fun k_ => some k_ ≠ (.slice (some ad141) t133.length co11 : Value).ownBlock ∧ some k_ ≠ (u9 : Value).ownBlock) (fun _ => False) rfl rfl ?aP (fun _ hk => hk.elim) ?aF ?aO ?aB ?aS ?aL ?_; (case aP => exact rfl); (case aB => exact (by repeat (first | (with_reducible first | exact HB.out | apply below_alloc | apply pw_below_drewN | apply below_drew1) | exact HB.out))); (case aF => exact (fun k_ hk => ⟨Kd.fresh' (Kd.R_lt (by (with_reducible repeat (first | apply Kd.R_alloc | apply Kd.R_drewN | apply Kd.R_drew)); exact HO_5.out)) k_ hk, Kd.fresh' (Kd.R_lt (by (with_reducible repeat (first | apply Kd.R_alloc | apply Kd.R_drewN | apply Kd.R_drew)); exact HO_9.out)) k_ hk⟩)); (case aO => exact (by (with_reducible repeat (first | apply Kd.R_alloc | apply Kd.R_drewN | apply Kd.R_drew)); exact HO_10.out)); (case aS => exact (below_size (by repeat (first | (with_reducible first | exact HB.out | apply below_alloc | apply pw_below_drewN | apply below_drew1) | exact HB.out)))); (case aL => have := LMc27.out; omega); intro v143 w28 ho hb hg hat; rw [← Ny142.out] at ho; have n0_ := Aside0.mk (Kd.R_after (ok := (fun k_ => some k_ ≠ (u9 : Value).ownBlock)) (by (with_reducible repeat (first | apply Kd.R_alloc | apply Kd.R_drewN | apply Kd.R_drew)); exact HO_5.out) hg hat); have n1_ := Aside0.mk (Kd.R_over' (by (with_reducible repeat (first | apply Kd.R_alloc | apply Kd.R_drewN | apply Kd.R_drew)); exact HO_7.out) (Kd.R_typed (by (with_reducible repeat (first | apply Kd.R_alloc | apply Kd.R_drewN | apply Kd.R_drew)); exact HO_10.out)) (by decide) hg); have n2_ := Aside0.mk (Kd.R_after (ok := (fun k_ => some k_ ≠ (.slice (some ad141) t133.length co11 : Value).ownBlock)) (by (with_reducible repeat (first | apply Kd.R_alloc | apply Kd.R_drewN | apply Kd.R_drew)); exact HO_9.out) hg hat); have n3_ := Aside0.mk (hb); have n4_ := Aside0.mk (ho); clear HO_5; clear HO_7; clear HO_9; clear HB; clear HO_10; have HO_5 := n0_; have HO_7 := n1_; have HO_9 := n2_; have HB := n3_; have HO144 := n4_; clear n0_ n1_ n2_ n3_ n4_; clear ho hb hg hat))
                              go_roundg k2
                              case measure => have := HK1.out; have := HK2.out; omega
                              case rel => exact ⟨(x9_2), (y142), (wrap64 (x42_2 + 1)), (by first | rfl | (simp; done) | (simp [*]; done)), H', ⟨by have := HK1.out; have := HK2.out; omega⟩, ⟨by (with_reducible repeat (first | apply Kd.R_alloc | apply Kd.R_drewN | apply Kd.R_drew)); exact HO_5.out⟩, ⟨by (with_reducible repeat (first | apply Kd.R_alloc | apply Kd.R_drewN | apply Kd.R_drew)); exact HO_7.out⟩, ⟨by (with_reducible repeat (first | apply Kd.R_alloc | apply Kd.R_drewN | apply Kd.R_drew)); exact HO_9.out⟩, ⟨by (with_reducible repeat (first | apply Kd.R_alloc | apply Kd.R_drewN | apply Kd.R_drew)); exact HO144.out⟩, ⟨by repeat (first | (with_reducible first | exact HB.out | apply below_alloc | apply pw_below_drewN | apply below_drew1) | exact HB.out)⟩⟩
                            · rw [if_neg c27] at H
                              exact absurd H (by simp)
                          · rw [if_neg c26] at H
                            exact absurd H (by simp)
                        · rw [if_neg c25] at H
                          exact absurd H (by simp)
                    · rw [if_neg c18] at H
                      exact absurd H (by simp)
                  · rw [if_neg c16] at H
                    have c16b0 : decide (x42_2 < (t133.length : Int)) = false := decide_eq_false c16
                    clear c16
                    by_cases c29 : (x9_2.length : Int) = (Int.tmod (wrap64 (a1)) (wrap64 ((t133.length : Int) + 1)))
                    · rw [if_pos c29] at H
                      have c29b0 : ((x9_2.length : Int) == (Int.tmod (wrap64 (a1)) (wrap64 ((t133.length : Int) + 1)))) = true := beq_iff_eq.mpr c29
                      have c29b1 : ((x9_2.length : Int) != (Int.tmod (wrap64 (a1)) (wrap64 ((t133.length : Int) + 1)))) = false := bne_eq_false_iff_eq.mpr c29
                      clear c29
                      replace H := Option.bind_eq_some_iff.mp H
                      obtain ⟨⟨t145, t146, t147⟩, A300, H⟩ := H
                      replace H : ((sampling_Exchange.f x10_2 x9_2).bind fun bt149 => (if t147 = 0 then (if bt149.2.2 = 0 then (if (!(t145 == bt149.1) || (!(t146 == bt149.2.1))) = true then (none) else (if x7_1.length < 8796093022208 then (synopticlaw39_SamplingExchanges.l0 k2 t133 (Int.tmod (wrap64 (a1)) (wrap64 ((t133.length : Int) + 1))) (x7_1 ++ [(⟨t145, t146⟩ : S31)]) (wrap64 (x8_1 + 1))) else (none))) else (none)) else (none))) = some r := H
                      have A30 := Aside0.mk A300
                      clear A300
                      replace H := Option.bind_eq_some_iff.mp H
                      obtain ⟨⟨t149, t150, t151⟩, A310, H⟩ := H
                      replace H : (if t147 = 0 then (if t151 = 0 then (if (!(t145 == t149) || (!(t146 == t150))) = true then (none) else (if x7_1.length < 8796093022208 then (synopticlaw39_SamplingExchanges.l0 k2 t133 (Int.tmod (wrap64 (a1)) (wrap64 ((t133.length : Int) + 1))) (x7_1 ++ [(⟨t145, t146⟩ : S31)]) (wrap64 (x8_1 + 1))) else (none))) else (none)) else (none)) = some r := H
                      have A31 := Aside0.mk A310
                      clear A310
                      by_cases c32 : t147 = 0
                      · rw [if_pos c32] at H
                        have c32b0 : (t147 == 0) = true := beq_iff_eq.mpr c32
                        have c32b1 : (t147 != 0) = false := bne_eq_false_iff_eq.mpr c32
                        clear c32
                        by_cases c33 : t151 = 0
                        · rw [if_pos c33] at H
                          have c33b0 : (t151 == 0) = true := beq_iff_eq.mpr c33
                          have c33b1 : (t151 != 0) = false := bne_eq_false_iff_eq.mpr c33
                          clear c33
                          by_cases c34 : (!(t145 == t149) || (!(t146 == t150))) = true
                          · rw [if_pos c34] at H
                            exact absurd H (by simp)
                          · rw [if_neg c34] at H
                            have c34b0 : (!(t145 == t149) || (!(t146 == t150))) = false := by simpa using c34
                            clear c34
                            by_cases c35 : x7_1.length < 8796093022208
                            · rw [if_pos c35] at H
                              have LMc35 := Aside0.mk c35
                              clear c35
                              obtain ⟨y153, hy153⟩ : ∃ y_ : List (S31), y_ = (x7_1 ++ [(⟨t145, t146⟩ : S31)]) := ⟨_, rfl⟩
                              replace H : (synopticlaw39_SamplingExchanges.l0 k2 t133 (Int.tmod (wrap64 (a1)) (wrap64 ((t133.length : Int) + 1))) y153 (wrap64 (x8_1 + 1))) = some r := by first | (rw [hy153]; with_reducible exact H) | (have H2_ := (Option.bind_some _ _).symm.trans H; rw [hy153]; with_reducible exact H2_) | (have H2_ := (Option.bind_some _ _).symm.trans H; with_reducible exact H2_) | with_reducible exact H | (rw [hy153]; exact H) | exact H
                              have Ny153 := Aside0.mk hy153
                              clear hy153
                              have H' := Aside0.mk H
                              clear H
                              obtain ⟨Ao36, co36, eo36⟩ := Kd.R_slice HO_9.out
                              subst eo36
                              obtain ⟨Ao37, co37, eo37⟩ := Kd.R_slice HO_10.out
                              subst eo37
                              go_wp2_with (first | ((with_reducible refine gate_callee (f := 15) rfl ?_); refine goesL_ (some 73) rfl rfl Try.func15 (by kernel_rfl) rfl #[.slice Ao36 x9_2.length co36, .slice Ao37 x10_2.length co37] rfl (by (try simp only [List.map_toArray, List.map_cons, List.map_nil]); first | done | rfl | (simp only [List.length_drop, List.length_take]; rfl)) ?_; (with_reducible refine (sampling_Exchange.calls _ _ x9_2 _ _ x10_2 t145 t146 t147 _ ?side1 ?side2 ?side3 ?side4 A30.out).mono ?_); (case side1 => repeat (first | exact (Kd.R_reads' HO_9.out).2.2 | (with_reducible refine Kd.C_alloc ?_ _) | (with_reducible refine Kd.C_drewN ?_ _) | (with_reducible refine Kd.C_drew ?_))); (case side2 => exact (Kd.R_reads' HO_9.out).2.1); (case side3 => repeat (first | exact (Kd.R_reads' HO_10.out).2.2 | (with_reducible refine Kd.C_alloc ?_ _) | (with_reducible refine Kd.C_drewN ?_ _) | (with_reducible refine Kd.C_drew ?_))); (case side4 => exact (Kd.R_reads' HO_10.out).2.1); rintro e w38 ⟨rfl, hb⟩; refine ⟨_, rfl, ?_⟩; have n0_ := Aside0.mk (Kd.R_below (by (with_reducible repeat (first | apply Kd.R_alloc | apply Kd.R_drewN | apply Kd.R_drew)); exact HO_5.out) hb); have n1_ := Aside0.mk (Kd.R_below (by (with_reducible repeat (first | apply Kd.R_alloc | apply Kd.R_drewN | apply Kd.R_drew)); exact HO_7.out) hb); have n2_ := Aside0.mk (Kd.R_below (by (with_reducible repeat (first | apply Kd.R_alloc | apply Kd.R_drewN | apply Kd.R_drew)); exact HO_9.out) hb); have n3_ := Aside0.mk (Kd.R_below (by (with_reducible repeat (first | apply Kd.R_alloc | apply Kd.R_drewN | apply Kd.R_drew)); exact HO_10.out) hb); have n4_ := Aside0.mk (below_step (by repeat (first | (with_reducible first | exact HB.out | apply below_alloc | apply pw_below_drewN | apply below_drew1) | exact HB.out)) hb); clear HO_5; clear HO_7; clear HO_9; clear HO_10; clear HB; have HO_5 := n0_; have HO_7 := n1_; have HO_9 := n2_; have HO_10 := n3_; have HB := n4_; clear n0_ n1_ n2_ n3_ n4_; (try clear hb); (try clear hb2); (try clear hk); (try clear hi)) | ((with_reducible refine gate_dst (N := 12) rfl ?_); refine box_event ?hg (N := 12) ?hd (cs := #[.int .i64 0, .int .i64 0]) (t := 31) ?hr ?_; (case hd => rfl); (case hg => rfl); (case hr => first | (go_simp; done) | (go_simp; rfl)); intro gb148 hg w39 hbox hb; have n0_ := Aside0.mk (Kd.R_below (by (with_reducible repeat (first | apply Kd.R_alloc | apply Kd.R_drewN | apply Kd.R_drew)); exact HO_5.out) hb); have n1_ := Aside0.mk (Kd.R_below (Kd.R_elderB (by (with_reducible repeat (first | apply Kd.R_alloc | apply Kd.R_drewN | apply Kd.R_drew)); exact HO_7.out) gb148 (Nat.le_of_eq hg.symm)) hb); have n2_ := Aside0.mk (Kd.R_below (by (with_reducible repeat (first | apply Kd.R_alloc | apply Kd.R_drewN | apply Kd.R_drew)); exact HO_9.out) hb); have n3_ := Aside0.mk (Kd.R_below (by (with_reducible repeat (first | apply Kd.R_alloc | apply Kd.R_drewN | apply Kd.R_drew)); exact HO_10.out) hb); have n4_ := Aside0.mk (below_step (by repeat (first | (with_reducible first | exact HB.out | apply below_alloc | apply pw_below_drewN | apply below_drew1) | exact HB.out)) hb); have n5_ := Aside0.mk (hbox); have n6_ := Aside0.mk ((by rw [hg]; exact (below_size (by repeat (first | (with_reducible first | exact HB.out | apply below_alloc | apply pw_below_drewN | apply below_drew1) | exact HB.out))) : w.heap.size ≤ gb148)); have n7_ := Aside0.mk ((by rw [hg]; exact (below_size (by repeat (first | (with_reducible first | exact HB.out | apply below_alloc | apply pw_below_drewN | apply below_drew1) | exact HB.out))) : w.heap.size ≤ gb148)); clear HO_5; clear HO_7; clear HO_9; clear HO_10; clear HB; have HO_5 := n0_; have HO_7 := n1_; have HO_9 := n2_; have HO_10 := n3_; have HB := n4_; have BK148 := n5_; have GW148 := n6_; have GE148 := n7_; clear n0_ n1_ n2_ n3_ n4_ n5_ n6_ n7_; clear hb hbox hg; have hcz40_0 : w39.cell? ⟨gb148, 0, none⟩ = some (.int .i64 0) := (blk_cell BK148.out 0).trans rfl; have hcz40_1 : w39.cell? ⟨gb148, 1, none⟩ = some (.int .i64 0) := (blk_cell BK148.out 1).trans rfl; have hfz40_0 := blk_frozen BK148.out 0; have hfz40_1 := blk_frozen BK148.out 1) | ((with_reducible refine gate_store (t := 31) (p := 12) rfl ?_); refine store_event (t := 31) (p := 12) (v := ?vo_w41) (w1 := ((w39.setCell ⟨gb148, 0, none⟩ (.int .i64 t145)).setCell ⟨gb148, 1, none⟩ (.int .i64 t146))) ?hg ?ho ?hn ?hr ?_; (case ho => rfl); (case hg => rfl); (case hn => rfl); (case hr => first | (go_simp; done) | (go_simp; rfl)); intro w41 hw; have n0_ : Aside0 (Kd.R (Kd.int .i64) 3 w41 w.heap.size (fun k_ => some k_ ≠ (.slice Ao36 x9_2.length co36 : Value).ownBlock ∧ some k_ ≠ (.slice Ao37 x10_2.length co37 : Value).ownBlock) (.slice Ao11 t133.length co11) t133) := ⟨(by rw [hw]; exact (by (with_reducible repeat (first | apply Kd.R_alloc | apply Kd.R_drewN | apply Kd.R_drew)); exact Kd.R_mono (Kd.R_far (p := ⟨gb148, 1, none⟩) (Kd.R_far (p := ⟨gb148, 0, none⟩) (Kd.R_types HO_5.out BK148.out (by decide)) (fun _ hk => hk.2) (.int .i64 t145)) (fun _ hk => hk.2) (.int .i64 t146)) (fun _ hk => ⟨hk.1.1, hk.1.2⟩)))⟩; have n1_ : Aside0 (Kd.R k31 31 w41 w.heap.size (fun k_ => k_ ≠ gb148) u7 x7_1) := ⟨(by rw [hw]; exact (by (with_reducible repeat (first | apply Kd.R_alloc | apply Kd.R_drewN | apply Kd.R_drew)); exact Kd.R_mono (Kd.R_far (p := ⟨gb148, 1, none⟩) (Kd.R_far (p := ⟨gb148, 0, none⟩) (Kd.R_mono HO_7.out (fun k_ hk => (⟨hk, hk.2⟩ : _ ∧ k_ ≠ gb148))) (fun _ hk => hk.2) (.int .i64 t145)) (fun _ hk => hk.2) (.int .i64 t146)) (fun _ hk => hk.1.2)))⟩; have n2_ : Aside0 (Kd.R (Kd.int .i64) 3 w41 w.heap.size (fun k_ => some k_ ≠ (.slice Ao11 t133.length co11 : Value).ownBlock ∧ some k_ ≠ (.slice Ao37 x10_2.length co37 : Value).ownBlock) (.slice Ao36 x9_2.length co36) x9_2) := ⟨(by rw [hw]; exact (by (with_reducible repeat (first | apply Kd.R_alloc | apply Kd.R_drewN | apply Kd.R_drew)); exact Kd.R_mono (Kd.R_far (p := ⟨gb148, 1, none⟩) (Kd.R_far (p := ⟨gb148, 0, none⟩) (Kd.R_types HO_9.out BK148.out (by decide)) (fun _ hk => hk.2) (.int .i64 t145)) (fun _ hk => hk.2) (.int .i64 t146)) (fun _ hk => ⟨hk.1.1, hk.1.2⟩)))⟩; have n3_ : Aside0 (Kd.R (Kd.int .i64) 3 w41 w.heap.size (fun k_ => some k_ ≠ (.slice Ao11 t133.length co11 : Value).ownBlock ∧ some k_ ≠ (.slice Ao36 x9_2.length co36 : Value).ownBlock) (.slice Ao37 x10_2.length co37) x10_2) := ⟨(by rw [hw]; exact (by (with_reducible repeat (first | apply Kd.R_alloc | apply Kd.R_drewN | apply Kd.R_drew)); exact Kd.R_mono (Kd.R_far (p := ⟨gb148, 1, none⟩) (Kd.R_far (p := ⟨gb148, 0, none⟩) (Kd.R_types HO_10.out BK148.out (by decide)) (fun _ hk => hk.2) (.int .i64 t145)) (fun _ hk => hk.2) (.int .i64 t146)) (fun _ hk => ⟨hk.1.1, hk.1.2⟩)))⟩; have n4_ : Aside0 (w41.heap[gb148]? = some (.cells #[.int .i64 t145, .int .i64 t146] 31 (0, 0))) := ⟨(by rw [hw]; exact (by (with_reducible repeat (first | refine blk_drewN ?_ _ | refine blk_drew ?_ | refine blk_alloc ?_ _)); refine blk_put (cs := #[.int .i64 t145, .int .i64 0]) ?_ 1 _ rfl; (with_reducible repeat (first | refine blk_drewN ?_ _ | refine blk_drew ?_ | refine blk_alloc ?_ _)); refine blk_put (cs := #[.int .i64 0, .int .i64 0]) ?_ 0 _ rfl; (with_reducible repeat (first | refine blk_drewN ?_ _ | refine blk_drew ?_ | refine blk_alloc ?_ _)); exact BK148.out))⟩; have n5_ : Aside0 (Below w.heap.size w w41) := ⟨(by rw [hw]; exact (by repeat (first | (with_reducible first | exact HB.out | apply below_alloc | apply pw_below_drewN | apply below_drew1 | refine below_set ?_ GE148.out) | exact HB.out)))⟩; clear hw; clear HO_5; clear HO_7; clear HO_9; clear HO_10; clear BK148; clear HB; have HO_5 := n0_; have HO_7 := n1_; have HO_9 := n2_; have HO_10 := n3_; have BK148 := n4_; have HB := n5_; clear n0_ n1_ n2_ n3_ n4_ n5_) | ((with_reducible refine gate_callee (f := 15) rfl ?_); refine goesL_ (some 79) rfl rfl Try.func15 (by kernel_rfl) rfl #[.slice Ao37 x10_2.length co37, .slice Ao36 x9_2.length co36] rfl (by (try simp only [List.map_toArray, List.map_cons, List.map_nil]); first | done | rfl | (simp only [List.length_drop, List.length_take]; rfl)) ?_; (with_reducible refine (sampling_Exchange.calls _ _ x10_2 _ _ x9_2 t149 t150 t151 _ ?side1 ?side2 ?side3 ?side4 A31.out).mono ?_); (case side1 => repeat (first | exact (Kd.R_reads' HO_10.out).2.2 | (with_reducible refine Kd.C_alloc ?_ _) | (with_reducible refine Kd.C_drewN ?_ _) | (with_reducible refine Kd.C_drew ?_))); (case side2 => exact (Kd.R_reads' HO_10.out).2.1); (case side3 => repeat (first | exact (Kd.R_reads' HO_9.out).2.2 | (with_reducible refine Kd.C_alloc ?_ _) | (with_reducible refine Kd.C_drewN ?_ _) | (with_reducible refine Kd.C_drew ?_))); (case side4 => exact (Kd.R_reads' HO_9.out).2.1); rintro e w42 ⟨rfl, hb⟩; refine ⟨_, rfl, ?_⟩; have n0_ := Aside0.mk (Kd.R_below (by (with_reducible repeat (first | apply Kd.R_alloc | apply Kd.R_drewN | apply Kd.R_drew)); exact HO_5.out) hb); have n1_ := Aside0.mk (Kd.R_below (by (with_reducible repeat (first | apply Kd.R_alloc | apply Kd.R_drewN | apply Kd.R_drew)); exact HO_7.out) hb); have n2_ := Aside0.mk (Kd.R_below (by (with_reducible repeat (first | apply Kd.R_alloc | apply Kd.R_drewN | apply Kd.R_drew)); exact HO_9.out) hb); have n3_ := Aside0.mk (Kd.R_below (by (with_reducible repeat (first | apply Kd.R_alloc | apply Kd.R_drewN | apply Kd.R_drew)); exact HO_10.out) hb); have n4_ := Aside0.mk (blk_below (g := gb148) (o := .cells #[.int .i64 t145, .int .i64 t146] 31 (0, 0)) (by (with_reducible repeat (first | refine blk_drewN ?_ _ | refine blk_drew ?_ | refine blk_alloc ?_ _)); exact BK148.out) hb); have n5_ := Aside0.mk (below_step (by repeat (first | (with_reducible first | exact HB.out | apply below_alloc | apply pw_below_drewN | apply below_drew1 | refine below_set ?_ GE148.out) | exact HB.out)) hb); clear HO_5; clear HO_7; clear HO_9; clear HO_10; clear BK148; clear HB; have HO_5 := n0_; have HO_7 := n1_; have HO_9 := n2_; have HO_10 := n3_; have BK148 := n4_; have HB := n5_; clear n0_ n1_ n2_ n3_ n4_ n5_; (try clear hb); (try clear hb2); (try clear hk); (try clear hi)) | ((with_reducible refine gate_dst (N := 14) rfl ?_); refine box_event ?hg (N := 14) ?hd (cs := #[.int .i64 0, .int .i64 0]) (t := 31) ?hr ?_; (case hd => rfl); (case hg => rfl); (case hr => first | (go_simp; done) | (go_simp; rfl)); intro gb152 hg w43 hbox hb; have n0_ := Aside0.mk (Kd.R_below (by (with_reducible repeat (first | apply Kd.R_alloc | apply Kd.R_drewN | apply Kd.R_drew)); exact HO_5.out) hb); have n1_ := Aside0.mk (Kd.R_below (Kd.R_elderB (by (with_reducible repeat (first | apply Kd.R_alloc | apply Kd.R_drewN | apply Kd.R_drew)); exact HO_7.out) gb152 (Nat.le_of_eq hg.symm)) hb); have n2_ := Aside0.mk (Kd.R_below (by (with_reducible repeat (first | apply Kd.R_alloc | apply Kd.R_drewN | apply Kd.R_drew)); exact HO_9.out) hb); have n3_ := Aside0.mk (Kd.R_below (by (with_reducible repeat (first | apply Kd.R_alloc | apply Kd.R_drewN | apply Kd.R_drew)); exact HO_10.out) hb); have n4_ := Aside0.mk (blk_below (g := gb148) (o := .cells #[.int .i64 t145, .int .i64 t146] 31 (0, 0)) (by (with_reducible repeat (first | refine blk_drewN ?_ _ | refine blk_drew ?_ | refine blk_alloc ?_ _)); exact BK148.out) hb); have n5_ := Aside0.mk (below_step (by repeat (first | (with_reducible first | exact HB.out | apply below_alloc | apply pw_below_drewN | apply below_drew1 | refine below_set ?_ GE148.out) | exact HB.out)) hb); have n6_ := Aside0.mk (hbox); have n7_ := Aside0.mk ((by rw [hg]; exact (below_size (by repeat (first | (with_reducible first | exact HB.out | apply below_alloc | apply pw_below_drewN | apply below_drew1 | refine below_set ?_ GE148.out) | exact HB.out))) : w.heap.size ≤ gb152)); have n8_ := Aside0.mk ((by rw [hg]; exact (below_size (by repeat (first | (with_reducible first | exact HB.out | apply below_alloc | apply pw_below_drewN | apply below_drew1 | refine below_set ?_ GE148.out) | exact HB.out))) : w.heap.size ≤ gb152)); have n9_ := Aside0.mk ((by rw [hg]; exact Nat.ne_of_lt (blk_lt (g := gb148) (o := .cells #[.int .i64 t145, .int .i64 t146] 31 (0, 0)) (by (with_reducible repeat (first | refine blk_drewN ?_ _ | refine blk_drew ?_ | refine blk_alloc ?_ _)); exact BK148.out)) : gb148 ≠ gb152)); have n10_ := Aside0.mk ((by rw [hg]; exact Nat.ne_of_gt (blk_lt (g := gb148) (o := .cells #[.int .i64 t145, .int .i64 t146] 31 (0, 0)) (by (with_reducible repeat (first | refine blk_drewN ?_ _ | refine blk_drew ?_ | refine blk_alloc ?_ _)); exact BK148.out)) : gb152 ≠ gb148)); clear HO_5; clear HO_7; clear HO_9; clear HO_10; clear BK148; clear HB; have HO_5 := n0_; have HO_7 := n1_; have HO_9 := n2_; have HO_10 := n3_; have BK148 := n4_; have HB := n5_; have BK152 := n6_; have GW152 := n7_; have GE152 := n8_; have NB148_152 := n9_; have NB152_148 := n10_; clear n0_ n1_ n2_ n3_ n4_ n5_ n6_ n7_ n8_ n9_ n10_; clear hb hbox hg; have hnb44 := NB152_148.out; have hnc44 := NB148_152.out; have hcz45_0 : w43.cell? ⟨gb152, 0, none⟩ = some (.int .i64 0) := (blk_cell BK152.out 0).trans rfl; have hcz45_1 : w43.cell? ⟨gb152, 1, none⟩ = some (.int .i64 0) := (blk_cell BK152.out 1).trans rfl; have hfz45_0 := blk_frozen BK152.out 0; have hfz45_1 := blk_frozen BK152.out 1) | ((with_reducible refine gate_store (t := 31) (p := 14) rfl ?_); refine store_event (t := 31) (p := 14) (v := ?vo_w46) (w1 := ((w43.setCell ⟨gb152, 0, none⟩ (.int .i64 t149)).setCell ⟨gb152, 1, none⟩ (.int .i64 t150))) ?hg ?ho ?hn ?hr ?_; (case ho => rfl); (case hg => rfl); (case hn => rfl); (case hr => first | (go_simp; done) | (go_simp; rfl)); intro w46 hw; have n0_ : Aside0 (Kd.R (Kd.int .i64) 3 w46 w.heap.size (fun k_ => some k_ ≠ (.slice Ao36 x9_2.length co36 : Value).ownBlock ∧ some k_ ≠ (.slice Ao37 x10_2.length co37 : Value).ownBlock) (.slice Ao11 t133.length co11) t133) := ⟨(by rw [hw]; exact (by (with_reducible repeat (first | apply Kd.R_alloc | apply Kd.R_drewN | apply Kd.R_drew)); exact Kd.R_mono (Kd.R_far (p := ⟨gb152, 1, none⟩) (Kd.R_far (p := ⟨gb152, 0, none⟩) (Kd.R_types HO_5.out BK152.out (by decide)) (fun _ hk => hk.2) (.int .i64 t149)) (fun _ hk => hk.2) (.int .i64 t150)) (fun _ hk => ⟨hk.1.1, hk.1.2⟩)))⟩; have n1_ : Aside0 (Kd.R k31 31 w46 w.heap.size (fun k_ => k_ ≠ gb148 ∧ k_ ≠ gb152) u7 x7_1) := ⟨(by rw [hw]; exact (by (with_reducible repeat (first | apply Kd.R_alloc | apply Kd.R_drewN | apply Kd.R_drew)); exact Kd.R_mono (Kd.R_far (p := ⟨gb152, 1, none⟩) (Kd.R_far (p := ⟨gb152, 0, none⟩) (Kd.R_mono HO_7.out (fun k_ hk => (⟨hk, hk.2⟩ : _ ∧ k_ ≠ gb152))) (fun _ hk => hk.2) (.int .i64 t149)) (fun _ hk => hk.2) (.int .i64 t150)) (fun _ hk => ⟨hk.1.1, hk.1.2⟩)))⟩; have n2_ : Aside0 (Kd.R (Kd.int .i64) 3 w46 w.heap.size (fun k_ => some k_ ≠ (.slice Ao11 t133.length co11 : Value).ownBlock ∧ some k_ ≠ (.slice Ao37 x10_2.length co37 : Value).ownBlock) (.slice Ao36 x9_2.length co36) x9_2) := ⟨(by rw [hw]; exact (by (with_reducible repeat (first | apply Kd.R_alloc | apply Kd.R_drewN | apply Kd.R_drew)); exact Kd.R_mono (Kd.R_far (p := ⟨gb152, 1, none⟩) (Kd.R_far (p := ⟨gb152, 0, none⟩) (Kd.R_types HO_9.out BK152.out (by decide)) (fun _ hk => hk.2) (.int .i64 t149)) (fun _ hk => hk.2) (.int .i64 t150)) (fun _ hk => ⟨hk.1.1, hk.1.2⟩)))⟩; have n3_ : Aside0 (Kd.R (Kd.int .i64) 3 w46 w.heap.size (fun k_ => some k_ ≠ (.slice Ao11 t133.length co11 : Value).ownBlock ∧ some k_ ≠ (.slice Ao36 x9_2.length co36 : Value).ownBlock) (.slice Ao37 x10_2.length co37) x10_2) := ⟨(by rw [hw]; exact (by (with_reducible repeat (first | apply Kd.R_alloc | apply Kd.R_drewN | apply Kd.R_drew)); exact Kd.R_mono (Kd.R_far (p := ⟨gb152, 1, none⟩) (Kd.R_far (p := ⟨gb152, 0, none⟩) (Kd.R_types HO_10.out BK152.out (by decide)) (fun _ hk => hk.2) (.int .i64 t149)) (fun _ hk => hk.2) (.int .i64 t150)) (fun _ hk => ⟨hk.1.1, hk.1.2⟩)))⟩; have n4_ : Aside0 (w46.heap[gb148]? = some (.cells #[.int .i64 t145, .int .i64 t146] 31 (0, 0))) := ⟨(by rw [hw]; exact (by (with_reducible repeat (first | refine blk_drewN ?_ _ | refine blk_drew ?_ | refine blk_alloc ?_ _)); refine blk_far ?_ NB148_152.out _; (with_reducible repeat (first | refine blk_drewN ?_ _ | refine blk_drew ?_ | refine blk_alloc ?_ _)); refine blk_far ?_ NB148_152.out _; (with_reducible repeat (first | refine blk_drewN ?_ _ | refine blk_drew ?_ | refine blk_alloc ?_ _)); exact BK148.out))⟩; have n5_ : Aside0 (w46.heap[gb152]? = some (.cells #[.int .i64 t149, .int .i64 t150] 31 (0, 0))) := ⟨(by rw [hw]; exact (by (with_reducible repeat (first | refine blk_drewN ?_ _ | refine blk_drew ?_ | refine blk_alloc ?_ _)); refine blk_put (cs := #[.int .i64 t149, .int .i64 0]) ?_ 1 _ rfl; (with_reducible repeat (first | refine blk_drewN ?_ _ | refine blk_drew ?_ | refine blk_alloc ?_ _)); refine blk_put (cs := #[.int .i64 0, .int .i64 0]) ?_ 0 _ rfl; (with_reducible repeat (first | refine blk_drewN ?_ _ | refine blk_drew ?_ | refine blk_alloc ?_ _)); exact BK152.out))⟩; have n6_ : Aside0 (Below w.heap.size w w46) := ⟨(by rw [hw]; exact (by repeat (first | (with_reducible first | exact HB.out | apply below_alloc | apply pw_below_drewN | apply below_drew1 | refine below_set ?_ GE148.out | refine below_set ?_ GE152.out) | exact HB.out)))⟩; clear hw; clear HO_5; clear HO_7; clear HO_9; clear HO_10; clear BK148; clear BK152; clear HB; have HO_5 := n0_; have HO_7 := n1_; have HO_9 := n2_; have HO_10 := n3_; have BK148 := n4_; have BK152 := n5_; have HB := n6_; clear n0_ n1_ n2_ n3_ n4_ n5_ n6_; have hcz47_0 : w46.cell? ⟨gb148, 0, none⟩ = some (.int .i64 t145) := (blk_cell BK148.out 0).trans rfl; have hcz47_1 : w46.cell? ⟨gb148, 1, none⟩ = some (.int .i64 t146) := (blk_cell BK148.out 1).trans rfl; have hfz47_0 := blk_frozen BK148.out 0; have hfz47_1 := blk_frozen BK148.out 1; have hcz48_0 : w46.cell? ⟨gb152, 0, none⟩ = some (.int .i64 t149) := (blk_cell BK152.out 0).trans rfl; have hcz48_1 : w46.cell? ⟨gb152, 1, none⟩ = some (.int .i64 t150) := (blk_cell BK152.out 1).trans rfl; have hfz48_0 := blk_frozen BK152.out 0; have hfz48_1 := blk_frozen BK152.out 1) | ((with_reducible refine gate_builtin (b := .append) (xs := #[.tmp 93, .tmp 95]) rfl ?_); at_builtin; refine Kd.R_append k31 (w0 := w) w.heap.size rfl (.tmp 93) (.tmp 95) 28 31 (.agg #[(.int .i64 0), (.int .i64 0)]) 16 rfl Try.underlying28 info31 rfl (by decide) (by omega) u7 x7_1 (⟨t145, t146⟩ : S31) [.int .i64 t145, .int .i64 t146] (fun k_ => k_ ≠ gb148 ∧ k_ ≠ gb152) (fun _ => False) rfl rfl ?aP (fun _ hk => hk.elim) ?aF ?aO ?aB ?aS ?aL ?_; (case aP => exact k31_mkM _ _ _ (⟨t145, t146⟩ : S31)); (case aB => exact (by repeat (first | (with_reducible first | exact HB.out | apply below_alloc | apply pw_below_drewN | apply below_drew1 | refine below_set ?_ GE148.out | refine below_set ?_ GE152.out) | exact HB.out))); (case aF => exact (fun k_ hk => ⟨Kd.freshB (g := gb148) (o := .cells #[.int .i64 t145, .int .i64 t146] 31 (0, 0)) (by (with_reducible repeat (first | refine blk_drewN ?_ _ | refine blk_drew ?_ | refine blk_alloc ?_ _)); exact BK148.out) k_ hk, Kd.freshB (g := gb152) (o := .cells #[.int .i64 t149, .int .i64 t150] 31 (0, 0)) (by (with_reducible repeat (first | refine blk_drewN ?_ _ | refine blk_drew ?_ | refine blk_alloc ?_ _)); exact BK152.out) k_ hk⟩)); (case aO => exact (by (with_reducible repeat (first | apply Kd.R_alloc | apply Kd.R_drewN | apply Kd.R_drew)); exact HO_7.out)); (case aS => exact (below_size (by repeat (first | (with_reducible first | exact HB.out | apply below_alloc | apply pw_below_drewN | apply below_drew1 | refine below_set ?_ GE148.out | refine below_set ?_ GE152.out) | exact HB.out)))); (case aL => have := LMc35.out; omega); intro v154 w49 ho hb hg hat; rw [← Ny153.out] at ho; have n0_ := Aside0.mk (Kd.R_over' (by (with_reducible repeat (first | apply Kd.R_alloc | apply Kd.R_drewN | apply Kd.R_drew)); exact HO_5.out) (Kd.R_typed (by (with_reducible repeat (first | apply Kd.R_alloc | apply Kd.R_drewN | apply Kd.R_drew)); exact HO_7.out)) (by decide) hg); have n1_ := Aside0.mk (Kd.R_over' (by (with_reducible repeat (first | apply Kd.R_alloc | apply Kd.R_drewN | apply Kd.R_drew)); exact HO_9.out) (Kd.R_typed (by (with_reducible repeat (first | apply Kd.R_alloc | apply Kd.R_drewN | apply Kd.R_drew)); exact HO_7.out)) (by decide) hg); have n2_ := Aside0.mk (Kd.R_over' (by (with_reducible repeat (first | apply Kd.R_alloc | apply Kd.R_drewN | apply Kd.R_drew)); exact HO_10.out) (Kd.R_typed (by (with_reducible repeat (first | apply Kd.R_alloc | apply Kd.R_drewN | apply Kd.R_drew)); exact HO_7.out)) (by decide) hg); have n3_ := Aside0.mk (blk_grown (g := gb148) (o := .cells #[.int .i64 t145, .int .i64 t146] 31 (0, 0)) (by (with_reducible repeat (first | refine blk_drewN ?_ _ | refine blk_drew ?_ | refine blk_alloc ?_ _)); exact BK148.out) hg (Kd.R_away HO_7.out (fun _ hk => hk.1))); have n4_ := Aside0.mk (blk_grown (g := gb152) (o := .cells #[.int .i64 t149, .int .i64 t150] 31 (0, 0)) (by (with_reducible repeat (first | refine blk_drewN ?_ _ | refine blk_drew ?_ | refine blk_alloc ?_ _)); exact BK152.out) hg (Kd.R_away HO_7.out (fun _ hk => hk.2))); have n5_ := Aside0.mk (hb); have n6_ := Aside0.mk (ho); clear HO_5; clear HO_9; clear HO_10; clear BK148; clear BK152; clear HB; clear HO_7; have HO_5 := n0_; have HO_9 := n1_; have HO_10 := n2_; have BK148 := n3_; have BK152 := n4_; have HB := n5_; have HO155 := n6_; clear n0_ n1_ n2_ n3_ n4_ n5_ n6_; clear ho hb hg hat))
                              go_roundg k2
                              case measure => have := HK1.out; have := HK2.out; omega
                              case rel => exact ⟨(y153), (wrap64 (x8_1 + 1)), (by first | rfl | (simp; done) | (simp [*]; done)), H', ⟨by have := HK1.out; have := HK2.out; omega⟩, ⟨by (with_reducible repeat (first | apply Kd.R_alloc | apply Kd.R_drewN | apply Kd.R_drew)); exact Kd.R_mono HO_5.out (fun _ hk => trivial)⟩, ⟨by (with_reducible repeat (first | apply Kd.R_alloc | apply Kd.R_drewN | apply Kd.R_drew)); exact Kd.R_mono HO155.out (fun _ hk => trivial)⟩, ⟨by repeat (first | (with_reducible first | exact HB.out | apply below_alloc | apply pw_below_drewN | apply below_drew1 | refine below_set ?_ GE148.out | refine below_set ?_ GE152.out) | exact HB.out)⟩⟩
                            · rw [if_neg c35] at H
                              exact absurd H (by simp)
                        · rw [if_neg c33] at H
                          exact absurd H (by simp)
                      · rw [if_neg c32] at H
                        exact absurd H (by simp)
                    · rw [if_neg c29] at H
                      have c29b0 : ((x9_2.length : Int) == (Int.tmod (wrap64 (a1)) (wrap64 ((t133.length : Int) + 1)))) = false := beq_eq_false_iff_ne.mpr c29
                      have c29b1 : ((x9_2.length : Int) != (Int.tmod (wrap64 (a1)) (wrap64 ((t133.length : Int) + 1)))) = true := bne_iff_ne.mpr c29
                      have H' := Aside0.mk H
                      clear H
                      obtain ⟨Ao50, co50, eo50⟩ := Kd.R_slice HO_9.out
                      subst eo50
                      go_wp2
                      go_roundg k2
                      case measure => have := HK1.out; have := HK2.out; omega
                      case rel => exact ⟨(x7_1), (wrap64 (x8_1 + 1)), (by first | rfl | (simp; done) | (simp [*]; done)), H', ⟨by have := HK1.out; have := HK2.out; omega⟩, ⟨by (with_reducible repeat (first | apply Kd.R_alloc | apply Kd.R_drewN | apply Kd.R_drew)); exact Kd.R_mono HO_5.out (fun _ hk => trivial)⟩, ⟨by (with_reducible repeat (first | apply Kd.R_alloc | apply Kd.R_drewN | apply Kd.R_drew)); exact HO_7.out⟩, ⟨by repeat (first | (with_reducible first | exact HB.out | apply below_alloc | apply pw_below_drewN | apply below_drew1) | exact HB.out)⟩⟩
            · rw [if_neg c15] at H
              have c15b0 : decide (x8_1 < (ji14)) = false := decide_eq_false c15
              clear c15
              have H' := Aside0.mk H
              clear H
              obtain ⟨Ao51, co51, eo51⟩ := Kd.R_slice HO_7.out
              subst eo51
              go_wp2
              go_loopg [99] k1 (fun kq v99 w' => ∃ (x99_2 : Int), v99 = .int .i64 x99_2 ∧ Aside0 (synopticlaw39_SamplingExchanges.l2 kq x7_1 x7_1 (x7_1.length : Int) x99_2 = some r) ∧ Aside0 (kq ≤ k1) ∧ Aside0 (Kd.R k31 31 w' w.heap.size (fun _ => True) (.slice Ao51 x7_1.length co51) x7_1) ∧ Aside0 (Kd.R k31 31 w' w.heap.size (fun _ => True) (.slice Ao51 x7_1.length co51) x7_1) ∧ Aside0 (Below w.heap.size w w'))
              case atStart => exact ⟨(0), (by first | rfl | (simp; done) | (simp [*]; done)), H', ⟨Nat.le_refl _⟩, ⟨by (with_reducible repeat (first | apply Kd.R_alloc | apply Kd.R_drewN | apply Kd.R_drew)); exact HO_7.out⟩, ⟨by (with_reducible repeat (first | apply Kd.R_alloc | apply Kd.R_drewN | apply Kd.R_drew)); exact HO_7.out⟩, ⟨by repeat (first | (with_reducible first | exact HB.out | apply below_alloc | apply pw_below_drewN | apply below_drew1) | exact HB.out)⟩⟩
              case round =>
                clear H'
                try clear c1
                try clear p1
                try clear q1
                try clear hx1
                try clear c2
                try clear p2
                try clear c3
                try clear c4
                try clear c6
                try clear p6
                try clear c7
                try clear c7b0
                try clear c7b1
                try clear c9
                try clear c10
                try clear c11
                try clear c13
                try clear c13b0
                try clear c13b1
                try clear p13
                try clear q13
                try clear hx13
                try clear p14
                try clear q14
                try clear hx14
                try clear c15
                try clear c15b0
                try clear c16
                try clear c16b0
                try clear c18
                try clear c18b0
                try clear c18b1
                try clear c20
                try clear c20b0
                try clear c20b1
                try clear c21
                try clear c21b0
                try clear c22
                try clear c22b0
                try clear c23
                try clear c25
                try clear c25b0
                try clear c26
                try clear c26b0
                try clear c27
                try clear c29
                try clear c29b0
                try clear c29b1
                try clear c32
                try clear c32b0
                try clear c32b1
                try clear c33
                try clear c33b0
                try clear c33b1
                try clear c34
                try clear c34b0
                try clear c35
                try clear c44
                try clear hcz40_0
                try clear hcz40_1
                try clear hcz45_0
                try clear hcz45_1
                try clear hcz47_0
                try clear hcz47_1
                try clear hcz48_0
                try clear hcz48_1
                try clear hfz40_0
                try clear hfz40_1
                try clear hfz45_0
                try clear hfz45_1
                try clear hfz47_0
                try clear hfz47_1
                try clear hfz48_0
                try clear hfz48_1
                try clear hx137_0
                try clear hx141_0
                try clear p137
                try clear p141
                try clear p2
                try clear p6
                try clear q137
                try clear q141
                obtain ⟨x99_2, rfl, HA, HK2, HO_7, HO_97, HB⟩ := hrel
                cases gk with
                | zero => exact absurd HA.out (by simp [synopticlaw39_SamplingExchanges.l2])
                | succ k2 =>
                  have H := HA.out
                  clear HA
                  simp only [synopticlaw39_SamplingExchanges.l2] at H
                  by_cases c52 : x99_2 < (x7_1.length : Int)
                  · rw [if_pos c52] at H
                    have c52b0 : decide (x99_2 < (x7_1.length : Int)) = true := decide_eq_true c52
                    clear c52
                    by_cases c53 : 0 ≤ x99_2
                    · rw [if_pos c53] at H
                      have c53b0 : decide (0 ≤ x99_2) = true := decide_eq_true c53
                      clear c53
                      by_cases c54 : x99_2 < (x7_1.length : Int)
                      · rw [if_pos c54] at H
                        have c54b0 : decide (x99_2 < (x7_1.length : Int)) = true := decide_eq_true c54
                        clear c54
                        have H' := Aside0.mk H
                        clear H
                        have p156 : 0 ≤ (x99_2 : Int) := of_decide_eq_true (by first | (with_reducible assumption) | assumption)
                        have q156 : x99_2 < (x7_1.length : Int) := of_decide_eq_true (by first | (with_reducible assumption) | assumption)
                        obtain ⟨ad156, e156, hx156_0, hx156_1⟩ := at_T31 (Kd.R_reads' HO_97.out).2.2 x99_2 p156 q156
                        cases e156
                        replace p156 := eq_true p156
                        replace q156 := eq_true q156
                        go_wp2_with (first | ((with_reducible refine gate_dst (N := 17) rfl ?_); refine box_event ?hg (N := 17) ?hd (cs := #[.int .i64 0, .int .i64 0]) (t := 31) ?hr ?_; (case hd => rfl); (case hg => rfl); (case hr => first | (go_simp; done) | (go_simp; rfl)); intro gb157 hg w55 hbox hb; have n0_ := Aside0.mk (Kd.R_below (Kd.R_elderB (by (with_reducible repeat (first | apply Kd.R_alloc | apply Kd.R_drewN | apply Kd.R_drew)); exact HO_7.out) gb157 (Nat.le_of_eq hg.symm)) hb); have n1_ := Aside0.mk (Kd.R_below (Kd.R_elderB (by (with_reducible repeat (first | apply Kd.R_alloc | apply Kd.R_drewN | apply Kd.R_drew)); exact HO_97.out) gb157 (Nat.le_of_eq hg.symm)) hb); have n2_ := Aside0.mk (below_step (by repeat (first | (with_reducible first | exact HB.out | apply below_alloc | apply pw_below_drewN | apply below_drew1) | exact HB.out)) hb); have n3_ := Aside0.mk (hbox); have n4_ := Aside0.mk ((by rw [hg]; exact (below_size (by repeat (first | (with_reducible first | exact HB.out | apply below_alloc | apply pw_below_drewN | apply below_drew1) | exact HB.out))) : w.heap.size ≤ gb157)); have n5_ := Aside0.mk ((by rw [hg]; exact (below_size (by repeat (first | (with_reducible first | exact HB.out | apply below_alloc | apply pw_below_drewN | apply below_drew1) | exact HB.out))) : w.heap.size ≤ gb157)); clear HO_7; clear HO_97; clear HB; have HO_7 := n0_; have HO_97 := n1_; have HB := n2_; have BK157 := n3_; have GW157 := n4_; have GE157 := n5_; clear n0_ n1_ n2_ n3_ n4_ n5_; clear hb hbox hg; have hcz56_0 : w55.cell? ⟨gb157, 0, none⟩ = some (.int .i64 0) := (blk_cell BK157.out 0).trans rfl; have hcz56_1 : w55.cell? ⟨gb157, 1, none⟩ = some (.int .i64 0) := (blk_cell BK157.out 1).trans rfl; have hfz56_0 := blk_frozen BK157.out 0; have hfz56_1 := blk_frozen BK157.out 1) | ((with_reducible refine gate_store (t := 31) (p := 17) rfl ?_); refine store_event (t := 31) (p := 17) (v := ?vo_w57) (w1 := ((w55.setCell ⟨gb157, 0, none⟩ (.int .i64 ((rd_T31 x7_1 x99_2).f0))).setCell ⟨gb157, 1, none⟩ (.int .i64 ((rd_T31 x7_1 x99_2).f1)))) ?hg ?ho ?hn ?hr ?_; (case ho => rfl); (case hg => rfl); (case hn => rfl); (case hr => first | (go_simp; done) | (go_simp; rfl)); intro w57 hw; have n0_ : Aside0 (Kd.R k31 31 w57 w.heap.size (fun k_ => k_ ≠ gb157) (.slice (some ad156) x7_1.length co51) x7_1) := ⟨(by rw [hw]; exact (by (with_reducible repeat (first | apply Kd.R_alloc | apply Kd.R_drewN | apply Kd.R_drew)); exact Kd.R_mono (Kd.R_far (p := ⟨gb157, 1, none⟩) (Kd.R_far (p := ⟨gb157, 0, none⟩) (Kd.R_mono HO_7.out (fun k_ hk => (⟨hk, hk.2⟩ : _ ∧ k_ ≠ gb157))) (fun _ hk => hk.2) (.int .i64 ((rd_T31 x7_1 x99_2).f0))) (fun _ hk => hk.2) (.int .i64 ((rd_T31 x7_1 x99_2).f1))) (fun _ hk => hk.1.2)))⟩; have n1_ : Aside0 (Kd.R k31 31 w57 w.heap.size (fun k_ => k_ ≠ gb157) (.slice (some ad156) x7_1.length co51) x7_1) := ⟨(by rw [hw]; exact (by (with_reducible repeat (first | apply Kd.R_alloc | apply Kd.R_drewN | apply Kd.R_drew)); exact Kd.R_mono (Kd.R_far (p := ⟨gb157, 1, none⟩) (Kd.R_far (p := ⟨gb157, 0, none⟩) (Kd.R_mono HO_97.out (fun k_ hk => (⟨hk, hk.2⟩ : _ ∧ k_ ≠ gb157))) (fun _ hk => hk.2) (.int .i64 ((rd_T31 x7_1 x99_2).f0))) (fun _ hk => hk.2) (.int .i64 ((rd_T31 x7_1 x99_2).f1))) (fun _ hk => hk.1.2)))⟩; have n2_ : Aside0 (w57.heap[gb157]? = some (.cells #[.int .i64 ((rd_T31 x7_1 x99_2).f0), .int .i64 ((rd_T31 x7_1 x99_2).f1)] 31 (0, 0))) := ⟨(by rw [hw]; exact (by (with_reducible repeat (first | refine blk_drewN ?_ _ | refine blk_drew ?_ | refine blk_alloc ?_ _)); refine blk_put (cs := #[.int .i64 ((rd_T31 x7_1 x99_2).f0), .int .i64 0]) ?_ 1 _ rfl; (with_reducible repeat (first | refine blk_drewN ?_ _ | refine blk_drew ?_ | refine blk_alloc ?_ _)); refine blk_put (cs := #[.int .i64 0, .int .i64 0]) ?_ 0 _ rfl; (with_reducible repeat (first | refine blk_drewN ?_ _ | refine blk_drew ?_ | refine blk_alloc ?_ _)); exact BK157.out))⟩; have n3_ : Aside0 (Below w.heap.size w w57) := ⟨(by rw [hw]; exact (by repeat (first | (with_reducible first | exact HB.out | apply below_alloc | apply pw_below_drewN | apply below_drew1 | refine below_set ?_ GE157.out) | exact HB.out)))⟩; clear hw; clear HO_7; clear HO_97; clear BK157; clear HB; have HO_7 := n0_; have HO_97 := n1_; have BK157 := n2_; have HB := n3_; clear n0_ n1_ n2_ n3_))
                        go_loopg [18, 105] k2 (fun kq v18 v105 w' => ∃ (x18_3 : Int) (x105_3 : Int), v18 = .int .i64 x18_3 ∧ v105 = .int .i64 x105_3 ∧ Aside0 (synopticlaw39_SamplingExchanges.l3 kq x7_1 x18_3 x7_1 (x7_1.length : Int) x99_2 x7_1 (x7_1.length : Int) x105_3 ((rd_T31 x7_1 x99_2).f0) ((rd_T31 x7_1 x99_2).f1) = some r) ∧ Aside0 (kq ≤ k2) ∧ Aside0 (Kd.R k31 31 w' w.heap.size (fun k_ => k_ ≠ gb157) (.slice (some ad156) x7_1.length co51) x7_1) ∧ Aside0 (Kd.R k31 31 w' w.heap.size (fun k_ => k_ ≠ gb157) (.slice (some ad156) x7_1.length co51) x7_1) ∧ Aside0 (Kd.R k31 31 w' w.heap.size (fun k_ => k_ ≠ gb157) (.slice (some ad156) x7_1.length co51) x7_1) ∧ Aside0 (w'.heap[gb157]? = some (.cells #[.int .i64 ((rd_T31 x7_1 x99_2).f0), .int .i64 ((rd_T31 x7_1 x99_2).f1)] 31 (0, 0))) ∧ Aside0 (Below w.heap.size w w'))
                        case atStart => exact ⟨(0), (0), (by first | rfl | (simp; done) | (simp [*]; done)), (by first | rfl | (simp; done) | (simp [*]; done)), H', ⟨Nat.le_refl _⟩, ⟨by (with_reducible repeat (first | apply Kd.R_alloc | apply Kd.R_drewN | apply Kd.R_drew)); exact HO_7.out⟩, ⟨by (with_reducible repeat (first | apply Kd.R_alloc | apply Kd.R_drewN | apply Kd.R_drew)); exact HO_97.out⟩, ⟨by (with_reducible repeat (first | apply Kd.R_alloc | apply Kd.R_drewN | apply Kd.R_drew)); exact HO_7.out⟩, ⟨by (with_reducible repeat (first | refine blk_drewN ?_ _ | refine blk_drew ?_ | refine blk_alloc ?_ _)); exact BK157.out⟩, ⟨by repeat (first | (with_reducible first | exact HB.out | apply below_alloc | apply pw_below_drewN | apply below_drew1 | refine below_set ?_ GE157.out) | exact HB.out)⟩⟩
                        case round =>
                          clear H'
                          try clear c1
                          try clear p1
                          try clear q1
                          try clear hx1
                          try clear c2
                          try clear p2
                          try clear c3
                          try clear c4
                          try clear c5
                          try clear c6
                          try clear p6
                          try clear c7
                          try clear c7b0
                          try clear c7b1
                          try clear c9
                          try clear c10
                          try clear c11
                          try clear c13
                          try clear c13b0
                          try clear c13b1
                          try clear p13
                          try clear q13
                          try clear hx13
                          try clear p14
                          try clear q14
                          try clear hx14
                          try clear c15
                          try clear c15b0
                          try clear p15
                          try clear q15
                          try clear hx15
                          try clear c16
                          try clear c16b0
                          try clear c18
                          try clear c18b0
                          try clear c18b1
                          try clear c20
                          try clear c20b0
                          try clear c20b1
                          try clear c21
                          try clear c21b0
                          try clear c22
                          try clear c22b0
                          try clear c23
                          try clear c25
                          try clear c25b0
                          try clear c26
                          try clear c26b0
                          try clear c27
                          try clear c29
                          try clear c29b0
                          try clear c29b1
                          try clear c32
                          try clear c32b0
                          try clear c32b1
                          try clear c33
                          try clear c33b0
                          try clear c33b1
                          try clear c34
                          try clear c34b0
                          try clear c35
                          try clear c44
                          try clear c52
                          try clear c52b0
                          try clear c53
                          try clear c53b0
                          try clear c54
                          try clear c54b0
                          try clear hcz40_0
                          try clear hcz40_1
                          try clear hcz45_0
                          try clear hcz45_1
                          try clear hcz47_0
                          try clear hcz47_1
                          try clear hcz48_0
                          try clear hcz48_1
                          try clear hcz56_0
                          try clear hcz56_1
                          try clear hfz40_0
                          try clear hfz40_1
                          try clear hfz45_0
                          try clear hfz45_1
                          try clear hfz47_0
                          try clear hfz47_1
                          try clear hfz48_0
                          try clear hfz48_1
                          try clear hfz56_0
                          try clear hfz56_1
                          try clear hx137_0
                          try clear hx141_0
                          try clear hx156_0
                          try clear hx156_1
                          try clear p1
                          try clear p13
                          try clear p137
                          try clear p14
                          try clear p141
                          try clear p156
                          try clear p2
                          try clear p6
                          try clear q1
                          try clear q13
                          try clear q137
                          try clear q14
                          try clear q141
                          try clear q156
                          obtain ⟨x18_3, x105_3, rfl, rfl, HA, HK3, HO_7, HO_97, HO_103, BK157, HB⟩ := hrel
                          cases gk with
                          | zero => exact absurd HA.out (by simp [synopticlaw39_SamplingExchanges.l3])
                          | succ k3 =>
                            have H := HA.out
                            clear HA
                            simp only [synopticlaw39_SamplingExchanges.l3] at H
                            by_cases c58 : x105_3 < (x7_1.length : Int)
                            · rw [if_pos c58] at H
                              have c58b0 : decide (x105_3 < (x7_1.length : Int)) = true := decide_eq_true c58
                              clear c58
                              by_cases c59 : 0 ≤ x105_3
                              · rw [if_pos c59] at H
                                have c59b0 : decide (0 ≤ x105_3) = true := decide_eq_true c59
                                clear c59
                                by_cases c60 : x105_3 < (x7_1.length : Int)
                                · rw [if_pos c60] at H
                                  have c60b0 : decide (x105_3 < (x7_1.length : Int)) = true := decide_eq_true c60
                                  clear c60
                                  replace H := Option.bind_eq_some_iff.mp H
                                  obtain ⟨t160, A610, H⟩ := H
                                  replace H : (if t160 ≤ 0 then (synopticlaw39_SamplingExchanges.l3 k3 x7_1 (wrap64 (x18_3 + 1)) x7_1 (x7_1.length : Int) x99_2 x7_1 (x7_1.length : Int) (wrap64 (x105_3 + 1)) ((rd_T31 x7_1 x99_2).f0) ((rd_T31 x7_1 x99_2).f1)) else (synopticlaw39_SamplingExchanges.l3 k3 x7_1 x18_3 x7_1 (x7_1.length : Int) x99_2 x7_1 (x7_1.length : Int) (wrap64 (x105_3 + 1)) ((rd_T31 x7_1 x99_2).f0) ((rd_T31 x7_1 x99_2).f1))) = some r := H
                                  have A61 := Aside0.mk A610
                                  clear A610
                                  by_cases c62 : t160 ≤ 0
                                  · rw [if_pos c62] at H
                                    have c62b0 : decide (t160 ≤ 0) = true := decide_eq_true c62
                                    clear c62
                                    have H' := Aside0.mk H
                                    clear H
                                    have p158 : 0 ≤ (x105_3 : Int) := of_decide_eq_true (by first | (with_reducible assumption) | assumption)
                                    have q158 : x105_3 < (x7_1.length : Int) := of_decide_eq_true (by first | (with_reducible assumption) | assumption)
                                    obtain ⟨ad158, e158, hx158_0, hx158_1⟩ := at_T31 (Kd.R_reads' HO_103.out).2.2 x105_3 p158 q158
                                    obtain rfl : ad156 = ad158 := (by injection e158)
                                    replace p158 := eq_true p158
                                    replace q158 := eq_true q158
                                    go_wp2_with (first | ((with_reducible refine gate_dst (N := 20) rfl ?_); refine box_event ?hg (N := 20) ?hd (cs := #[.int .i64 0, .int .i64 0]) (t := 31) ?hr ?_; (case hd => rfl); (case hg => rfl); (case hr => first | (go_simp; done) | (go_simp; rfl)); intro gb159 hg w63 hbox hb; have n0_ := Aside0.mk (Kd.R_below (Kd.R_elderB (by (with_reducible repeat (first | apply Kd.R_alloc | apply Kd.R_drewN | apply Kd.R_drew)); exact HO_7.out) gb159 (Nat.le_of_eq hg.symm)) hb); have n1_ := Aside0.mk (Kd.R_below (Kd.R_elderB (by (with_reducible repeat (first | apply Kd.R_alloc | apply Kd.R_drewN | apply Kd.R_drew)); exact HO_97.out) gb159 (Nat.le_of_eq hg.symm)) hb); have n2_ := Aside0.mk (Kd.R_below (Kd.R_elderB (by (with_reducible repeat (first | apply Kd.R_alloc | apply Kd.R_drewN | apply Kd.R_drew)); exact HO_103.out) gb159 (Nat.le_of_eq hg.symm)) hb); have n3_ := Aside0.mk (blk_below (g := gb157) (o := .cells #[.int .i64 ((rd_T31 x7_1 x99_2).f0), .int .i64 ((rd_T31 x7_1 x99_2).f1)] 31 (0, 0)) (by (with_reducible repeat (first | refine blk_drewN ?_ _ | refine blk_drew ?_ | refine blk_alloc ?_ _)); exact BK157.out) hb); have n4_ := Aside0.mk (below_step (by repeat (first | (with_reducible first | exact HB.out | apply below_alloc | apply pw_below_drewN | apply below_drew1 | refine below_set ?_ GE157.out) | exact HB.out)) hb); have n5_ := Aside0.mk (hbox); have n6_ := Aside0.mk ((by rw [hg]; exact (below_size (by repeat (first | (with_reducible first | exact HB.out | apply below_alloc | apply pw_below_drewN | apply below_drew1 | refine below_set ?_ GE157.out) | exact HB.out))) : w.heap.size ≤ gb159)); have n7_ := Aside0.mk ((by rw [hg]; exact (below_size (by repeat (first | (with_reducible first | exact HB.out | apply below_alloc | apply pw_below_drewN | apply below_drew1 | refine below_set ?_ GE157.out) | exact HB.out))) : w.heap.size ≤ gb159)); have n8_ := Aside0.mk ((by rw [hg]; exact Nat.ne_of_lt (blk_lt (g := gb157) (o := .cells #[.int .i64 ((rd_T31 x7_1 x99_2).f0), .int .i64 ((rd_T31 x7_1 x99_2).f1)] 31 (0, 0)) (by (with_reducible repeat (first | refine blk_drewN ?_ _ | refine blk_drew ?_ | refine blk_alloc ?_ _)); exact BK157.out)) : gb157 ≠ gb159)); have n9_ := Aside0.mk ((by rw [hg]; exact Nat.ne_of_gt (blk_lt (g := gb157) (o := .cells #[.int .i64 ((rd_T31 x7_1 x99_2).f0), .int .i64 ((rd_T31 x7_1 x99_2).f1)] 31 (0, 0)) (by (with_reducible repeat (first | refine blk_drewN ?_ _ | refine blk_drew ?_ | refine blk_alloc ?_ _)); exact BK157.out)) : gb159 ≠ gb157)); clear HO_7; clear HO_97; clear HO_103; clear BK157; clear HB; have HO_7 := n0_; have HO_97 := n1_; have HO_103 := n2_; have BK157 := n3_; have HB := n4_; have BK159 := n5_; have GW159 := n6_; have GE159 := n7_; have NB157_159 := n8_; have NB159_157 := n9_; clear n0_ n1_ n2_ n3_ n4_ n5_ n6_ n7_ n8_ n9_; clear hb hbox hg; have hnb64 := NB159_157.out; have hnc64 := NB157_159.out; have hcz65_0 : w63.cell? ⟨gb159, 0, none⟩ = some (.int .i64 0) := (blk_cell BK159.out 0).trans rfl; have hcz65_1 : w63.cell? ⟨gb159, 1, none⟩ = some (.int .i64 0) := (blk_cell BK159.out 1).trans rfl; have hfz65_0 := blk_frozen BK159.out 0; have hfz65_1 := blk_frozen BK159.out 1) | ((with_reducible refine gate_store (t := 31) (p := 20) rfl ?_); refine store_event (t := 31) (p := 20) (v := ?vo_w66) (w1 := ((w63.setCell ⟨gb159, 0, none⟩ (.int .i64 ((rd_T31 x7_1 x105_3).f0))).setCell ⟨gb159, 1, none⟩ (.int .i64 ((rd_T31 x7_1 x105_3).f1)))) ?hg ?ho ?hn ?hr ?_; (case ho => rfl); (case hg => rfl); (case hn => rfl); (case hr => first | (go_simp; done) | (go_simp; rfl)); intro w66 hw; have n0_ : Aside0 (Kd.R k31 31 w66 w.heap.size (fun k_ => k_ ≠ gb157 ∧ k_ ≠ gb159) (.slice (some ad156) x7_1.length co51) x7_1) := ⟨(by rw [hw]; exact (by (with_reducible repeat (first | apply Kd.R_alloc | apply Kd.R_drewN | apply Kd.R_drew)); exact Kd.R_mono (Kd.R_far (p := ⟨gb159, 1, none⟩) (Kd.R_far (p := ⟨gb159, 0, none⟩) (Kd.R_mono HO_7.out (fun k_ hk => (⟨hk, hk.2⟩ : _ ∧ k_ ≠ gb159))) (fun _ hk => hk.2) (.int .i64 ((rd_T31 x7_1 x105_3).f0))) (fun _ hk => hk.2) (.int .i64 ((rd_T31 x7_1 x105_3).f1))) (fun _ hk => ⟨hk.1.1, hk.1.2⟩)))⟩; have n1_ : Aside0 (Kd.R k31 31 w66 w.heap.size (fun k_ => k_ ≠ gb157 ∧ k_ ≠ gb159) (.slice (some ad156) x7_1.length co51) x7_1) := ⟨(by rw [hw]; exact (by (with_reducible repeat (first | apply Kd.R_alloc | apply Kd.R_drewN | apply Kd.R_drew)); exact Kd.R_mono (Kd.R_far (p := ⟨gb159, 1, none⟩) (Kd.R_far (p := ⟨gb159, 0, none⟩) (Kd.R_mono HO_97.out (fun k_ hk => (⟨hk, hk.2⟩ : _ ∧ k_ ≠ gb159))) (fun _ hk => hk.2) (.int .i64 ((rd_T31 x7_1 x105_3).f0))) (fun _ hk => hk.2) (.int .i64 ((rd_T31 x7_1 x105_3).f1))) (fun _ hk => ⟨hk.1.1, hk.1.2⟩)))⟩; have n2_ : Aside0 (Kd.R k31 31 w66 w.heap.size (fun k_ => k_ ≠ gb157 ∧ k_ ≠ gb159) (.slice (some ad156) x7_1.length co51) x7_1) := ⟨(by rw [hw]; exact (by (with_reducible repeat (first | apply Kd.R_alloc | apply Kd.R_drewN | apply Kd.R_drew)); exact Kd.R_mono (Kd.R_far (p := ⟨gb159, 1, none⟩) (Kd.R_far (p := ⟨gb159, 0, none⟩) (Kd.R_mono HO_103.out (fun k_ hk => (⟨hk, hk.2⟩ : _ ∧ k_ ≠ gb159))) (fun _ hk => hk.2) (.int .i64 ((rd_T31 x7_1 x105_3).f0))) (fun _ hk => hk.2) (.int .i64 ((rd_T31 x7_1 x105_3).f1))) (fun _ hk => ⟨hk.1.1, hk.1.2⟩)))⟩; have n3_ : Aside0 (w66.heap[gb157]? = some (.cells #[.int .i64 ((rd_T31 x7_1 x99_2).f0), .int .i64 ((rd_T31 x7_1 x99_2).f1)] 31 (0, 0))) := ⟨(by rw [hw]; exact (by (with_reducible repeat (first | refine blk_drewN ?_ _ | refine blk_drew ?_ | refine blk_alloc ?_ _)); refine blk_far ?_ NB157_159.out _; (with_reducible repeat (first | refine blk_drewN ?_ _ | refine blk_drew ?_ | refine blk_alloc ?_ _)); refine blk_far ?_ NB157_159.out _; (with_reducible repeat (first | refine blk_drewN ?_ _ | refine blk_drew ?_ | refine blk_alloc ?_ _)); exact BK157.out))⟩; have n4_ : Aside0 (w66.heap[gb159]? = some (.cells #[.int .i64 ((rd_T31 x7_1 x105_3).f0), .int .i64 ((rd_T31 x7_1 x105_3).f1)] 31 (0, 0))) := ⟨(by rw [hw]; exact (by (with_reducible repeat (first | refine blk_drewN ?_ _ | refine blk_drew ?_ | refine blk_alloc ?_ _)); refine blk_put (cs := #[.int .i64 ((rd_T31 x7_1 x105_3).f0), .int .i64 0]) ?_ 1 _ rfl; (with_reducible repeat (first | refine blk_drewN ?_ _ | refine blk_drew ?_ | refine blk_alloc ?_ _)); refine blk_put (cs := #[.int .i64 0, .int .i64 0]) ?_ 0 _ rfl; (with_reducible repeat (first | refine blk_drewN ?_ _ | refine blk_drew ?_ | refine blk_alloc ?_ _)); exact BK159.out))⟩; have n5_ : Aside0 (Below w.heap.size w w66) := ⟨(by rw [hw]; exact (by repeat (first | (with_reducible first | exact HB.out | apply below_alloc | apply pw_below_drewN | apply below_drew1 | refine below_set ?_ GE157.out | refine below_set ?_ GE159.out) | exact HB.out)))⟩; clear hw; clear HO_7; clear HO_97; clear HO_103; clear BK157; clear BK159; clear HB; have HO_7 := n0_; have HO_97 := n1_; have HO_103 := n2_; have BK157 := n3_; have BK159 := n4_; have HB := n5_; clear n0_ n1_ n2_ n3_ n4_ n5_; have hcz67_0 : w66.cell? ⟨gb159, 0, none⟩ = some (.int .i64 ((rd_T31 x7_1 x105_3).f0)) := (blk_cell BK159.out 0).trans rfl; have hcz67_1 : w66.cell? ⟨gb159, 1, none⟩ = some (.int .i64 ((rd_T31 x7_1 x105_3).f1)) := (blk_cell BK159.out 1).trans rfl; have hfz67_0 := blk_frozen BK159.out 0; have hfz67_1 := blk_frozen BK159.out 1; have hcz68_0 : w66.cell? ⟨gb157, 0, none⟩ = some (.int .i64 ((rd_T31 x7_1 x99_2).f0)) := (blk_cell BK157.out 0).trans rfl; have hcz68_1 : w66.cell? ⟨gb157, 1, none⟩ = some (.int .i64 ((rd_T31 x7_1 x99_2).f1)) := (blk_cell BK157.out 1).trans rfl; have hfz68_0 := blk_frozen BK157.out 0; have hfz68_1 := blk_frozen BK157.out 1) | ((with_reducible refine gate_callee (f := 13) rfl ?_); refine goesL_ (some 111) rfl rfl Try.func13 (by kernel_rfl) rfl #[.agg #[.int .i64 ((rd_T31 x7_1 x105_3).f0), .int .i64 ((rd_T31 x7_1 x105_3).f1)], .agg #[.int .i64 ((rd_T31 x7_1 x99_2).f0), .int .i64 ((rd_T31 x7_1 x99_2).f1)]] rfl (by (try simp only [List.map_toArray, List.map_cons, List.map_nil]); first | done | rfl | (simp only [List.length_drop, List.length_take]; rfl)) ?_; (with_reducible refine (score_Compare.calls ((rd_T31 x7_1 x105_3).f0) ((rd_T31 x7_1 x105_3).f1) ((rd_T31 x7_1 x99_2).f0) ((rd_T31 x7_1 x99_2).f1) t160 _ A61.out).mono ?_); rintro e w69 ⟨rfl, hb⟩; refine ⟨_, rfl, ?_⟩; have n0_ := Aside0.mk (Kd.R_below (by (with_reducible repeat (first | apply Kd.R_alloc | apply Kd.R_drewN | apply Kd.R_drew)); exact HO_7.out) hb); have n1_ := Aside0.mk (Kd.R_below (by (with_reducible repeat (first | apply Kd.R_alloc | apply Kd.R_drewN | apply Kd.R_drew)); exact HO_97.out) hb); have n2_ := Aside0.mk (Kd.R_below (by (with_reducible repeat (first | apply Kd.R_alloc | apply Kd.R_drewN | apply Kd.R_drew)); exact HO_103.out) hb); have n3_ := Aside0.mk (blk_below (g := gb157) (o := .cells #[.int .i64 ((rd_T31 x7_1 x99_2).f0), .int .i64 ((rd_T31 x7_1 x99_2).f1)] 31 (0, 0)) (by (with_reducible repeat (first | refine blk_drewN ?_ _ | refine blk_drew ?_ | refine blk_alloc ?_ _)); exact BK157.out) hb); have n4_ := Aside0.mk (blk_below (g := gb159) (o := .cells #[.int .i64 ((rd_T31 x7_1 x105_3).f0), .int .i64 ((rd_T31 x7_1 x105_3).f1)] 31 (0, 0)) (by (with_reducible repeat (first | refine blk_drewN ?_ _ | refine blk_drew ?_ | refine blk_alloc ?_ _)); exact BK159.out) hb); have n5_ := Aside0.mk (below_step (by repeat (first | (with_reducible first | exact HB.out | apply below_alloc | apply pw_below_drewN | apply below_drew1 | refine below_set ?_ GE157.out | refine below_set ?_ GE159.out) | exact HB.out)) hb); clear HO_7; clear HO_97; clear HO_103; clear BK157; clear BK159; clear HB; have HO_7 := n0_; have HO_97 := n1_; have HO_103 := n2_; have BK157 := n3_; have BK159 := n4_; have HB := n5_; clear n0_ n1_ n2_ n3_ n4_ n5_; (try clear hb); (try clear hb2); (try clear hk); (try clear hi)))
                                    go_roundg k3
                                    case measure => have := HK1.out; have := HK2.out; have := HK3.out; omega
                                    case rel => exact ⟨(wrap64 (x18_3 + 1)), (wrap64 (x105_3 + 1)), (by first | rfl | (simp; done) | (simp [*]; done)), (by first | rfl | (simp; done) | (simp [*]; done)), H', ⟨by have := HK1.out; have := HK2.out; have := HK3.out; omega⟩, ⟨by (with_reducible repeat (first | apply Kd.R_alloc | apply Kd.R_drewN | apply Kd.R_drew)); exact Kd.R_mono HO_7.out (fun _ hk => hk.1)⟩, ⟨by (with_reducible repeat (first | apply Kd.R_alloc | apply Kd.R_drewN | apply Kd.R_drew)); exact Kd.R_mono HO_97.out (fun _ hk => hk.1)⟩, ⟨by (with_reducible repeat (first | apply Kd.R_alloc | apply Kd.R_drewN | apply Kd.R_drew)); exact Kd.R_mono HO_103.out (fun _ hk => hk.1)⟩, ⟨by (with_reducible repeat (first | refine blk_drewN ?_ _ | refine blk_drew ?_ | refine blk_alloc ?_ _)); exact BK157.out⟩, ⟨by repeat (first | (with_reducible first | exact HB.out | apply below_alloc | apply pw_below_drewN | apply below_drew1 | refine below_set ?_ GE157.out | refine below_set ?_ GE159.out) | exact HB.out)⟩⟩
                                  · rw [if_neg c62] at H
                                    have c62b0 : decide (t160 ≤ 0) = false := decide_eq_false c62
                                    clear c62
                                    have H' := Aside0.mk H
                                    clear H
                                    have p158 : 0 ≤ (x105_3 : Int) := of_decide_eq_true (by first | (with_reducible assumption) | assumption)
                                    have q158 : x105_3 < (x7_1.length : Int) := of_decide_eq_true (by first | (with_reducible assumption) | assumption)
                                    obtain ⟨ad158, e158, hx158_0, hx158_1⟩ := at_T31 (Kd.R_reads' HO_103.out).2.2 x105_3 p158 q158
                                    obtain rfl : ad156 = ad158 := (by injection e158)
                                    replace p158 := eq_true p158
                                    replace q158 := eq_true q158
                                    go_wp2_with (first | ((with_reducible refine gate_dst (N := 20) rfl ?_); refine box_event ?hg (N := 20) ?hd (cs := #[.int .i64 0, .int .i64 0]) (t := 31) ?hr ?_; (case hd => rfl); (case hg => rfl); (case hr => first | (go_simp; done) | (go_simp; rfl)); intro gb159 hg w70 hbox hb; have n0_ := Aside0.mk (Kd.R_below (Kd.R_elderB (by (with_reducible repeat (first | apply Kd.R_alloc | apply Kd.R_drewN | apply Kd.R_drew)); exact HO_7.out) gb159 (Nat.le_of_eq hg.symm)) hb); have n1_ := Aside0.mk (Kd.R_below (Kd.R_elderB (by (with_reducible repeat (first | apply Kd.R_alloc | apply Kd.R_drewN | apply Kd.R_drew)); exact HO_97.out) gb159 (Nat.le_of_eq hg.symm)) hb); have n2_ := Aside0.mk (Kd.R_below (Kd.R_elderB (by (with_reducible repeat (first | apply Kd.R_alloc | apply Kd.R_drewN | apply Kd.R_drew)); exact HO_103.out) gb159 (Nat.le_of_eq hg.symm)) hb); have n3_ := Aside0.mk (blk_below (g := gb157) (o := .cells #[.int .i64 ((rd_T31 x7_1 x99_2).f0), .int .i64 ((rd_T31 x7_1 x99_2).f1)] 31 (0, 0)) (by (with_reducible repeat (first | refine blk_drewN ?_ _ | refine blk_drew ?_ | refine blk_alloc ?_ _)); exact BK157.out) hb); have n4_ := Aside0.mk (below_step (by repeat (first | (with_reducible first | exact HB.out | apply below_alloc | apply pw_below_drewN | apply below_drew1 | refine below_set ?_ GE157.out) | exact HB.out)) hb); have n5_ := Aside0.mk (hbox); have n6_ := Aside0.mk ((by rw [hg]; exact (below_size (by repeat (first | (with_reducible first | exact HB.out | apply below_alloc | apply pw_below_drewN | apply below_drew1 | refine below_set ?_ GE157.out) | exact HB.out))) : w.heap.size ≤ gb159)); have n7_ := Aside0.mk ((by rw [hg]; exact (below_size (by repeat (first | (with_reducible first | exact HB.out | apply below_alloc | apply pw_below_drewN | apply below_drew1 | refine below_set ?_ GE157.out) | exact HB.out))) : w.heap.size ≤ gb159)); have n8_ := Aside0.mk ((by rw [hg]; exact Nat.ne_of_lt (blk_lt (g := gb157) (o := .cells #[.int .i64 ((rd_T31 x7_1 x99_2).f0), .int .i64 ((rd_T31 x7_1 x99_2).f1)] 31 (0, 0)) (by (with_reducible repeat (first | refine blk_drewN ?_ _ | refine blk_drew ?_ | refine blk_alloc ?_ _)); exact BK157.out)) : gb157 ≠ gb159)); have n9_ := Aside0.mk ((by rw [hg]; exact Nat.ne_of_gt (blk_lt (g := gb157) (o := .cells #[.int .i64 ((rd_T31 x7_1 x99_2).f0), .int .i64 ((rd_T31 x7_1 x99_2).f1)] 31 (0, 0)) (by (with_reducible repeat (first | refine blk_drewN ?_ _ | refine blk_drew ?_ | refine blk_alloc ?_ _)); exact BK157.out)) : gb159 ≠ gb157)); clear HO_7; clear HO_97; clear HO_103; clear BK157; clear HB; have HO_7 := n0_; have HO_97 := n1_; have HO_103 := n2_; have BK157 := n3_; have HB := n4_; have BK159 := n5_; have GW159 := n6_; have GE159 := n7_; have NB157_159 := n8_; have NB159_157 := n9_; clear n0_ n1_ n2_ n3_ n4_ n5_ n6_ n7_ n8_ n9_; clear hb hbox hg; have hnb71 := NB159_157.out; have hnc71 := NB157_159.out; have hcz72_0 : w70.cell? ⟨gb159, 0, none⟩ = some (.int .i64 0) := (blk_cell BK159.out 0).trans rfl; have hcz72_1 : w70.cell? ⟨gb159, 1, none⟩ = some (.int .i64 0) := (blk_cell BK159.out 1).trans rfl; have hfz72_0 := blk_frozen BK159.out 0; have hfz72_1 := blk_frozen BK159.out 1) | ((with_reducible refine gate_store (t := 31) (p := 20) rfl ?_); refine store_event (t := 31) (p := 20) (v := ?vo_w73) (w1 := ((w70.setCell ⟨gb159, 0, none⟩ (.int .i64 ((rd_T31 x7_1 x105_3).f0))).setCell ⟨gb159, 1, none⟩ (.int .i64 ((rd_T31 x7_1 x105_3).f1)))) ?hg ?ho ?hn ?hr ?_; (case ho => rfl); (case hg => rfl); (case hn => rfl); (case hr => first | (go_simp; done) | (go_simp; rfl)); intro w73 hw; have n0_ : Aside0 (Kd.R k31 31 w73 w.heap.size (fun k_ => k_ ≠ gb157 ∧ k_ ≠ gb159) (.slice (some ad156) x7_1.length co51) x7_1) := ⟨(by rw [hw]; exact (by (with_reducible repeat (first | apply Kd.R_alloc | apply Kd.R_drewN | apply Kd.R_drew)); exact Kd.R_mono (Kd.R_far (p := ⟨gb159, 1, none⟩) (Kd.R_far (p := ⟨gb159, 0, none⟩) (Kd.R_mono HO_7.out (fun k_ hk => (⟨hk, hk.2⟩ : _ ∧ k_ ≠ gb159))) (fun _ hk => hk.2) (.int .i64 ((rd_T31 x7_1 x105_3).f0))) (fun _ hk => hk.2) (.int .i64 ((rd_T31 x7_1 x105_3).f1))) (fun _ hk => ⟨hk.1.1, hk.1.2⟩)))⟩; have n1_ : Aside0 (Kd.R k31 31 w73 w.heap.size (fun k_ => k_ ≠ gb157 ∧ k_ ≠ gb159) (.slice (some ad156) x7_1.length co51) x7_1) := ⟨(by rw [hw]; exact (by (with_reducible repeat (first | apply Kd.R_alloc | apply Kd.R_drewN | apply Kd.R_drew)); exact Kd.R_mono (Kd.R_far (p := ⟨gb159, 1, none⟩) (Kd.R_far (p := ⟨gb159, 0, none⟩) (Kd.R_mono HO_97.out (fun k_ hk => (⟨hk, hk.2⟩ : _ ∧ k_ ≠ gb159))) (fun _ hk => hk.2) (.int .i64 ((rd_T31 x7_1 x105_3).f0))) (fun _ hk => hk.2) (.int .i64 ((rd_T31 x7_1 x105_3).f1))) (fun _ hk => ⟨hk.1.1, hk.1.2⟩)))⟩; have n2_ : Aside0 (Kd.R k31 31 w73 w.heap.size (fun k_ => k_ ≠ gb157 ∧ k_ ≠ gb159) (.slice (some ad156) x7_1.length co51) x7_1) := ⟨(by rw [hw]; exact (by (with_reducible repeat (first | apply Kd.R_alloc | apply Kd.R_drewN | apply Kd.R_drew)); exact Kd.R_mono (Kd.R_far (p := ⟨gb159, 1, none⟩) (Kd.R_far (p := ⟨gb159, 0, none⟩) (Kd.R_mono HO_103.out (fun k_ hk => (⟨hk, hk.2⟩ : _ ∧ k_ ≠ gb159))) (fun _ hk => hk.2) (.int .i64 ((rd_T31 x7_1 x105_3).f0))) (fun _ hk => hk.2) (.int .i64 ((rd_T31 x7_1 x105_3).f1))) (fun _ hk => ⟨hk.1.1, hk.1.2⟩)))⟩; have n3_ : Aside0 (w73.heap[gb157]? = some (.cells #[.int .i64 ((rd_T31 x7_1 x99_2).f0), .int .i64 ((rd_T31 x7_1 x99_2).f1)] 31 (0, 0))) := ⟨(by rw [hw]; exact (by (with_reducible repeat (first | refine blk_drewN ?_ _ | refine blk_drew ?_ | refine blk_alloc ?_ _)); refine blk_far ?_ NB157_159.out _; (with_reducible repeat (first | refine blk_drewN ?_ _ | refine blk_drew ?_ | refine blk_alloc ?_ _)); refine blk_far ?_ NB157_159.out _; (with_reducible repeat (first | refine blk_drewN ?_ _ | refine blk_drew ?_ | refine blk_alloc ?_ _)); exact BK157.out))⟩; have n4_ : Aside0 (w73.heap[gb159]? = some (.cells #[.int .i64 ((rd_T31 x7_1 x105_3).f0), .int .i64 ((rd_T31 x7_1 x105_3).f1)] 31 (0, 0))) := ⟨(by rw [hw]; exact (by (with_reducible repeat (first | refine blk_drewN ?_ _ | refine blk_drew ?_ | refine blk_alloc ?_ _)); refine blk_put (cs := #[.int .i64 ((rd_T31 x7_1 x105_3).f0), .int .i64 0]) ?_ 1 _ rfl; (with_reducible repeat (first | refine blk_drewN ?_ _ | refine blk_drew ?_ | refine blk_alloc ?_ _)); refine blk_put (cs := #[.int .i64 0, .int .i64 0]) ?_ 0 _ rfl; (with_reducible repeat (first | refine blk_drewN ?_ _ | refine blk_drew ?_ | refine blk_alloc ?_ _)); exact BK159.out))⟩; have n5_ : Aside0 (Below w.heap.size w w73) := ⟨(by rw [hw]; exact (by repeat (first | (with_reducible first | exact HB.out | apply below_alloc | apply pw_below_drewN | apply below_drew1 | refine below_set ?_ GE157.out | refine below_set ?_ GE159.out) | exact HB.out)))⟩; clear hw; clear HO_7; clear HO_97; clear HO_103; clear BK157; clear BK159; clear HB; have HO_7 := n0_; have HO_97 := n1_; have HO_103 := n2_; have BK157 := n3_; have BK159 := n4_; have HB := n5_; clear n0_ n1_ n2_ n3_ n4_ n5_; have hcz74_0 : w73.cell? ⟨gb159, 0, none⟩ = some (.int .i64 ((rd_T31 x7_1 x105_3).f0)) := (blk_cell BK159.out 0).trans rfl; have hcz74_1 : w73.cell? ⟨gb159, 1, none⟩ = some (.int .i64 ((rd_T31 x7_1 x105_3).f1)) := (blk_cell BK159.out 1).trans rfl; have hfz74_0 := blk_frozen BK159.out 0; have hfz74_1 := blk_frozen BK159.out 1; have hcz75_0 : w73.cell? ⟨gb157, 0, none⟩ = some (.int .i64 ((rd_T31 x7_1 x99_2).f0)) := (blk_cell BK157.out 0).trans rfl; have hcz75_1 : w73.cell? ⟨gb157, 1, none⟩ = some (.int .i64 ((rd_T31 x7_1 x99_2).f1)) := (blk_cell BK157.out 1).trans rfl; have hfz75_0 := blk_frozen BK157.out 0; have hfz75_1 := blk_frozen BK157.out 1) | ((with_reducible refine gate_callee (f := 13) rfl ?_); refine goesL_ (some 111) rfl rfl Try.func13 (by kernel_rfl) rfl #[.agg #[.int .i64 ((rd_T31 x7_1 x105_3).f0), .int .i64 ((rd_T31 x7_1 x105_3).f1)], .agg #[.int .i64 ((rd_T31 x7_1 x99_2).f0), .int .i64 ((rd_T31 x7_1 x99_2).f1)]] rfl (by (try simp only [List.map_toArray, List.map_cons, List.map_nil]); first | done | rfl | (simp only [List.length_drop, List.length_take]; rfl)) ?_; (with_reducible refine (score_Compare.calls ((rd_T31 x7_1 x105_3).f0) ((rd_T31 x7_1 x105_3).f1) ((rd_T31 x7_1 x99_2).f0) ((rd_T31 x7_1 x99_2).f1) t160 _ A61.out).mono ?_); rintro e w76 ⟨rfl, hb⟩; refine ⟨_, rfl, ?_⟩; have n0_ := Aside0.mk (Kd.R_below (by (with_reducible repeat (first | apply Kd.R_alloc | apply Kd.R_drewN | apply Kd.R_drew)); exact HO_7.out) hb); have n1_ := Aside0.mk (Kd.R_below (by (with_reducible repeat (first | apply Kd.R_alloc | apply Kd.R_drewN | apply Kd.R_drew)); exact HO_97.out) hb); have n2_ := Aside0.mk (Kd.R_below (by (with_reducible repeat (first | apply Kd.R_alloc | apply Kd.R_drewN | apply Kd.R_drew)); exact HO_103.out) hb); have n3_ := Aside0.mk (blk_below (g := gb157) (o := .cells #[.int .i64 ((rd_T31 x7_1 x99_2).f0), .int .i64 ((rd_T31 x7_1 x99_2).f1)] 31 (0, 0)) (by (with_reducible repeat (first | refine blk_drewN ?_ _ | refine blk_drew ?_ | refine blk_alloc ?_ _)); exact BK157.out) hb); have n4_ := Aside0.mk (blk_below (g := gb159) (o := .cells #[.int .i64 ((rd_T31 x7_1 x105_3).f0), .int .i64 ((rd_T31 x7_1 x105_3).f1)] 31 (0, 0)) (by (with_reducible repeat (first | refine blk_drewN ?_ _ | refine blk_drew ?_ | refine blk_alloc ?_ _)); exact BK159.out) hb); have n5_ := Aside0.mk (below_step (by repeat (first | (with_reducible first | exact HB.out | apply below_alloc | apply pw_below_drewN | apply below_drew1 | refine below_set ?_ GE157.out | refine below_set ?_ GE159.out) | exact HB.out)) hb); clear HO_7; clear HO_97; clear HO_103; clear BK157; clear BK159; clear HB; have HO_7 := n0_; have HO_97 := n1_; have HO_103 := n2_; have BK157 := n3_; have BK159 := n4_; have HB := n5_; clear n0_ n1_ n2_ n3_ n4_ n5_; (try clear hb); (try clear hb2); (try clear hk); (try clear hi)))
                                    go_roundg k3
                                    case measure => have := HK1.out; have := HK2.out; have := HK3.out; omega
                                    case rel => exact ⟨(x18_3), (wrap64 (x105_3 + 1)), (by first | rfl | (simp; done) | (simp [*]; done)), (by first | rfl | (simp; done) | (simp [*]; done)), H', ⟨by have := HK1.out; have := HK2.out; have := HK3.out; omega⟩, ⟨by (with_reducible repeat (first | apply Kd.R_alloc | apply Kd.R_drewN | apply Kd.R_drew)); exact Kd.R_mono HO_7.out (fun _ hk => hk.1)⟩, ⟨by (with_reducible repeat (first | apply Kd.R_alloc | apply Kd.R_drewN | apply Kd.R_drew)); exact Kd.R_mono HO_97.out (fun _ hk => hk.1)⟩, ⟨by (with_reducible repeat (first | apply Kd.R_alloc | apply Kd.R_drewN | apply Kd.R_drew)); exact Kd.R_mono HO_103.out (fun _ hk => hk.1)⟩, ⟨by (with_reducible repeat (first | refine blk_drewN ?_ _ | refine blk_drew ?_ | refine blk_alloc ?_ _)); exact BK157.out⟩, ⟨by repeat (first | (with_reducible first | exact HB.out | apply below_alloc | apply pw_below_drewN | apply below_drew1 | refine below_set ?_ GE157.out | refine below_set ?_ GE159.out) | exact HB.out)⟩⟩
                                · rw [if_neg c60] at H
                                  exact absurd H (by simp)
                              · rw [if_neg c59] at H
                                exact absurd H (by simp)
                            · rw [if_neg c58] at H
                              have c58b0 : decide (x105_3 < (x7_1.length : Int)) = false := decide_eq_false c58
                              clear c58
                              replace H := Option.bind_eq_some_iff.mp H
                              obtain ⟨t161, A770, H⟩ := H
                              replace H : (if t161 > 0 then (none) else (synopticlaw39_SamplingExchanges.l2 k3 x7_1 x7_1 (x7_1.length : Int) (wrap64 (x99_2 + 1)))) = some r := H
                              have A77 := Aside0.mk A770
                              clear A770
                              by_cases c78 : t161 > 0
                              · rw [if_pos c78] at H
                                exact absurd H (by simp)
                              · rw [if_neg c78] at H
                                have c78b0 : decide (0 < t161) = false := decide_eq_false c78
                                clear c78
                                have H' := Aside0.mk H
                                clear H
                                have hcz79_0 : wr.cell? ⟨gb157, 0, none⟩ = some (.int .i64 ((rd_T31 x7_1 x99_2).f0)) := (blk_cell BK157.out 0).trans rfl
                                have hcz79_1 : wr.cell? ⟨gb157, 1, none⟩ = some (.int .i64 ((rd_T31 x7_1 x99_2).f1)) := (blk_cell BK157.out 1).trans rfl
                                have hfz79_0 := blk_frozen BK157.out 0
                                have hfz79_1 := blk_frozen BK157.out 1
                                go_wp2_with (first | ((with_reducible refine gate_callee (f := 13) rfl ?_); refine goesL_ (some 121) rfl rfl Try.func13 (by kernel_rfl) rfl #[.agg #[.int .i64 x18_3, .int .i64 (x7_1.length : Int)], .agg #[.int .i64 ((rd_T31 x7_1 x99_2).f0), .int .i64 ((rd_T31 x7_1 x99_2).f1)]] rfl (by (try simp only [List.map_toArray, List.map_cons, List.map_nil]); first | done | rfl | (simp only [List.length_drop, List.length_take]; rfl)) ?_; (with_reducible refine (score_Compare.calls x18_3 (x7_1.length : Int) ((rd_T31 x7_1 x99_2).f0) ((rd_T31 x7_1 x99_2).f1) t161 _ A77.out).mono ?_); rintro e w80 ⟨rfl, hb⟩; refine ⟨_, rfl, ?_⟩; have n0_ := Aside0.mk (Kd.R_below (by (with_reducible repeat (first | apply Kd.R_alloc | apply Kd.R_drewN | apply Kd.R_drew)); exact HO_7.out) hb); have n1_ := Aside0.mk (Kd.R_below (by (with_reducible repeat (first | apply Kd.R_alloc | apply Kd.R_drewN | apply Kd.R_drew)); exact HO_97.out) hb); have n2_ := Aside0.mk (Kd.R_below (by (with_reducible repeat (first | apply Kd.R_alloc | apply Kd.R_drewN | apply Kd.R_drew)); exact HO_103.out) hb); have n3_ := Aside0.mk (blk_below (g := gb157) (o := .cells #[.int .i64 ((rd_T31 x7_1 x99_2).f0), .int .i64 ((rd_T31 x7_1 x99_2).f1)] 31 (0, 0)) (by (with_reducible repeat (first | refine blk_drewN ?_ _ | refine blk_drew ?_ | refine blk_alloc ?_ _)); exact BK157.out) hb); have n4_ := Aside0.mk (below_step (by repeat (first | (with_reducible first | exact HB.out | apply below_alloc | apply pw_below_drewN | apply below_drew1 | refine below_set ?_ GE157.out) | exact HB.out)) hb); clear HO_7; clear HO_97; clear HO_103; clear BK157; clear HB; have HO_7 := n0_; have HO_97 := n1_; have HO_103 := n2_; have BK157 := n3_; have HB := n4_; clear n0_ n1_ n2_ n3_ n4_; (try clear hb); (try clear hb2); (try clear hk); (try clear hi)))
                                go_roundg k3
                                case measure => have := HK1.out; have := HK2.out; have := HK3.out; omega
                                case rel => exact ⟨(wrap64 (x99_2 + 1)), (by first | rfl | (simp; done) | (simp [*]; done)), H', ⟨by have := HK1.out; have := HK2.out; have := HK3.out; omega⟩, ⟨by (with_reducible repeat (first | apply Kd.R_alloc | apply Kd.R_drewN | apply Kd.R_drew)); exact Kd.R_mono HO_7.out (fun _ hk => trivial)⟩, ⟨by (with_reducible repeat (first | apply Kd.R_alloc | apply Kd.R_drewN | apply Kd.R_drew)); exact Kd.R_mono HO_97.out (fun _ hk => trivial)⟩, ⟨by repeat (first | (with_reducible first | exact HB.out | apply below_alloc | apply pw_below_drewN | apply below_drew1 | refine below_set ?_ GE157.out) | exact HB.out)⟩⟩
                      · rw [if_neg c54] at H
                        exact absurd H (by simp)
                    · rw [if_neg c53] at H
                      exact absurd H (by simp)
                  · rw [if_neg c52] at H
                    have c52b0 : decide (x99_2 < (x7_1.length : Int)) = false := decide_eq_false c52
                    clear c52
                    obtain rfl := Option.some.inj H
                    go_wp2
                    go_ret
                    exact ⟨by first | rfl | (simp [errW_none, errW_some] <;> rfl) | (simp only [← hji12, ← hji14]; first | rfl | (simp [errW_none, errW_some] <;> rfl)) | (simp [*, errW_none, errW_some] <;> rfl), by repeat (first | (with_reducible first | exact HB.out | apply below_alloc | apply pw_below_drewN | apply below_drew1) | exact HB.out)⟩
          · rw [if_neg c13] at H
            exact absurd H (by simp)
  · replace c4 := Bool.eq_false_iff.mpr c4
    subst c4
    have H1 : (none) = some r := by rw [if_neg (show ¬ (false = true) by decide)] at H; exact H
    clear H
    have H := H1
    clear H1
    exact absurd H (by simp)

/-- THE ONE PURE STATEMENT of synopticlaw39_SamplingExchanges: yours. -/
def synopticlaw39_SamplingExchanges.Pure : Prop := ∀ (l0 : List Int) (a1 : Int), l0.length ≤ maxLen → l0.length * 1 ≤ 140737488351232 → (∀ x ∈ l0, (Lit.int .u8 x).wf = true) → (Lit.int .u8 a1).wf = true → ∃ k, synopticlaw39_SamplingExchanges.f k l0 a1 = some true
theorem synopticlaw39_SamplingExchanges.walk (P : synopticlaw39_SamplingExchanges.Pure) (a0 : Option Addr) (len0 cap0 : Nat) (z0 : List Int) (a1 : Int) (w : World) (w0 : (a0 = none ∧ len0 = 0 ∧ cap0 = 0 ∧ z0 = []) ∨ ∃ x, a0 = some x ∧ len0 ≤ cap0 ∧ cap0 ≤ maxLen ∧ z0.length = cap0 ∧ (∀ i, i < z0.length → w.cell? (x.add i) = some (.int .u8 (z0.getD i 0))) ∧ ∀ n ∈ z0, (Lit.int .u8 n).wf = true) (y0 : len0 * 1 ≤ 140737488351232) (w1 : (Lit.int .u8 a1).wf = true) :
    Calls Try.prog 6 #[.slice a0 len0 cap0, .int .u8 a1] w fun e w' => e = .returned (.bool true) ∧ Below w.heap.size w w' := by
  obtain ⟨l0, rfl, hr0, hm0, hw0, hc0⟩ := ReadsInt.ofRowC w0
  obtain ⟨k, h⟩ := P l0 a1 hm0 y0 hw0 w1
  refine (synopticlaw39_SamplingExchanges.calls k _ _ l0 a1 true w (Kd.C_of_reads (d := (0 : Int)) (h1 := fun _ => rfl) hr0) hc0 h).mono ?_
  rintro e w' ⟨rfl, hd⟩
  exact ⟨rfl, hd⟩

end Go.Proofs.Ytcgjgpdandjicaa.B
