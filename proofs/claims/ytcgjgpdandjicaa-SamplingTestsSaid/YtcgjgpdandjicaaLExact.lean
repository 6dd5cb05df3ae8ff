/- Made by our program mkbase.py out of the printed functions of this seat: LExact. -/
import Derived.Test.YtcgjgpdandjicaaB1
import Derived.Test.YtcgjgpdandjicaaBC
import Derived.Test.YtcgjgpdandjicaaBW
import Derived.Test.YtcgjgpdandjicaaCmp
namespace Go.Proofs.Ytcgjgpdandjicaa.B
open Go.RowKit Go.Proofs.YtcgjgpdandjicaaW.PrintWords Go.Proofs.YtcgjgpdandjicaaW.PrintLast Go.Proofs.YtcgjgpdandjicaaW.PrintMore
attribute [local go_sem] max2_int min2_int max_two min_two max_three min_three max_four min_four   -- for this text's walks alone
set_option linter.unusedVariables false
set_option linter.unusedSimpArgs false

attribute [local go_sem high] eqA31 eqA90
/-! ### synopticlaw39_SamplingExact: function 3 -/
mutual
def synopticlaw39_SamplingExact.l0 : Nat → List Int → List (S31) → Int → Option (Bool)
  | 0, _, _, _ => none
  | k + 1, x3, x4, x5 => if 0 ≤ (IntKind.u64.wrap ((x3.length : Int))) then (if x5 < (shl .i64 1 (IntKind.u64.wrap ((x3.length : Int)))) then (if ([] : List Int).length + x3.length < 17592186044416 then ((some (([] : List Int) ++ x3 : List Int)).bind fun y137 => (synopticlaw39_SamplingExact.l1 k x3 x4 x5 y137 (y137.length : Int) 0)) else (none)) else (synopticlaw39_SamplingExact.l2 k x4 x4 (x4.length : Int) 0)) else (none)
def synopticlaw39_SamplingExact.l1 : Nat → List Int → List (S31) → Int → List Int → Int → Int → Option (Bool)
  | 0, _, _, _, _, _, _ => none
  | k + 1, x3, x4, x5, x6, x31, x32 => if x32 < x31 then (if 0 ≤ (IntKind.u64.wrap (x32)) then (if (Go.bits .and .i64 (shr .i64 x5 (IntKind.u64.wrap (x32))) 1) = 1 then (if 0 ≤ x32 then (if x32 < (x6.length : Int) then (synopticlaw39_SamplingExact.l1 k x3 x4 x5 (x6.set (x32 : Int).toNat (wrap64 (-(rd x6 x32)))) x31 (wrap64 (x32 + 1))) else (none)) else (none)) else (synopticlaw39_SamplingExact.l1 k x3 x4 x5 x6 x31 (wrap64 (x32 + 1)))) else (none)) else ((sampling_Signs.f x6).bind fun bt142 => (if bt142.2.2 = 0 then (if x4.length < 8796093022208 then (synopticlaw39_SamplingExact.l0 k x3 (x4 ++ [(⟨bt142.1, bt142.2.1⟩ : S31)]) (wrap64 (x5 + 1))) else (none)) else (none)))
def synopticlaw39_SamplingExact.l2 : Nat → List (S31) → List (S31) → Int → Int → Option (Bool)
  | 0, _, _, _, _ => none
  | k + 1, x4, x61, x62, x63 => if x63 < x62 then (if 0 ≤ x63 then (if x63 < (x61.length : Int) then (synopticlaw39_SamplingExact.l3 k x4 0 x61 x62 x63 x4 (x4.length : Int) 0 ((rd_T31 x61 x63).f0) ((rd_T31 x61 x63).f1)) else (none)) else (none)) else (some true)
def synopticlaw39_SamplingExact.l3 : Nat → List (S31) → Int → List (S31) → Int → Int → List (S31) → Int → Int → Int → Int → Option (Bool)
  | 0, _, _, _, _, _, _, _, _, _, _ => none
  | k + 1, x4, x12, x61, x62, x63, x67, x68, x69, x151000, x151001 => if x69 < x68 then (if 0 ≤ x69 then (if x69 < (x67.length : Int) then ((score_Compare.f ((rd_T31 x67 x69).f0) ((rd_T31 x67 x69).f1) x151000 x151001).bind fun t153 => (if t153 ≤ 0 then (synopticlaw39_SamplingExact.l3 k x4 (wrap64 (x12 + 1)) x61 x62 x63 x67 x68 (wrap64 (x69 + 1)) x151000 x151001) else (synopticlaw39_SamplingExact.l3 k x4 x12 x61 x62 x63 x67 x68 (wrap64 (x69 + 1)) x151000 x151001))) else (none)) else (none)) else ((score_Compare.f x12 (x4.length : Int) x151000 x151001).bind fun t154 => (if t154 > 0 then (none) else (synopticlaw39_SamplingExact.l2 k x4 x61 x62 (wrap64 (x63 + 1)))))
end
def synopticlaw39_SamplingExact.f (k : Nat) (l0 : List Int) : Option (Bool) := (synopticlaw39_awake.f).bind fun t129 => (if t129 = true then ((synopticfield_New.f l0 40).bind fun bt130 => ((synopticlaw39_sample.f k bt130.1 bt130.2 6).bind fun bt133 => (synopticlaw39_SamplingExact.l0 k bt133.1 ([] : List (S31)) 0))) else (none))
theorem synopticlaw39_SamplingExact.mono_l : ∀ k, (∀ y0 y1 y2, LeO (synopticlaw39_SamplingExact.l0 k y0 y1 y2) (synopticlaw39_SamplingExact.l0 (k + 1) y0 y1 y2)) ∧ (∀ y0 y1 y2 y3 y4 y5, LeO (synopticlaw39_SamplingExact.l1 k y0 y1 y2 y3 y4 y5) (synopticlaw39_SamplingExact.l1 (k + 1) y0 y1 y2 y3 y4 y5)) ∧ (∀ y0 y1 y2 y3, LeO (synopticlaw39_SamplingExact.l2 k y0 y1 y2 y3) (synopticlaw39_SamplingExact.l2 (k + 1) y0 y1 y2 y3)) ∧ (∀ y0 y1 y2 y3 y4 y5 y6 y7 y8 y9, LeO (synopticlaw39_SamplingExact.l3 k y0 y1 y2 y3 y4 y5 y6 y7 y8 y9) (synopticlaw39_SamplingExact.l3 (k + 1) y0 y1 y2 y3 y4 y5 y6 y7 y8 y9))
  | 0 => ⟨fun _ _ _ r h => by simp [synopticlaw39_SamplingExact.l0] at h, fun _ _ _ _ _ _ r h => by simp [synopticlaw39_SamplingExact.l1] at h, fun _ _ _ _ r h => by simp [synopticlaw39_SamplingExact.l2] at h, fun _ _ _ _ _ _ _ _ _ _ r h => by simp [synopticlaw39_SamplingExact.l3] at h⟩
  | k + 1 => by
    obtain ⟨ih0, ih1, ih2, ih3⟩ := synopticlaw39_SamplingExact.mono_l k
    refine ⟨?_, ?_, ?_, ?_⟩
    · intro y0 y1 y2
      unfold synopticlaw39_SamplingExact.l0
      repeat' first
      | (with_reducible exact ih0 _ _ _)
      | (with_reducible exact ih1 _ _ _ _ _ _)
      | (with_reducible exact ih2 _ _ _ _)
      | (with_reducible exact ih3 _ _ _ _ _ _ _ _ _ _)
      | (with_reducible exact synopticlaw39_sample.mono _ _ _ _)
      | (with_reducible exact LeO.refl _)
      | (with_reducible exact LeO.none _)
      | (with_reducible refine LeO.ite ?_ ?_)
      | (with_reducible refine LeO.bind ?_ (fun _ => ?_))
      | exact ih0 _ _ _
      | exact ih1 _ _ _ _ _ _
      | exact ih2 _ _ _ _
      | exact ih3 _ _ _ _ _ _ _ _ _ _
      | exact synopticlaw39_sample.mono _ _ _ _
      | exact LeO.none _
      | refine LeO.ite ?_ ?_
      | refine LeO.bind ?_ (fun _ => ?_)
    · intro y0 y1 y2 y3 y4 y5
      unfold synopticlaw39_SamplingExact.l1
      repeat' first
      | (with_reducible exact ih0 _ _ _)
      | (with_reducible exact ih1 _ _ _ _ _ _)
      | (with_reducible exact ih2 _ _ _ _)
      | (with_reducible exact ih3 _ _ _ _ _ _ _ _ _ _)
      | (with_reducible exact synopticlaw39_sample.mono _ _ _ _)
      | (with_reducible exact LeO.refl _)
      | (with_reducible exact LeO.none _)
      | (with_reducible refine LeO.ite ?_ ?_)
      | (with_reducible refine LeO.bind ?_ (fun _ => ?_))
      | exact ih0 _ _ _
      | exact ih1 _ _ _ _ _ _
      | exact ih2 _ _ _ _
      | exact ih3 _ _ _ _ _ _ _ _ _ _
      | exact synopticlaw39_sample.mono _ _ _ _
      | exact LeO.none _
      | refine LeO.ite ?_ ?_
      | refine LeO.bind ?_ (fun _ => ?_)
    · intro y0 y1 y2 y3
      unfold synopticlaw39_SamplingExact.l2
      repeat' first
      | (with_reducible exact ih0 _ _ _)
      | (with_reducible exact ih1 _ _ _ _ _ _)
      | (with_reducible exact ih2 _ _ _ _)
      | (with_reducible exact ih3 _ _ _ _ _ _ _ _ _ _)
      | (with_reducible exact synopticlaw39_sample.mono _ _ _ _)
      | (with_reducible exact LeO.refl _)
      | (with_reducible exact LeO.none _)
      | (with_reducible refine LeO.ite ?_ ?_)
      | (with_reducible refine LeO.bind ?_ (fun _ => ?_))
      | exact ih0 _ _ _
      | exact ih1 _ _ _ _ _ _
      | exact ih2 _ _ _ _
      | exact ih3 _ _ _ _ _ _ _ _ _ _
      | exact synopticlaw39_sample.mono _ _ _ _
      | exact LeO.none _
      | refine LeO.ite ?_ ?_
      | refine LeO.bind ?_ (fun _ => ?_)
    · intro y0 y1 y2 y3 y4 y5 y6 y7 y8 y9
      unfold synopticlaw39_SamplingExact.l3
      repeat' first
      | (with_reducible exact ih0 _ _ _)
      | (with_reducible exact ih1 _ _ _ _ _ _)
      | (with_reducible exact ih2 _ _ _ _)
      | (with_reducible exact ih3 _ _ _ _ _ _ _ _ _ _)
      | (with_reducible exact synopticlaw39_sample.mono _ _ _ _)
      | (with_reducible exact LeO.refl _)
      | (with_reducible exact LeO.none _)
      | (with_reducible refine LeO.ite ?_ ?_)
      | (with_reducible refine LeO.bind ?_ (fun _ => ?_))
      | exact ih0 _ _ _
      | exact ih1 _ _ _ _ _ _
      | exact ih2 _ _ _ _
      | exact ih3 _ _ _ _ _ _ _ _ _ _
      | exact synopticlaw39_sample.mono _ _ _ _
      | exact LeO.none _
      | refine LeO.ite ?_ ?_
      | refine LeO.bind ?_ (fun _ => ?_)
theorem synopticlaw39_SamplingExact.mono : ∀ a0 k, LeO (synopticlaw39_SamplingExact.f k a0) (synopticlaw39_SamplingExact.f (k + 1) a0) := by
  intro a0 k
  obtain ⟨ih0, ih1, ih2, ih3⟩ := synopticlaw39_SamplingExact.mono_l k
  unfold synopticlaw39_SamplingExact.f
  repeat' first
      | (with_reducible exact ih0 _ _ _)
      | (with_reducible exact ih1 _ _ _ _ _ _)
      | (with_reducible exact ih2 _ _ _ _)
      | (with_reducible exact ih3 _ _ _ _ _ _ _ _ _ _)
      | (with_reducible exact synopticlaw39_sample.mono _ _ _ _)
      | (with_reducible exact LeO.refl _)
      | (with_reducible exact LeO.none _)
      | (with_reducible refine LeO.ite ?_ ?_)
      | (with_reducible refine LeO.bind ?_ (fun _ => ?_))
      | exact ih0 _ _ _
      | exact ih1 _ _ _ _ _ _
      | exact ih2 _ _ _ _
      | exact ih3 _ _ _ _ _ _ _ _ _ _
      | exact synopticlaw39_sample.mono _ _ _ _
      | exact LeO.none _
      | refine LeO.ite ?_ ?_
      | refine LeO.bind ?_ (fun _ => ?_)
set_option maxHeartbeats 8000000 in
set_option maxRecDepth 100000 in
theorem synopticlaw39_SamplingExact.calls (k : Nat) (A0 : Option Addr) (c0 : Nat) (l0 : List Int) (r : Bool) (w : World) (hr0 : Kd.C (Kd.int .u8) w A0 l0.length l0) (hc0 : l0.length ≤ c0) (h : synopticlaw39_SamplingExact.f k l0 = some r) :
    Calls Try.prog 3 #[.slice A0 l0.length c0] w fun e w' => e = .returned (.bool r) ∧ Below w.heap.size w w' := by
  have hu31 := Try.underlying31
  have HR0 := Aside0.mk hr0
  have HC0 := Aside0.mk hc0
  clear hr0 hc0
  have HB := Aside0.mk (Below.refl w.heap.size w)
  have H : ((synopticlaw39_awake.f).bind fun t129 => (if t129 = true then ((synopticfield_New.f l0 40).bind fun bt130 => ((synopticlaw39_sample.f k bt130.1 bt130.2 6).bind fun bt133 => (synopticlaw39_SamplingExact.l0 k bt133.1 ([] : List (S31)) 0))) else (none))) = some r := h
  clear h
  replace H := Option.bind_eq_some_iff.mp H
  obtain ⟨t129, A20, H⟩ := H
  replace H : (if t129 = true then ((synopticfield_New.f l0 40).bind fun bt130 => ((synopticlaw39_sample.f k bt130.1 bt130.2 6).bind fun bt133 => (synopticlaw39_SamplingExact.l0 k bt133.1 ([] : List (S31)) 0))) else (none)) = some r := H
  have A2 := Aside0.mk A20
  clear A20
  by_cases c3 : t129 = true
  · subst c3
    have H1 : ((synopticfield_New.f l0 40).bind fun bt130 => ((synopticlaw39_sample.f k bt130.1 bt130.2 6).bind fun bt133 => (synopticlaw39_SamplingExact.l0 k bt133.1 ([] : List (S31)) 0))) = some r := by rw [if_pos rfl] at H; exact H
    clear H
    have H := H1
    clear H1
    replace H := Option.bind_eq_some_iff.mp H
    obtain ⟨⟨t130, t131⟩, A40, H⟩ := H
    replace H : ((synopticlaw39_sample.f k t130 t131 6).bind fun bt133 => (synopticlaw39_SamplingExact.l0 k bt133.1 ([] : List (S31)) 0)) = some r := H
    have A4 := Aside0.mk A40
    clear A40
    replace H := Option.bind_eq_some_iff.mp H
    obtain ⟨⟨t133, t136⟩, A50, H⟩ := H
    replace H : (synopticlaw39_SamplingExact.l0 k t133 ([] : List (S31)) 0) = some r := H
    have A5 := Aside0.mk A50
    clear A50
    have H' := Aside0.mk H
    clear H
    go_enter Try.func3, Try.ntmps3
    go_wp2_with (first | ((with_reducible refine gate_callee (f := 9) rfl ?_); refine goesL_ (some 15) rfl rfl Try.func9 (by kernel_rfl) rfl #[] rfl (by (try simp only [List.map_toArray, List.map_cons, List.map_nil]); first | done | rfl | (simp only [List.length_drop, List.length_take]; rfl)) ?_; (with_reducible refine (synopticlaw39_awake.calls  true _ A2.out).mono ?_); rintro e w6 ⟨rfl, hb⟩; refine ⟨_, rfl, ?_⟩; have n0_ := Aside0.mk (below_step (by repeat (first | (with_reducible first | exact HB.out | apply below_alloc | apply pw_below_drewN | apply below_drew1) | exact HB.out)) hb); clear HB; have HB := n0_; clear n0_; (try clear hb); (try clear hb2); (try clear hk); (try clear hi)) | ((with_reducible refine gate_callee (f := 11) rfl ?_); refine goesL_ (some 18) rfl rfl Try.func11 (by kernel_rfl) rfl #[.slice A0 l0.length c0, .int .i64 40] rfl (by (try simp only [List.map_toArray, List.map_cons, List.map_nil]); first | done | rfl | (simp only [List.length_drop, List.length_take]; rfl)) ?_; (with_reducible refine (synopticfield_New.calls _ _ l0 40 t130 t131 w _ ?side1 ?side2 ?side3 A4.out).mono ?_); (case side1 => repeat (first | (with_reducible first | exact HB.out | apply below_alloc | apply pw_below_drewN | apply below_drew1) | exact HB.out)); (case side2 => exact HR0.out); (case side3 => exact HC0.out); rintro e w7 ⟨g132, rfl, hi, hb, hb2⟩; refine ⟨_, rfl, ?_⟩; have n0_ := Aside0.mk (hb); have n1_ := Aside0.mk (hi); clear HB; have HB := n0_; have HI132 := n1_; clear n0_ n1_; (try clear hb); (try clear hb2); (try clear hk); (try clear hi)) | ((with_reducible refine gate_callee (f := 10) rfl ?_); refine goesL_ (some 19) rfl rfl Try.func10 (by kernel_rfl) rfl #[.pointer (some ⟨g132, 0, none⟩), .int .i64 6] rfl (by (try simp only [List.map_toArray, List.map_cons, List.map_nil]); first | done | rfl | (simp only [List.length_drop, List.length_take]; rfl)) ?_; (with_reducible refine (synopticlaw39_sample.calls k g132 t130 t131 6 t133 t136 w _ ?side1 ?side2 A5.out).mono ?_); (case side1 => repeat (first | (with_reducible first | exact HI132.out | apply IsS59.alloc | apply IsS59.drewN | apply IsS59.drew | apply IsS59.set_1) | exact HI132.out)); (case side2 => repeat (first | (with_reducible first | exact HB.out | apply below_alloc | apply pw_below_drewN | apply below_drew1 | refine below_set ?_ (IsS59.ge HI132.out)) | exact HB.out)); rintro e w8 ⟨v134, rfl, ho0, hi, hb, hk⟩; refine ⟨_, rfl, ?_⟩; have n0_ := Aside0.mk (Kd.R_lower ho0 (below_size (by repeat (first | (with_reducible first | exact HB.out | apply below_alloc | apply pw_below_drewN | apply below_drew1 | refine below_set ?_ (IsS59.ge HI132.out)) | exact HB.out)))); have n1_ := Aside0.mk (hb); have n2_ := Aside0.mk (hi); clear HB; clear HI132; have HO135 := n0_; have HB := n1_; have HI132 := n2_; clear n0_ n1_ n2_; (try clear hb); (try clear hb2); (try clear hk); (try clear hi); (try clear ho0)))
    go_loopg [4, 5] k (fun kq v4 v5 w' => ∃ (x3_1 : List Int) (x4_1 : List (S31)) (x5_1 : Int), v5 = .int .i64 x5_1 ∧ Aside0 (synopticlaw39_SamplingExact.l0 kq x3_1 x4_1 x5_1 = some r) ∧ Aside0 (kq ≤ k) ∧ Aside0 (Kd.R (Kd.int .i64) 3 w' w.heap.size (fun _ => True) v134 x3_1) ∧ Aside0 (Kd.R k31 31 w' w.heap.size (fun _ => True) v4 x4_1) ∧ Aside0 (Below w.heap.size w w'))
    case atStart => exact ⟨(t133), (([] : List (S31))), (0), (by first | rfl | (simp; done) | (simp [*]; done)), H', ⟨Nat.le_refl _⟩, ⟨by (with_reducible repeat (first | apply Kd.R_alloc | apply Kd.R_drewN | apply Kd.R_drew)); exact HO135.out⟩, ⟨by first | exact Kd.R_nil _ _ _ _ _ | exact Kd.N_nil _ _ _ _ _ | exact Kd.V_nil _ _ _ _ _ | exact Kd.Q_nil _ _ _ _ _ | exact Kd.S_nil _ _ _ _ _⟩, ⟨by repeat (first | (with_reducible first | exact HB.out | apply below_alloc | apply pw_below_drewN | apply below_drew1 | refine below_set ?_ (IsS59.ge HI132.out)) | exact HB.out)⟩⟩
    case round =>
      clear H'
      try clear c1
      try clear p2
      try clear c3
      obtain ⟨x3_1, x4_1, x5_1, rfl, HA, HK1, HO_3, HO_4, HB⟩ := hrel
      cases gk with
      | zero => exact absurd HA.out (by simp [synopticlaw39_SamplingExact.l0])
      | succ k1 =>
        have H := HA.out
        clear HA
        simp only [synopticlaw39_SamplingExact.l0] at H
        obtain ⟨ji9, hji9⟩ : ∃ j_ : Int, (IntKind.u64.wrap ((x3_1.length : Int))) = j_ := ⟨_, rfl⟩
        replace H : (if 0 ≤ (ji9) then (if x5_1 < (shl .i64 1 (ji9)) then (if ([] : List Int).length + x3_1.length < 17592186044416 then ((some (([] : List Int) ++ x3_1 : List Int)).bind fun y137 => (synopticlaw39_SamplingExact.l1 k1 x3_1 x4_1 x5_1 y137 (y137.length : Int) 0)) else (none)) else (synopticlaw39_SamplingExact.l2 k1 x4_1 x4_1 (x4_1.length : Int) 0)) else (none)) = some r := by first | (rw [hji9] at H; exact H) | (simp only [hji9] at H ⊢; exact H)
        by_cases c10 : 0 ≤ (ji9)
        · rw [if_pos c10] at H
          have c10b0 := eq_true c10
          have c10b1 : decide (0 ≤ (ji9)) = true := decide_eq_true c10
          clear c10
          obtain ⟨ji11, hji11⟩ : ∃ j_ : Int, (shl .i64 1 (ji9)) = j_ := ⟨_, rfl⟩
          replace H : (if x5_1 < (ji11) then (if ([] : List Int).length + x3_1.length < 17592186044416 then ((some (([] : List Int) ++ x3_1 : List Int)).bind fun y137 => (synopticlaw39_SamplingExact.l1 k1 x3_1 x4_1 x5_1 y137 (y137.length : Int) 0)) else (none)) else (synopticlaw39_SamplingExact.l2 k1 x4_1 x4_1 (x4_1.length : Int) 0)) = some r := by first | (rw [hji11] at H; exact H) | (simp only [hji11] at H ⊢; exact H)
          have hji11_ : (IntKind.i64.wrap (1 * 2 ^ min (ji9).toNat 64)) = ji11 := hji11
          have hji11z : (ji9) ≤ 64 → (IntKind.i64.wrap (1 * 2 ^ (ji9).toNat)) = ji11 := shl_small hji11
          have hji11u : (IntKind.i64.wrap (2 ^ min (ji9).toNat 64)) = ji11 := by have h_ := hji11_; rw [Int.one_mul] at h_; exact h_
          have hji11v : (ji9) ≤ 64 → (IntKind.i64.wrap (2 ^ (ji9).toNat)) = ji11 := fun hle_ => by have h_ := hji11z hle_; rw [Int.one_mul] at h_; exact h_
          have hji11y : (wrap64 (1 * 2 ^ min (ji9).toNat 64)) = ji11 := (i64_w _).symm.trans hji11_
          have hji11x : (ji9) ≤ 64 → (wrap64 (1 * 2 ^ (ji9).toNat)) = ji11 := fun h_ => (i64_w _).symm.trans (hji11z h_)
          by_cases c12 : x5_1 < (ji11)
          · rw [if_pos c12] at H
            have c12b0 : decide (x5_1 < (ji11)) = true := decide_eq_true c12
            clear c12
            by_cases c13 : ([] : List Int).length + x3_1.length < 17592186044416
            · rw [if_pos c13] at H
              have LMc13 := Aside0.mk c13
              clear c13
              obtain ⟨y137, hy137⟩ : ∃ y_ : List Int, y_ = (([] : List Int) ++ x3_1) := ⟨_, rfl⟩
              replace H : (synopticlaw39_SamplingExact.l1 k1 x3_1 x4_1 x5_1 y137 (y137.length : Int) 0) = some r := by first | (rw [hy137]; with_reducible exact H) | (have H2_ := (Option.bind_some _ _).symm.trans H; rw [hy137]; with_reducible exact H2_) | (have H2_ := (Option.bind_some _ _).symm.trans H; with_reducible exact H2_) | with_reducible exact H | (rw [hy137]; exact H) | exact H
              have Ny137 := Aside0.mk hy137
              clear hy137
              have H' := Aside0.mk H
              clear H
              obtain ⟨Ao14, co14, eo14⟩ := Kd.R_slice HO_3.out
              subst eo14
              go_wp2_with (first | ((with_reducible refine gate_builtin (b := .append) (xs := #[.const (.slice none 0 0), .tmp 28]) rfl ?_); at_builtin; refine Kd.R_append_rows (Kd.int .i64) (w0 := w) w.heap.size rfl (.const (.slice none 0 0)) (.tmp 28) 24 3 (.int .i64 0) 8 rfl Try.underlying24 info3 rfl (by decide) (by omega) (.slice none 0 0) ([] : List Int) x3_1 _ _ _ (fun k_ => some k_ ≠ (.slice Ao14 x3_1.length co14 : Value).ownBlock) (fun _ => False) rfl rfl ?aO ?aR (fun _ _ h => h) (fun _ h => h.elim) ?aF ?aB ?aS ?aL ?_; (case aR => repeat (first | exact (Kd.R_reads' HO_3.out).2.2 | (with_reducible refine Kd.C_alloc ?_ _) | (with_reducible refine Kd.C_drewN ?_ _) | (with_reducible refine Kd.C_drew ?_))); (case aB => exact (by repeat (first | (with_reducible first | exact HB.out | apply below_alloc | apply pw_below_drewN | apply below_drew1) | exact HB.out))); (case aF => exact (fun k_ hk => Kd.fresh' (Kd.R_lt (by (with_reducible repeat (first | apply Kd.R_alloc | apply Kd.R_drewN | apply Kd.R_drew)); exact HO_3.out)) k_ hk)); (case aO => exact ((Kd.R_nil _ _ _ _ (fun k_ => some k_ ≠ (.slice Ao14 x3_1.length co14 : Value).ownBlock)))); (case aS => exact (below_size (by repeat (first | (with_reducible first | exact HB.out | apply below_alloc | apply pw_below_drewN | apply below_drew1) | exact HB.out)))); (case aL => have := LMc13.out; omega); intro v138 w15 ho hb hg hat; rw [← Ny137.out] at ho; have n0_ := Aside0.mk (Kd.R_after (Kd.R_apart_nil (by (with_reducible repeat (first | apply Kd.R_alloc | apply Kd.R_drewN | apply Kd.R_drew)); exact HO_3.out)) hg hat); have n1_ := Aside0.mk (Kd.R_grown (by (with_reducible repeat (first | apply Kd.R_alloc | apply Kd.R_drewN | apply Kd.R_drew)); exact HO_4.out) hg (fun _ _ => by simp [Value.ownBlock])); have n2_ := Aside0.mk (hb); have n3_ := Aside0.mk (ho); clear HO_3; clear HO_4; clear HB; have HO_3 := n0_; have HO_4 := n1_; have HB := n2_; have HO139 := n3_; clear n0_ n1_ n2_ n3_; clear ho hb hg hat; obtain ⟨Ao16, co16, eo16⟩ := Kd.R_slice HO139.out; subst eo16))
              go_loopg [32] k1 (fun kq v32 w' => ∃ (x6_2 : List Int) (x32_2 : Int), v32 = .int .i64 x32_2 ∧ Aside0 (synopticlaw39_SamplingExact.l1 kq x3_1 x4_1 x5_1 x6_2 (y137.length : Int) x32_2 = some r) ∧ Aside0 (kq ≤ k1) ∧ Aside0 (Kd.R (Kd.int .i64) 3 w' w.heap.size (fun k_ => some k_ ≠ ((.slice Ao16 y137.length co16) : Value).ownBlock) (.slice Ao14 x3_1.length co14) x3_1) ∧ Aside0 (Kd.R k31 31 w' w.heap.size (fun _ => True) u4 x4_1) ∧ Aside0 (Kd.R (Kd.int .i64) 3 w' w.heap.size (fun k_ => some k_ ≠ ((.slice Ao14 x3_1.length co14) : Value).ownBlock) (.slice Ao16 y137.length co16) x6_2) ∧ Aside0 (Below w.heap.size w w'))
              case atStart => exact ⟨(y137), (0), (by first | rfl | (simp; done) | (simp [*]; done)), H', ⟨Nat.le_refl _⟩, ⟨by (with_reducible repeat (first | apply Kd.R_alloc | apply Kd.R_drewN | apply Kd.R_drew)); exact Kd.R_mono HO_3.out (fun _ hk => hk.2)⟩, ⟨by (with_reducible repeat (first | apply Kd.R_alloc | apply Kd.R_drewN | apply Kd.R_drew)); exact HO_4.out⟩, ⟨by (with_reducible repeat (first | apply Kd.R_alloc | apply Kd.R_drewN | apply Kd.R_drew)); exact HO139.out⟩, ⟨by repeat (first | (with_reducible first | exact HB.out | apply below_alloc | apply pw_below_drewN | apply below_drew1) | exact HB.out)⟩⟩
              case round =>
                clear H'
                try clear c1
                try clear p2
                try clear c3
                try clear p6
                try clear c9
                try clear c10
                try clear c10b0
                try clear c10b1
                try clear c11
                try clear c12
                try clear c12b0
                try clear c13
                try clear p2
                obtain ⟨x6_2, x32_2, rfl, HA, HK2, HO_3, HO_4, HO_6, HB⟩ := hrel
                have hl6_2 := (Kd.R_reads' HO_6.out).1
                rw [hl6_2] at HO_6
                (try simp only [hl6_2])
                (try simp only [hl6_2] at HO_3)
                (try simp only [hl6_2] at HO_4)
                cases gk with
                | zero => exact absurd HA.out (by simp [synopticlaw39_SamplingExact.l1])
                | succ k2 =>
                  have H := HA.out
                  clear HA
                  simp only [synopticlaw39_SamplingExact.l1] at H
                  by_cases c17 : x32_2 < (y137.length : Int)
                  · rw [if_pos c17] at H
                    have c17b0 : decide (x32_2 < (y137.length : Int)) = true := decide_eq_true c17
                    have c17b2 : decide (x32_2 < (x6_2.length : Int)) = true := by rw [← hl6_2]; exact c17b0
                    clear c17
                    obtain ⟨ji18, hji18⟩ : ∃ j_ : Int, (IntKind.u64.wrap (x32_2)) = j_ := ⟨_, rfl⟩
                    replace H : (if 0 ≤ (ji18) then (if (Go.bits .and .i64 (shr .i64 x5_1 (ji18)) 1) = 1 then (if 0 ≤ x32_2 then (if x32_2 < (x6_2.length : Int) then (synopticlaw39_SamplingExact.l1 k2 x3_1 x4_1 x5_1 (x6_2.set (x32_2 : Int).toNat (wrap64 (-(rd x6_2 x32_2)))) (y137.length : Int) (wrap64 (x32_2 + 1))) else (none)) else (none)) else (synopticlaw39_SamplingExact.l1 k2 x3_1 x4_1 x5_1 x6_2 (y137.length : Int) (wrap64 (x32_2 + 1)))) else (none)) = some r := by first | (rw [hji18] at H; exact H) | (simp only [hji18] at H ⊢; exact H)
                    by_cases c19 : 0 ≤ (ji18)
                    · rw [if_pos c19] at H
                      have c19b0 := eq_true c19
                      have c19b1 : decide (0 ≤ (ji18)) = true := decide_eq_true c19
                      clear c19
                      obtain ⟨ji20, hji20⟩ : ∃ j_ : Int, (shr .i64 x5_1 (ji18)) = j_ := ⟨_, rfl⟩
                      replace H : (if (Go.bits .and .i64 (ji20) 1) = 1 then (if 0 ≤ x32_2 then (if x32_2 < (x6_2.length : Int) then (synopticlaw39_SamplingExact.l1 k2 x3_1 x4_1 x5_1 (x6_2.set (x32_2 : Int).toNat (wrap64 (-(rd x6_2 x32_2)))) (y137.length : Int) (wrap64 (x32_2 + 1))) else (none)) else (none)) else (synopticlaw39_SamplingExact.l1 k2 x3_1 x4_1 x5_1 x6_2 (y137.length : Int) (wrap64 (x32_2 + 1)))) = some r := by first | (rw [hji20] at H; exact H) | (simp only [hji20] at H ⊢; exact H)
                      have hji20_ : (x5_1 / 2 ^ min (ji18).toNat 64) = ji20 := hji20
                      have hji20z : (ji18) ≤ 64 → (x5_1 / 2 ^ (ji18).toNat) = ji20 := shr_small hji20
                      by_cases c21 : (Go.bits .and .i64 (ji20) 1) = 1
                      · rw [if_pos c21] at H
                        have c21b0 : ((Go.bits .and .i64 (ji20) 1) == 1) = true := beq_iff_eq.mpr c21
                        have c21b1 : ((Go.bits .and .i64 (ji20) 1) != 1) = false := bne_eq_false_iff_eq.mpr c21
                        clear c21
                        by_cases c22 : 0 ≤ x32_2
                        · rw [if_pos c22] at H
                          have c22b0 : decide (0 ≤ x32_2) = true := decide_eq_true c22
                          clear c22
                          by_cases c23 : x32_2 < (x6_2.length : Int)
                          · rw [if_pos c23] at H
                            have c23b0 : decide (x32_2 < (x6_2.length : Int)) = true := decide_eq_true c23
                            clear c23
                            obtain ⟨y141, hy141⟩ : ∃ y_ : List Int, y_ = (x6_2.set (x32_2 : Int).toNat (wrap64 (-(rd x6_2 x32_2)))) := ⟨_, rfl⟩
                            replace H : (synopticlaw39_SamplingExact.l1 k2 x3_1 x4_1 x5_1 y141 (y137.length : Int) (wrap64 (x32_2 + 1))) = some r := by first | (rw [hy141]; with_reducible exact H) | (have H2_ := (Option.bind_some _ _).symm.trans H; rw [hy141]; with_reducible exact H2_) | (have H2_ := (Option.bind_some _ _).symm.trans H; with_reducible exact H2_) | with_reducible exact H | (rw [hy141]; exact H) | exact H
                            have Ny141 := Aside0.mk hy141
                            clear hy141
                            have H' := Aside0.mk H
                            clear H
                            have p140 : 0 ≤ (x32_2 : Int) := of_decide_eq_true (by first | (with_reducible assumption) | assumption)
                            have q140 : x32_2 < (x6_2.length : Int) := of_decide_eq_true (by first | (with_reducible assumption) | assumption)
                            obtain ⟨ad140, e140, hx140_0⟩ := Kd.at_int (Kd.R_reads' HO_6.out).2.2 x32_2 p140 q140
                            cases e140
                            replace p140 := eq_true p140
                            replace q140 := eq_true q140
                            have p24 : 0 ≤ (x32_2 : Int) := of_decide_eq_true (by first | (with_reducible assumption) | assumption)
                            have q24 : (x32_2 : Int) < ((x6_2.length : Int) : Int) := of_decide_eq_true (by first | (with_reducible assumption) | assumption)
                            obtain ⟨go24, co24, eo24, gb24, gl24, cl24, HG24⟩ := Kd.R_form HO_6.out (by omega)
                            (first | cases eo24 | (injection eo24 with ea_ en_ ec_; (first | subst ea_ | (injection ea_ with ea_; subst ea_)); subst ec_; clear en_))
                            have GB24 := Aside0.mk gb24
                            have GG24 := Aside0.mk HG24
                            clear gb24 gl24 HG24
                            (first | simp only [add_plain] at hx140_0 | skip)
                            obtain ⟨hx24_0, hf24_0⟩ := Kd.R_celln 0 HO_6.out (x32_2 : Int) p24 q24
                            replace p24 := eq_true p24
                            replace q24 := eq_true q24
                            have HP25 := Kd.R_putg HO_6.out (x32_2 : Int) (wrap64 (-(rd x6_2 x32_2)))
                            go_wp2_with (first | ((with_reducible refine gate_store (t := 3) (p := 48) rfl ?_); refine store_event (t := 3) (p := 48) (v := ?vo_w26) (w1 := (wr.setCell ⟨go24, (x32_2 : Int).toNat, none⟩ (.int .i64 (wrap64 (-(rd x6_2 x32_2)))))) ?hg ?ho ?hn ?hr ?_; (case ho => rfl); (case hg => rfl); (case hn => rfl); (case hr => first | (go_simp; done) | (go_simp; rfl)); intro w26 hw; have hg : wr.grownBy w26 (some go24) := (by rw [hw]; exact HP25.2); have hp_ : Kd.R (Kd.int .i64) 3 w26 w.heap.size (fun k_ => some k_ ≠ (.slice Ao14 x3_1.length co14 : Value).ownBlock) (.slice (some ⟨go24, 0, none⟩) x6_2.length co16) y141 := (by rw [hw, Ny141.out]; exact HP25.1); clear HP25; have n0_ := Aside0.mk (Kd.R_after (v := (.slice (some ⟨go24, 0, none⟩) x6_2.length co16)) (v1 := (.slice (some ⟨go24, 0, none⟩) x6_2.length co16)) (ok := (fun _ => True)) (by (with_reducible repeat (first | apply Kd.R_alloc | apply Kd.R_drewN | apply Kd.R_drew)); exact Kd.R_mono HO_3.out (fun _ hk => ⟨trivial, hk⟩)) hg (.inl rfl)); have n1_ := Aside0.mk (Kd.R_over' (v := (.slice (some ⟨go24, 0, none⟩) x6_2.length co16)) (by (with_reducible repeat (first | apply Kd.R_alloc | apply Kd.R_drewN | apply Kd.R_drew)); exact HO_4.out) (Kd.R_typed HO_6.out) (by decide) hg); have n2_ := Aside0.mk (hp_); have n3_ := Aside0.mk ((by rw [hw]; exact below_set (HB.out) GB24.out : Below w.heap.size w w26)); clear HO_3; clear HO_4; clear HO_6; clear HB; have HO_3 := n0_; have HO_4 := n1_; have HO_6 := n2_; have HB := n3_; clear n0_ n1_ n2_ n3_; clear hg hw hp_))
                            (try simp only [← hl6_2])
                            go_roundg k2
                            case measure => have := HK1.out; have := HK2.out; omega
                            case rel => exact ⟨(y141), (wrap64 (x32_2 + 1)), (by first | rfl | (simp; done) | (simp [*]; done)), H', ⟨by have := HK1.out; have := HK2.out; omega⟩, ⟨by (try simp only [hl6_2]); (with_reducible repeat (first | apply Kd.R_alloc | apply Kd.R_drewN | apply Kd.R_drew)); exact Kd.R_mono HO_3.out (fun _ hk => hk.2)⟩, ⟨by (try simp only [hl6_2]); (with_reducible repeat (first | apply Kd.R_alloc | apply Kd.R_drewN | apply Kd.R_drew)); exact HO_4.out⟩, ⟨by (try simp only [hl6_2]); (with_reducible repeat (first | apply Kd.R_alloc | apply Kd.R_drewN | apply Kd.R_drew)); exact HO_6.out⟩, ⟨by repeat (first | (with_reducible first | exact HB.out | apply below_alloc | apply pw_below_drewN | apply below_drew1) | exact HB.out)⟩⟩
                          · rw [if_neg c23] at H
                            exact absurd H (by simp)
                        · rw [if_neg c22] at H
                          exact absurd H (by simp)
                      · rw [if_neg c21] at H
                        have c21b0 : ((Go.bits .and .i64 (ji20) 1) == 1) = false := beq_eq_false_iff_ne.mpr c21
                        have c21b1 : ((Go.bits .and .i64 (ji20) 1) != 1) = true := bne_iff_ne.mpr c21
                        have H' := Aside0.mk H
                        clear H
                        go_wp2
                        (try simp only [← hl6_2])
                        go_roundg k2
                        case measure => have := HK1.out; have := HK2.out; omega
                        case rel => exact ⟨(x6_2), (wrap64 (x32_2 + 1)), (by first | rfl | (simp; done) | (simp [*]; done)), H', ⟨by have := HK1.out; have := HK2.out; omega⟩, ⟨by (try simp only [hl6_2]); (with_reducible repeat (first | apply Kd.R_alloc | apply Kd.R_drewN | apply Kd.R_drew)); exact HO_3.out⟩, ⟨by (try simp only [hl6_2]); (with_reducible repeat (first | apply Kd.R_alloc | apply Kd.R_drewN | apply Kd.R_drew)); exact HO_4.out⟩, ⟨by (try simp only [hl6_2]); (with_reducible repeat (first | apply Kd.R_alloc | apply Kd.R_drewN | apply Kd.R_drew)); exact HO_6.out⟩, ⟨by repeat (first | (with_reducible first | exact HB.out | apply below_alloc | apply pw_below_drewN | apply below_drew1) | exact HB.out)⟩⟩
                    · rw [if_neg c19] at H
                      exact absurd H (by simp)
                  · rw [if_neg c17] at H
                    have c17b0 : decide (x32_2 < (y137.length : Int)) = false := decide_eq_false c17
                    have c17b2 : decide (x32_2 < (x6_2.length : Int)) = false := by rw [← hl6_2]; exact c17b0
                    clear c17
                    replace H := Option.bind_eq_some_iff.mp H
                    obtain ⟨⟨t142, t143, t144⟩, A270, H⟩ := H
                    replace H : (if t144 = 0 then (if x4_1.length < 8796093022208 then (synopticlaw39_SamplingExact.l0 k2 x3_1 (x4_1 ++ [(⟨t142, t143⟩ : S31)]) (wrap64 (x5_1 + 1))) else (none)) else (none)) = some r := H
                    have A27 := Aside0.mk A270
                    clear A270
                    by_cases c28 : t144 = 0
                    · rw [if_pos c28] at H
                      have c28b0 : (t144 == 0) = true := beq_iff_eq.mpr c28
                      have c28b1 : (t144 != 0) = false := bne_eq_false_iff_eq.mpr c28
                      clear c28
                      by_cases c29 : x4_1.length < 8796093022208
                      · rw [if_pos c29] at H
                        have LMc29 := Aside0.mk c29
                        clear c29
                        obtain ⟨y146, hy146⟩ : ∃ y_ : List (S31), y_ = (x4_1 ++ [(⟨t142, t143⟩ : S31)]) := ⟨_, rfl⟩
                        replace H : (synopticlaw39_SamplingExact.l0 k2 x3_1 y146 (wrap64 (x5_1 + 1))) = some r := by first | (rw [hy146]; with_reducible exact H) | (have H2_ := (Option.bind_some _ _).symm.trans H; rw [hy146]; with_reducible exact H2_) | (have H2_ := (Option.bind_some _ _).symm.trans H; with_reducible exact H2_) | with_reducible exact H | (rw [hy146]; exact H) | exact H
                        have Ny146 := Aside0.mk hy146
                        clear hy146
                        have H' := Aside0.mk H
                        clear H
                        go_wp2_with (first | ((with_reducible refine gate_callee (f := 12) rfl ?_); refine goesL_ (some 52) rfl rfl Try.func12 (by kernel_rfl) rfl #[.slice Ao16 x6_2.length co16] rfl (by (try simp only [List.map_toArray, List.map_cons, List.map_nil]); first | done | rfl | (simp only [List.length_drop, List.length_take]; rfl)) ?_; (with_reducible refine (sampling_Signs.calls _ _ x6_2 t142 t143 t144 _ ?side1 ?side2 A27.out).mono ?_); (case side1 => repeat (first | exact (Kd.R_reads' HO_6.out).2.2 | (with_reducible refine Kd.C_alloc ?_ _) | (with_reducible refine Kd.C_drewN ?_ _) | (with_reducible refine Kd.C_drew ?_))); (case side2 => exact (Kd.R_reads' HO_6.out).2.1); rintro e w30 ⟨rfl, hb⟩; refine ⟨_, rfl, ?_⟩; have n0_ := Aside0.mk (Kd.R_below (by (with_reducible repeat (first | apply Kd.R_alloc | apply Kd.R_drewN | apply Kd.R_drew)); exact HO_3.out) hb); have n1_ := Aside0.mk (Kd.R_below (by (with_reducible repeat (first | apply Kd.R_alloc | apply Kd.R_drewN | apply Kd.R_drew)); exact HO_4.out) hb); have n2_ := Aside0.mk (Kd.R_below (by (with_reducible repeat (first | apply Kd.R_alloc | apply Kd.R_drewN | apply Kd.R_drew)); exact HO_6.out) hb); have n3_ := Aside0.mk (below_step (by repeat (first | (with_reducible first | exact HB.out | apply below_alloc | apply pw_below_drewN | apply below_drew1) | exact HB.out)) hb); clear HO_3; clear HO_4; clear HO_6; clear HB; have HO_3 := n0_; have HO_4 := n1_; have HO_6 := n2_; have HB := n3_; clear n0_ n1_ n2_ n3_; (try clear hb); (try clear hb2); (try clear hk); (try clear hi)) | ((with_reducible refine gate_dst (N := 8) rfl ?_); refine box_event ?hg (N := 8) ?hd (cs := #[.int .i64 0, .int .i64 0]) (t := 31) ?hr ?_; (case hd => rfl); (case hg => rfl); (case hr => first | (go_simp; done) | (go_simp; rfl)); intro gb145 hg w31 hbox hb; have n0_ := Aside0.mk (Kd.R_below (by (with_reducible repeat (first | apply Kd.R_alloc | apply Kd.R_drewN | apply Kd.R_drew)); exact HO_3.out) hb); have n1_ := Aside0.mk (Kd.R_below (Kd.R_elderB (by (with_reducible repeat (first | apply Kd.R_alloc | apply Kd.R_drewN | apply Kd.R_drew)); exact HO_4.out) gb145 (Nat.le_of_eq hg.symm)) hb); have n2_ := Aside0.mk (Kd.R_below (by (with_reducible repeat (first | apply Kd.R_alloc | apply Kd.R_drewN | apply Kd.R_drew)); exact HO_6.out) hb); have n3_ := Aside0.mk (below_step (by repeat (first | (with_reducible first | exact HB.out | apply below_alloc | apply pw_below_drewN | apply below_drew1) | exact HB.out)) hb); have n4_ := Aside0.mk (hbox); have n5_ := Aside0.mk ((by rw [hg]; exact (below_size (by repeat (first | (with_reducible first | exact HB.out | apply below_alloc | apply pw_below_drewN | apply below_drew1) | exact HB.out))) : w.heap.size ≤ gb145)); have n6_ := Aside0.mk ((by rw [hg]; exact (below_size (by repeat (first | (with_reducible first | exact HB.out | apply below_alloc | apply pw_below_drewN | apply below_drew1) | exact HB.out))) : w.heap.size ≤ gb145)); clear HO_3; clear HO_4; clear HO_6; clear HB; have HO_3 := n0_; have HO_4 := n1_; have HO_6 := n2_; have HB := n3_; have BK145 := n4_; have GW145 := n5_; have GE145 := n6_; clear n0_ n1_ n2_ n3_ n4_ n5_ n6_; clear hb hbox hg; have hcz32_0 : w31.cell? ⟨gb145, 0, none⟩ = some (.int .i64 0) := (blk_cell BK145.out 0).trans rfl; have hcz32_1 : w31.cell? ⟨gb145, 1, none⟩ = some (.int .i64 0) := (blk_cell BK145.out 1).trans rfl; have hfz32_0 := blk_frozen BK145.out 0; have hfz32_1 := blk_frozen BK145.out 1) | ((with_reducible refine gate_store (t := 31) (p := 8) rfl ?_); refine store_event (t := 31) (p := 8) (v := ?vo_w33) (w1 := ((w31.setCell ⟨gb145, 0, none⟩ (.int .i64 t142)).setCell ⟨gb145, 1, none⟩ (.int .i64 t143))) ?hg ?ho ?hn ?hr ?_; (case ho => rfl); (case hg => rfl); (case hn => rfl); (case hr => first | (go_simp; done) | (go_simp; rfl)); intro w33 hw; have n0_ : Aside0 (Kd.R (Kd.int .i64) 3 w33 w.heap.size (fun k_ => some k_ ≠ (.slice Ao16 x6_2.length co16 : Value).ownBlock) (.slice Ao14 x3_1.length co14) x3_1) := ⟨(by rw [hw]; exact (by (with_reducible repeat (first | apply Kd.R_alloc | apply Kd.R_drewN | apply Kd.R_drew)); exact Kd.R_mono (Kd.R_far (p := ⟨gb145, 1, none⟩) (Kd.R_far (p := ⟨gb145, 0, none⟩) (Kd.R_types HO_3.out BK145.out (by decide)) (fun _ hk => hk.2) (.int .i64 t142)) (fun _ hk => hk.2) (.int .i64 t143)) (fun _ hk => hk.1)))⟩; have n1_ : Aside0 (Kd.R k31 31 w33 w.heap.size (fun k_ => k_ ≠ gb145) u4 x4_1) := ⟨(by rw [hw]; exact (by (with_reducible repeat (first | apply Kd.R_alloc | apply Kd.R_drewN | apply Kd.R_drew)); exact Kd.R_mono (Kd.R_far (p := ⟨gb145, 1, none⟩) (Kd.R_far (p := ⟨gb145, 0, none⟩) (Kd.R_mono HO_4.out (fun k_ hk => (⟨hk, hk.2⟩ : _ ∧ k_ ≠ gb145))) (fun _ hk => hk.2) (.int .i64 t142)) (fun _ hk => hk.2) (.int .i64 t143)) (fun _ hk => hk.1.2)))⟩; have n2_ : Aside0 (Kd.R (Kd.int .i64) 3 w33 w.heap.size (fun k_ => some k_ ≠ (.slice Ao14 x3_1.length co14 : Value).ownBlock) (.slice Ao16 x6_2.length co16) x6_2) := ⟨(by rw [hw]; exact (by (with_reducible repeat (first | apply Kd.R_alloc | apply Kd.R_drewN | apply Kd.R_drew)); exact Kd.R_mono (Kd.R_far (p := ⟨gb145, 1, none⟩) (Kd.R_far (p := ⟨gb145, 0, none⟩) (Kd.R_types HO_6.out BK145.out (by decide)) (fun _ hk => hk.2) (.int .i64 t142)) (fun _ hk => hk.2) (.int .i64 t143)) (fun _ hk => hk.1)))⟩; have n3_ : Aside0 (w33.heap[gb145]? = some (.cells #[.int .i64 t142, .int .i64 t143] 31 (0, 0))) := ⟨(by rw [hw]; exact (by (with_reducible repeat (first | refine blk_drewN ?_ _ | refine blk_drew ?_ | refine blk_alloc ?_ _)); refine blk_put (cs := #[.int .i64 t142, .int .i64 0]) ?_ 1 _ rfl; (with_reducible repeat (first | refine blk_drewN ?_ _ | refine blk_drew ?_ | refine blk_alloc ?_ _)); refine blk_put (cs := #[.int .i64 0, .int .i64 0]) ?_ 0 _ rfl; (with_reducible repeat (first | refine blk_drewN ?_ _ | refine blk_drew ?_ | refine blk_alloc ?_ _)); exact BK145.out))⟩; have n4_ : Aside0 (Below w.heap.size w w33) := ⟨(by rw [hw]; exact (by repeat (first | (with_reducible first | exact HB.out | apply below_alloc | apply pw_below_drewN | apply below_drew1 | refine below_set ?_ GE145.out) | exact HB.out)))⟩; clear hw; clear HO_3; clear HO_4; clear HO_6; clear BK145; clear HB; have HO_3 := n0_; have HO_4 := n1_; have HO_6 := n2_; have BK145 := n3_; have HB := n4_; clear n0_ n1_ n2_ n3_ n4_; have hcz34_0 : w33.cell? ⟨gb145, 0, none⟩ = some (.int .i64 t142) := (blk_cell BK145.out 0).trans rfl; have hcz34_1 : w33.cell? ⟨gb145, 1, none⟩ = some (.int .i64 t143) := (blk_cell BK145.out 1).trans rfl; have hfz34_0 := blk_frozen BK145.out 0; have hfz34_1 := blk_frozen BK145.out 1) | ((with_reducible refine gate_builtin (b := .append) (xs := #[.tmp 57, .tmp 59]) rfl ?_); at_builtin; refine Kd.R_append k31 (w0 := w) w.heap.size rfl (.tmp 57) (.tmp 59) 28 31 (.agg #[(.int .i64 0), (.int .i64 0)]) 16 rfl Try.underlying28 info31 rfl (by decide) (by omega) u4 x4_1 (⟨t142, t143⟩ : S31) [.int .i64 t142, .int .i64 t143] (fun k_ => k_ ≠ gb145) (fun _ => False) rfl rfl ?aP (fun _ hk => hk.elim) ?aF ?aO ?aB ?aS ?aL ?_; (case aP => exact k31_mkM _ _ _ (⟨t142, t143⟩ : S31)); (case aB => exact (by repeat (first | (with_reducible first | exact HB.out | apply below_alloc | apply pw_below_drewN | apply below_drew1 | refine below_set ?_ GE145.out) | exact HB.out))); (case aF => exact (fun k_ hk => Kd.freshB (g := gb145) (o := .cells #[.int .i64 t142, .int .i64 t143] 31 (0, 0)) (by (with_reducible repeat (first | refine blk_drewN ?_ _ | refine blk_drew ?_ | refine blk_alloc ?_ _)); exact BK145.out) k_ hk)); (case aO => exact (by (with_reducible repeat (first | apply Kd.R_alloc | apply Kd.R_drewN | apply Kd.R_drew)); exact HO_4.out)); (case aS => exact (below_size (by repeat (first | (with_reducible first | exact HB.out | apply below_alloc | apply pw_below_drewN | apply below_drew1 | refine below_set ?_ GE145.out) | exact HB.out)))); (case aL => have := LMc29.out; omega); intro v147 w35 ho hb hg hat; rw [← Ny146.out] at ho; have n0_ := Aside0.mk (Kd.R_over' (by (with_reducible repeat (first | apply Kd.R_alloc | apply Kd.R_drewN | apply Kd.R_drew)); exact HO_3.out) (Kd.R_typed (by (with_reducible repeat (first | apply Kd.R_alloc | apply Kd.R_drewN | apply Kd.R_drew)); exact HO_4.out)) (by decide) hg); have n1_ := Aside0.mk (Kd.R_over' (by (with_reducible repeat (first | apply Kd.R_alloc | apply Kd.R_drewN | apply Kd.R_drew)); exact HO_6.out) (Kd.R_typed (by (with_reducible repeat (first | apply Kd.R_alloc | apply Kd.R_drewN | apply Kd.R_drew)); exact HO_4.out)) (by decide) hg); have n2_ := Aside0.mk (blk_grown (g := gb145) (o := .cells #[.int .i64 t142, .int .i64 t143] 31 (0, 0)) (by (with_reducible repeat (first | refine blk_drewN ?_ _ | refine blk_drew ?_ | refine blk_alloc ?_ _)); exact BK145.out) hg (Kd.R_away HO_4.out (fun _ hk => hk))); have n3_ := Aside0.mk (hb); have n4_ := Aside0.mk (ho); clear HO_3; clear HO_6; clear BK145; clear HB; clear HO_4; have HO_3 := n0_; have HO_6 := n1_; have BK145 := n2_; have HB := n3_; have HO148 := n4_; clear n0_ n1_ n2_ n3_ n4_; clear ho hb hg hat))
                        (try simp only [← hl6_2])
                        go_roundg k2
                        case measure => have := HK1.out; have := HK2.out; omega
                        case rel => exact ⟨(x3_1), (y146), (wrap64 (x5_1 + 1)), (by first | rfl | (simp; done) | (simp [*]; done)), H', ⟨by have := HK1.out; have := HK2.out; omega⟩, ⟨by (try simp only [hl6_2]); (with_reducible repeat (first | apply Kd.R_alloc | apply Kd.R_drewN | apply Kd.R_drew)); exact Kd.R_mono HO_3.out (fun _ hk => trivial)⟩, ⟨by (try simp only [hl6_2]); (with_reducible repeat (first | apply Kd.R_alloc | apply Kd.R_drewN | apply Kd.R_drew)); exact Kd.R_mono HO148.out (fun _ hk => trivial)⟩, ⟨by repeat (first | (with_reducible first | exact HB.out | apply below_alloc | apply pw_below_drewN | apply below_drew1 | refine below_set ?_ GE145.out) | exact HB.out)⟩⟩
                      · rw [if_neg c29] at H
                        exact absurd H (by simp)
                    · rw [if_neg c28] at H
                      exact absurd H (by simp)
            · rw [if_neg c13] at H
              exact absurd H (by simp)
          · rw [if_neg c12] at H
            have c12b0 : decide (x5_1 < (ji11)) = false := decide_eq_false c12
            clear c12
            have H' := Aside0.mk H
            clear H
            obtain ⟨Ao36, co36, eo36⟩ := Kd.R_slice HO_3.out
            subst eo36
            obtain ⟨Ao37, co37, eo37⟩ := Kd.R_slice HO_4.out
            subst eo37
            go_wp2
            go_loopg [63] k1 (fun kq v63 w' => ∃ (x63_2 : Int), v63 = .int .i64 x63_2 ∧ Aside0 (synopticlaw39_SamplingExact.l2 kq x4_1 x4_1 (x4_1.length : Int) x63_2 = some r) ∧ Aside0 (kq ≤ k1) ∧ Aside0 (Kd.R k31 31 w' w.heap.size (fun _ => True) (.slice Ao37 x4_1.length co37) x4_1) ∧ Aside0 (Kd.R k31 31 w' w.heap.size (fun _ => True) (.slice Ao37 x4_1.length co37) x4_1) ∧ Aside0 (Below w.heap.size w w'))
            case atStart => exact ⟨(0), (by first | rfl | (simp; done) | (simp [*]; done)), H', ⟨Nat.le_refl _⟩, ⟨by (with_reducible repeat (first | apply Kd.R_alloc | apply Kd.R_drewN | apply Kd.R_drew)); exact HO_4.out⟩, ⟨by (with_reducible repeat (first | apply Kd.R_alloc | apply Kd.R_drewN | apply Kd.R_drew)); exact HO_4.out⟩, ⟨by repeat (first | (with_reducible first | exact HB.out | apply below_alloc | apply pw_below_drewN | apply below_drew1) | exact HB.out)⟩⟩
            case round =>
              clear H'
              try clear c1
              try clear p1
              try clear q1
              try clear hx1
              try clear c2
              try clear p2
              try clear q2
              try clear hx2
              try clear hf2
              try clear c3
              try clear p6
              try clear c9
              try clear c10
              try clear c10b0
              try clear c10b1
              try clear c11
              try clear c12
              try clear c12b0
              try clear c13
              try clear p14
              try clear q14
              try clear hx14
              try clear c17
              try clear c17b0
              try clear c19
              try clear c19b0
              try clear c19b1
              try clear c21
              try clear c21b0
              try clear c21b1
              try clear c22
              try clear c22b0
              try clear c23
              try clear c23b0
              try clear p24
              try clear q24
              try clear hx24
              try clear hf24
              try clear c28
              try clear c28b0
              try clear c28b1
              try clear c29
              try clear hcz32_0
              try clear hcz32_1
              try clear hcz34_0
              try clear hcz34_1
              try clear hfz32_0
              try clear hfz32_1
              try clear hfz34_0
              try clear hfz34_1
              try clear hx140_0
              try clear hx24_0
              try clear p140
              try clear p2
              try clear p24
              try clear p6
              try clear q140
              try clear q24
              obtain ⟨x63_2, rfl, HA, HK2, HO_4, HO_61, HB⟩ := hrel
              cases gk with
              | zero => exact absurd HA.out (by simp [synopticlaw39_SamplingExact.l2])
              | succ k2 =>
                have H := HA.out
                clear HA
                simp only [synopticlaw39_SamplingExact.l2] at H
                by_cases c38 : x63_2 < (x4_1.length : Int)
                · rw [if_pos c38] at H
                  have c38b0 : decide (x63_2 < (x4_1.length : Int)) = true := decide_eq_true c38
                  clear c38
                  by_cases c39 : 0 ≤ x63_2
                  · rw [if_pos c39] at H
                    have c39b0 : decide (0 ≤ x63_2) = true := decide_eq_true c39
                    clear c39
                    by_cases c40 : x63_2 < (x4_1.length : Int)
                    · rw [if_pos c40] at H
                      have c40b0 : decide (x63_2 < (x4_1.length : Int)) = true := decide_eq_true c40
                      clear c40
                      have H' := Aside0.mk H
                      clear H
                      have p149 : 0 ≤ (x63_2 : Int) := of_decide_eq_true (by first | (with_reducible assumption) | assumption)
                      have q149 : x63_2 < (x4_1.length : Int) := of_decide_eq_true (by first | (with_reducible assumption) | assumption)
                      obtain ⟨ad149, e149, hx149_0, hx149_1⟩ := at_T31 (Kd.R_reads' HO_61.out).2.2 x63_2 p149 q149
                      cases e149
                      replace p149 := eq_true p149
                      replace q149 := eq_true q149
                      go_wp2_with (first | ((with_reducible refine gate_dst (N := 11) rfl ?_); refine box_event ?hg (N := 11) ?hd (cs := #[.int .i64 0, .int .i64 0]) (t := 31) ?hr ?_; (case hd => rfl); (case hg => rfl); (case hr => first | (go_simp; done) | (go_simp; rfl)); intro gb150 hg w41 hbox hb; have n0_ := Aside0.mk (Kd.R_below (Kd.R_elderB (by (with_reducible repeat (first | apply Kd.R_alloc | apply Kd.R_drewN | apply Kd.R_drew)); exact HO_4.out) gb150 (Nat.le_of_eq hg.symm)) hb); have n1_ := Aside0.mk (Kd.R_below (Kd.R_elderB (by (with_reducible repeat (first | apply Kd.R_alloc | apply Kd.R_drewN | apply Kd.R_drew)); exact HO_61.out) gb150 (Nat.le_of_eq hg.symm)) hb); have n2_ := Aside0.mk (below_step (by repeat (first | (with_reducible first | exact HB.out | apply below_alloc | apply pw_below_drewN | apply below_drew1) | exact HB.out)) hb); have n3_ := Aside0.mk (hbox); have n4_ := Aside0.mk ((by rw [hg]; exact (below_size (by repeat (first | (with_reducible first | exact HB.out | apply below_alloc | apply pw_below_drewN | apply below_drew1) | exact HB.out))) : w.heap.size ≤ gb150)); have n5_ := Aside0.mk ((by rw [hg]; exact (below_size (by repeat (first | (with_reducible first | exact HB.out | apply below_alloc | apply pw_below_drewN | apply below_drew1) | exact HB.out))) : w.heap.size ≤ gb150)); clear HO_4; clear HO_61; clear HB; have HO_4 := n0_; have HO_61 := n1_; have HB := n2_; have BK150 := n3_; have GW150 := n4_; have GE150 := n5_; clear n0_ n1_ n2_ n3_ n4_ n5_; clear hb hbox hg; have hcz42_0 : w41.cell? ⟨gb150, 0, none⟩ = some (.int .i64 0) := (blk_cell BK150.out 0).trans rfl; have hcz42_1 : w41.cell? ⟨gb150, 1, none⟩ = some (.int .i64 0) := (blk_cell BK150.out 1).trans rfl; have hfz42_0 := blk_frozen BK150.out 0; have hfz42_1 := blk_frozen BK150.out 1) | ((with_reducible refine gate_store (t := 31) (p := 11) rfl ?_); refine store_event (t := 31) (p := 11) (v := ?vo_w43) (w1 := ((w41.setCell ⟨gb150, 0, none⟩ (.int .i64 ((rd_T31 x4_1 x63_2).f0))).setCell ⟨gb150, 1, none⟩ (.int .i64 ((rd_T31 x4_1 x63_2).f1)))) ?hg ?ho ?hn ?hr ?_; (case ho => rfl); (case hg => rfl); (case hn => rfl); (case hr => first | (go_simp; done) | (go_simp; rfl)); intro w43 hw; have n0_ : Aside0 (Kd.R k31 31 w43 w.heap.size (fun k_ => k_ ≠ gb150) (.slice (some ad149) x4_1.length co37) x4_1) := ⟨(by rw [hw]; exact (by (with_reducible repeat (first | apply Kd.R_alloc | apply Kd.R_drewN | apply Kd.R_drew)); exact Kd.R_mono (Kd.R_far (p := ⟨gb150, 1, none⟩) (Kd.R_far (p := ⟨gb150, 0, none⟩) (Kd.R_mono HO_4.out (fun k_ hk => (⟨hk, hk.2⟩ : _ ∧ k_ ≠ gb150))) (fun _ hk => hk.2) (.int .i64 ((rd_T31 x4_1 x63_2).f0))) (fun _ hk => hk.2) (.int .i64 ((rd_T31 x4_1 x63_2).f1))) (fun _ hk => hk.1.2)))⟩; have n1_ : Aside0 (Kd.R k31 31 w43 w.heap.size (fun k_ => k_ ≠ gb150) (.slice (some ad149) x4_1.length co37) x4_1) := ⟨(by rw [hw]; exact (by (with_reducible repeat (first | apply Kd.R_alloc | apply Kd.R_drewN | apply Kd.R_drew)); exact Kd.R_mono (Kd.R_far (p := ⟨gb150, 1, none⟩) (Kd.R_far (p := ⟨gb150, 0, none⟩) (Kd.R_mono HO_61.out (fun k_ hk => (⟨hk, hk.2⟩ : _ ∧ k_ ≠ gb150))) (fun _ hk => hk.2) (.int .i64 ((rd_T31 x4_1 x63_2).f0))) (fun _ hk => hk.2) (.int .i64 ((rd_T31 x4_1 x63_2).f1))) (fun _ hk => hk.1.2)))⟩; have n2_ : Aside0 (w43.heap[gb150]? = some (.cells #[.int .i64 ((rd_T31 x4_1 x63_2).f0), .int .i64 ((rd_T31 x4_1 x63_2).f1)] 31 (0, 0))) := ⟨(by rw [hw]; exact (by (with_reducible repeat (first | refine blk_drewN ?_ _ | refine blk_drew ?_ | refine blk_alloc ?_ _)); refine blk_put (cs := #[.int .i64 ((rd_T31 x4_1 x63_2).f0), .int .i64 0]) ?_ 1 _ rfl; (with_reducible repeat (first | refine blk_drewN ?_ _ | refine blk_drew ?_ | refine blk_alloc ?_ _)); refine blk_put (cs := #[.int .i64 0, .int .i64 0]) ?_ 0 _ rfl; (with_reducible repeat (first | refine blk_drewN ?_ _ | refine blk_drew ?_ | refine blk_alloc ?_ _)); exact BK150.out))⟩; have n3_ : Aside0 (Below w.heap.size w w43) := ⟨(by rw [hw]; exact (by repeat (first | (with_reducible first | exact HB.out | apply below_alloc | apply pw_below_drewN | apply below_drew1 | refine below_set ?_ GE150.out) | exact HB.out)))⟩; clear hw; clear HO_4; clear HO_61; clear BK150; clear HB; have HO_4 := n0_; have HO_61 := n1_; have BK150 := n2_; have HB := n3_; clear n0_ n1_ n2_ n3_))
                      go_loopg [12, 69] k2 (fun kq v12 v69 w' => ∃ (x12_3 : Int) (x69_3 : Int), v12 = .int .i64 x12_3 ∧ v69 = .int .i64 x69_3 ∧ Aside0 (synopticlaw39_SamplingExact.l3 kq x4_1 x12_3 x4_1 (x4_1.length : Int) x63_2 x4_1 (x4_1.length : Int) x69_3 ((rd_T31 x4_1 x63_2).f0) ((rd_T31 x4_1 x63_2).f1) = some r) ∧ Aside0 (kq ≤ k2) ∧ Aside0 (Kd.R k31 31 w' w.heap.size (fun k_ => k_ ≠ gb150) (.slice (some ad149) x4_1.length co37) x4_1) ∧ Aside0 (Kd.R k31 31 w' w.heap.size (fun k_ => k_ ≠ gb150) (.slice (some ad149) x4_1.length co37) x4_1) ∧ Aside0 (Kd.R k31 31 w' w.heap.size (fun k_ => k_ ≠ gb150) (.slice (some ad149) x4_1.length co37) x4_1) ∧ Aside0 (w'.heap[gb150]? = some (.cells #[.int .i64 ((rd_T31 x4_1 x63_2).f0), .int .i64 ((rd_T31 x4_1 x63_2).f1)] 31 (0, 0))) ∧ Aside0 (Below w.heap.size w w'))
                      case atStart => exact ⟨(0), (0), (by first | rfl | (simp; done) | (simp [*]; done)), (by first | rfl | (simp; done) | (simp [*]; done)), H', ⟨Nat.le_refl _⟩, ⟨by (with_reducible repeat (first | apply Kd.R_alloc | apply Kd.R_drewN | apply Kd.R_drew)); exact HO_4.out⟩, ⟨by (with_reducible repeat (first | apply Kd.R_alloc | apply Kd.R_drewN | apply Kd.R_drew)); exact HO_61.out⟩, ⟨by (with_reducible repeat (first | apply Kd.R_alloc | apply Kd.R_drewN | apply Kd.R_drew)); exact HO_4.out⟩, ⟨by (with_reducible repeat (first | refine blk_drewN ?_ _ | refine blk_drew ?_ | refine blk_alloc ?_ _)); exact BK150.out⟩, ⟨by repeat (first | (with_reducible first | exact HB.out | apply below_alloc | apply pw_below_drewN | apply below_drew1 | refine below_set ?_ GE150.out) | exact HB.out)⟩⟩
                      case round =>
                        clear H'
                        try clear c1
                        try clear p1
                        try clear q1
                        try clear hx1
                        try clear c2
                        try clear p2
                        try clear q2
                        try clear hx2
                        try clear hf2
                        try clear c3
                        try clear c4
                        try clear p6
                        try clear c9
                        try clear c10
                        try clear c10b0
                        try clear c10b1
                        try clear c11
                        try clear c12
                        try clear c12b0
                        try clear c13
                        try clear p14
                        try clear q14
                        try clear hx14
                        try clear c17
                        try clear c17b0
                        try clear c19
                        try clear c19b0
                        try clear c19b1
                        try clear c21
                        try clear c21b0
                        try clear c21b1
                        try clear c22
                        try clear c22b0
                        try clear c23
                        try clear c23b0
                        try clear p24
                        try clear q24
                        try clear hx24
                        try clear hf24
                        try clear c28
                        try clear c28b0
                        try clear c28b1
                        try clear c29
                        try clear c38
                        try clear c38b0
                        try clear c39
                        try clear c39b0
                        try clear c40
                        try clear c40b0
                        try clear hcz32_0
                        try clear hcz32_1
                        try clear hcz34_0
                        try clear hcz34_1
                        try clear hcz42_0
                        try clear hcz42_1
                        try clear hfz32_0
                        try clear hfz32_1
                        try clear hfz34_0
                        try clear hfz34_1
                        try clear hfz42_0
                        try clear hfz42_1
                        try clear hx140_0
                        try clear hx149_0
                        try clear hx149_1
                        try clear hx24_0
                        try clear p1
                        try clear p14
                        try clear p140
                        try clear p149
                        try clear p2
                        try clear p24
                        try clear p6
                        try clear q1
                        try clear q14
                        try clear q140
                        try clear q149
                        try clear q2
                        try clear q24
                        obtain ⟨x12_3, x69_3, rfl, rfl, HA, HK3, HO_4, HO_61, HO_67, BK150, HB⟩ := hrel
                        cases gk with
                        | zero => exact absurd HA.out (by simp [synopticlaw39_SamplingExact.l3])
                        | succ k3 =>
                          have H := HA.out
                          clear HA
                          simp only [synopticlaw39_SamplingExact.l3] at H
                          by_cases c44 : x69_3 < (x4_1.length : Int)
                          · rw [if_pos c44] at H
                            have c44b0 : decide (x69_3 < (x4_1.length : Int)) = true := decide_eq_true c44
                            clear c44
                            by_cases c45 : 0 ≤ x69_3
                            · rw [if_pos c45] at H
                              have c45b0 : decide (0 ≤ x69_3) = true := decide_eq_true c45
                              clear c45
                              by_cases c46 : x69_3 < (x4_1.length : Int)
                              · rw [if_pos c46] at H
                                have c46b0 : decide (x69_3 < (x4_1.length : Int)) = true := decide_eq_true c46
                                clear c46
                                replace H := Option.bind_eq_some_iff.mp H
                                obtain ⟨t153, A470, H⟩ := H
                                replace H : (if t153 ≤ 0 then (synopticlaw39_SamplingExact.l3 k3 x4_1 (wrap64 (x12_3 + 1)) x4_1 (x4_1.length : Int) x63_2 x4_1 (x4_1.length : Int) (wrap64 (x69_3 + 1)) ((rd_T31 x4_1 x63_2).f0) ((rd_T31 x4_1 x63_2).f1)) else (synopticlaw39_SamplingExact.l3 k3 x4_1 x12_3 x4_1 (x4_1.length : Int) x63_2 x4_1 (x4_1.length : Int) (wrap64 (x69_3 + 1)) ((rd_T31 x4_1 x63_2).f0) ((rd_T31 x4_1 x63_2).f1))) = some r := H
                                have A47 := Aside0.mk A470
                                clear A470
                                by_cases c48 : t153 ≤ 0
                                · rw [if_pos c48] at H
                                  have c48b0 : decide (t153 ≤ 0) = true := decide_eq_true c48
                                  clear c48
                                  have H' := Aside0.mk H
                                  clear H
                                  have p151 : 0 ≤ (x69_3 : Int) := of_decide_eq_true (by first | (with_reducible assumption) | assumption)
                                  have q151 : x69_3 < (x4_1.length : Int) := of_decide_eq_true (by first | (with_reducible assumption) | assumption)
                                  obtain ⟨ad151, e151, hx151_0, hx151_1⟩ := at_T31 (Kd.R_reads' HO_67.out).2.2 x69_3 p151 q151
                                  obtain rfl : ad149 = ad151 := (by injection e151)
                                  replace p151 := eq_true p151
                                  replace q151 := eq_true q151
                                  go_wp2_with (first | ((with_reducible refine gate_dst (N := 14) rfl ?_); refine box_event ?hg (N := 14) ?hd (cs := #[.int .i64 0, .int .i64 0]) (t := 31) ?hr ?_; (case hd => rfl); (case hg => rfl); (case hr => first | (go_simp; done) | (go_simp; rfl)); intro gb152 hg w49 hbox hb; have n0_ := Aside0.mk (Kd.R_below (Kd.R_elderB (by (with_reducible repeat (first | apply Kd.R_alloc | apply Kd.R_drewN | apply Kd.R_drew)); exact HO_4.out) gb152 (Nat.le_of_eq hg.symm)) hb); have n1_ := Aside0.mk (Kd.R_below (Kd.R_elderB (by (with_reducible repeat (first | apply Kd.R_alloc | apply Kd.R_drewN | apply Kd.R_drew)); exact HO_61.out) gb152 (Nat.le_of_eq hg.symm)) hb); have n2_ := Aside0.mk (Kd.R_below (Kd.R_elderB (by (with_reducible repeat (first | apply Kd.R_alloc | apply Kd.R_drewN | apply Kd.R_drew)); exact HO_67.out) gb152 (Nat.le_of_eq hg.symm)) hb); have n3_ := Aside0.mk (blk_below (g := gb150) (o := .cells #[.int .i64 ((rd_T31 x4_1 x63_2).f0), .int .i64 ((rd_T31 x4_1 x63_2).f1)] 31 (0, 0)) (by (with_reducible repeat (first | refine blk_drewN ?_ _ | refine blk_drew ?_ | refine blk_alloc ?_ _)); exact BK150.out) hb); have n4_ := Aside0.mk (below_step (by repeat (first | (with_reducible first | exact HB.out | apply below_alloc | apply pw_below_drewN | apply below_drew1 | refine below_set ?_ GE150.out) | exact HB.out)) hb); have n5_ := Aside0.mk (hbox); have n6_ := Aside0.mk ((by rw [hg]; exact (below_size (by repeat (first | (with_reducible first | exact HB.out | apply below_alloc | apply pw_below_drewN | apply below_drew1 | refine below_set ?_ GE150.out) | exact HB.out))) : w.heap.size ≤ gb152)); have n7_ := Aside0.mk ((by rw [hg]; exact (below_size (by repeat (first | (with_reducible first | exact HB.out | apply below_alloc | apply pw_below_drewN | apply below_drew1 | refine below_set ?_ GE150.out) | exact HB.out))) : w.heap.size ≤ gb152)); have n8_ := Aside0.mk ((by rw [hg]; exact Nat.ne_of_lt (blk_lt (g := gb150) (o := .cells #[.int .i64 ((rd_T31 x4_1 x63_2).f0), .int .i64 ((rd_T31 x4_1 x63_2).f1)] 31 (0, 0)) (by (with_reducible repeat (first | refine blk_drewN ?_ _ | refine blk_drew ?_ | refine blk_alloc ?_ _)); exact BK150.out)) : gb150 ≠ gb152)); have n9_ := Aside0.mk ((by rw [hg]; exact Nat.ne_of_gt (blk_lt (g := gb150) (o := .cells #[.int .i64 ((rd_T31 x4_1 x63_2).f0), .int .i64 ((rd_T31 x4_1 x63_2).f1)] 31 (0, 0)) (by (with_reducible repeat (first | refine blk_drewN ?_ _ | refine blk_drew ?_ | refine blk_alloc ?_ _)); exact BK150.out)) : gb152 ≠ gb150)); clear HO_4; clear HO_61; clear HO_67; clear BK150; clear HB; have HO_4 := n0_; have HO_61 := n1_; have HO_67 := n2_; have BK150 := n3_; have HB := n4_; have BK152 := n5_; have GW152 := n6_; have GE152 := n7_; have NB150_152 := n8_; have NB152_150 := n9_; clear n0_ n1_ n2_ n3_ n4_ n5_ n6_ n7_ n8_ n9_; clear hb hbox hg; have hnb50 := NB152_150.out; have hnc50 := NB150_152.out; have hcz51_0 : w49.cell? ⟨gb152, 0, none⟩ = some (.int .i64 0) := (blk_cell BK152.out 0).trans rfl; have hcz51_1 : w49.cell? ⟨gb152, 1, none⟩ = some (.int .i64 0) := (blk_cell BK152.out 1).trans rfl; have hfz51_0 := blk_frozen BK152.out 0; have hfz51_1 := blk_frozen BK152.out 1) | ((with_reducible refine gate_store (t := 31) (p := 14) rfl ?_); refine store_event (t := 31) (p := 14) (v := ?vo_w52) (w1 := ((w49.setCell ⟨gb152, 0, none⟩ (.int .i64 ((rd_T31 x4_1 x69_3).f0))).setCell ⟨gb152, 1, none⟩ (.int .i64 ((rd_T31 x4_1 x69_3).f1)))) ?hg ?ho ?hn ?hr ?_; (case ho => rfl); (case hg => rfl); (case hn => rfl); (case hr => first | (go_simp; done) | (go_simp; rfl)); intro w52 hw; have n0_ : Aside0 (Kd.R k31 31 w52 w.heap.size (fun k_ => k_ ≠ gb150 ∧ k_ ≠ gb152) (.slice (some ad149) x4_1.length co37) x4_1) := ⟨(by rw [hw]; exact (by (with_reducible repeat (first | apply Kd.R_alloc | apply Kd.R_drewN | apply Kd.R_drew)); exact Kd.R_mono (Kd.R_far (p := ⟨gb152, 1, none⟩) (Kd.R_far (p := ⟨gb152, 0, none⟩) (Kd.R_mono HO_4.out (fun k_ hk => (⟨hk, hk.2⟩ : _ ∧ k_ ≠ gb152))) (fun _ hk => hk.2) (.int .i64 ((rd_T31 x4_1 x69_3).f0))) (fun _ hk => hk.2) (.int .i64 ((rd_T31 x4_1 x69_3).f1))) (fun _ hk => ⟨hk.1.1, hk.1.2⟩)))⟩; have n1_ : Aside0 (Kd.R k31 31 w52 w.heap.size (fun k_ => k_ ≠ gb150 ∧ k_ ≠ gb152) (.slice (some ad149) x4_1.length co37) x4_1) := ⟨(by rw [hw]; exact (by (with_reducible repeat (first | apply Kd.R_alloc | apply Kd.R_drewN | apply Kd.R_drew)); exact Kd.R_mono (Kd.R_far (p := ⟨gb152, 1, none⟩) (Kd.R_far (p := ⟨gb152, 0, none⟩) (Kd.R_mono HO_61.out (fun k_ hk => (⟨hk, hk.2⟩ : _ ∧ k_ ≠ gb152))) (fun _ hk => hk.2) (.int .i64 ((rd_T31 x4_1 x69_3).f0))) (fun _ hk => hk.2) (.int .i64 ((rd_T31 x4_1 x69_3).f1))) (fun _ hk => ⟨hk.1.1, hk.1.2⟩)))⟩; have n2_ : Aside0 (Kd.R k31 31 w52 w.heap.size (fun k_ => k_ ≠ gb150 ∧ k_ ≠ gb152) (.slice (some ad149) x4_1.length co37) x4_1) := ⟨(by rw [hw]; exact (by (with_reducible repeat (first | apply Kd.R_alloc | apply Kd.R_drewN | apply Kd.R_drew)); exact Kd.R_mono (Kd.R_far (p := ⟨gb152, 1, none⟩) (Kd.R_far (p := ⟨gb152, 0, none⟩) (Kd.R_mono HO_67.out (fun k_ hk => (⟨hk, hk.2⟩ : _ ∧ k_ ≠ gb152))) (fun _ hk => hk.2) (.int .i64 ((rd_T31 x4_1 x69_3).f0))) (fun _ hk => hk.2) (.int .i64 ((rd_T31 x4_1 x69_3).f1))) (fun _ hk => ⟨hk.1.1, hk.1.2⟩)))⟩; have n3_ : Aside0 (w52.heap[gb150]? = some (.cells #[.int .i64 ((rd_T31 x4_1 x63_2).f0), .int .i64 ((rd_T31 x4_1 x63_2).f1)] 31 (0, 0))) := ⟨(by rw [hw]; exact (by (with_reducible repeat (first | refine blk_drewN ?_ _ | refine blk_drew ?_ | refine blk_alloc ?_ _)); refine blk_far ?_ NB150_152.out _; (with_reducible repeat (first | refine blk_drewN ?_ _ | refine blk_drew ?_ | refine blk_alloc ?_ _)); refine blk_far ?_ NB150_152.out _; (with_reducible repeat (first | refine blk_drewN ?_ _ | refine blk_drew ?_ | refine blk_alloc ?_ _)); exact BK150.out))⟩; have n4_ : Aside0 (w52.heap[gb152]? = some (.cells #[.int .i64 ((rd_T31 x4_1 x69_3).f0), .int .i64 ((rd_T31 x4_1 x69_3).f1)] 31 (0, 0))) := ⟨(by rw [hw]; exact (by (with_reducible repeat (first | refine blk_drewN ?_ _ | refine blk_drew ?_ | refine blk_alloc ?_ _)); refine blk_put (cs := #[.int .i64 ((rd_T31 x4_1 x69_3).f0), .int .i64 0]) ?_ 1 _ rfl; (with_reducible repeat (first | refine blk_drewN ?_ _ | refine blk_drew ?_ | refine blk_alloc ?_ _)); refine blk_put (cs := #[.int .i64 0, .int .i64 0]) ?_ 0 _ rfl; (with_reducible repeat (first | refine blk_drewN ?_ _ | refine blk_drew ?_ | refine blk_alloc ?_ _)); exact BK152.out))⟩; have n5_ : Aside0 (Below w.heap.size w w52) := ⟨(by rw [hw]; exact (by repeat (first | (with_reducible first | exact HB.out | apply below_alloc | apply pw_below_drewN | apply below_drew1 | refine below_set ?_ GE150.out | refine below_set ?_ GE152.out) | exact HB.out)))⟩; clear hw; clear HO_4; clear HO_61; clear HO_67; clear BK150; clear BK152; clear HB; have HO_4 := n0_; have HO_61 := n1_; have HO_67 := n2_; have BK150 := n3_; have BK152 := n4_; have HB := n5_; clear n0_ n1_ n2_ n3_ n4_ n5_; have hcz53_0 : w52.cell? ⟨gb152, 0, none⟩ = some (.int .i64 ((rd_T31 x4_1 x69_3).f0)) := (blk_cell BK152.out 0).trans rfl; have hcz53_1 : w52.cell? ⟨gb152, 1, none⟩ = some (.int .i64 ((rd_T31 x4_1 x69_3).f1)) := (blk_cell BK152.out 1).trans rfl; have hfz53_0 := blk_frozen BK152.out 0; have hfz53_1 := blk_frozen BK152.out 1; have hcz54_0 : w52.cell? ⟨gb150, 0, none⟩ = some (.int .i64 ((rd_T31 x4_1 x63_2).f0)) := (blk_cell BK150.out 0).trans rfl; have hcz54_1 : w52.cell? ⟨gb150, 1, none⟩ = some (.int .i64 ((rd_T31 x4_1 x63_2).f1)) := (blk_cell BK150.out 1).trans rfl; have hfz54_0 := blk_frozen BK150.out 0; have hfz54_1 := blk_frozen BK150.out 1) | ((with_reducible refine gate_callee (f := 13) rfl ?_); refine goesL_ (some 75) rfl rfl Try.func13 (by kernel_rfl) rfl #[.agg #[.int .i64 ((rd_T31 x4_1 x69_3).f0), .int .i64 ((rd_T31 x4_1 x69_3).f1)], .agg #[.int .i64 ((rd_T31 x4_1 x63_2).f0), .int .i64 ((rd_T31 x4_1 x63_2).f1)]] rfl (by (try simp only [List.map_toArray, List.map_cons, List.map_nil]); first | done | rfl | (simp only [List.length_drop, List.length_take]; rfl)) ?_; (with_reducible refine (score_Compare.calls ((rd_T31 x4_1 x69_3).f0) ((rd_T31 x4_1 x69_3).f1) ((rd_T31 x4_1 x63_2).f0) ((rd_T31 x4_1 x63_2).f1) t153 _ A47.out).mono ?_); rintro e w55 ⟨rfl, hb⟩; refine ⟨_, rfl, ?_⟩; have n0_ := Aside0.mk (Kd.R_below (by (with_reducible repeat (first | apply Kd.R_alloc | apply Kd.R_drewN | apply Kd.R_drew)); exact HO_4.out) hb); have n1_ := Aside0.mk (Kd.R_below (by (with_reducible repeat (first | apply Kd.R_alloc | apply Kd.R_drewN | apply Kd.R_drew)); exact HO_61.out) hb); have n2_ := Aside0.mk (Kd.R_below (by (with_reducible repeat (first | apply Kd.R_alloc | apply Kd.R_drewN | apply Kd.R_drew)); exact HO_67.out) hb); have n3_ := Aside0.mk (blk_below (g := gb150) (o := .cells #[.int .i64 ((rd_T31 x4_1 x63_2).f0), .int .i64 ((rd_T31 x4_1 x63_2).f1)] 31 (0, 0)) (by (with_reducible repeat (first | refine blk_drewN ?_ _ | refine blk_drew ?_ | refine blk_alloc ?_ _)); exact BK150.out) hb); have n4_ := Aside0.mk (blk_below (g := gb152) (o := .cells #[.int .i64 ((rd_T31 x4_1 x69_3).f0), .int .i64 ((rd_T31 x4_1 x69_3).f1)] 31 (0, 0)) (by (with_reducible repeat (first | refine blk_drewN ?_ _ | refine blk_drew ?_ | refine blk_alloc ?_ _)); exact BK152.out) hb); have n5_ := Aside0.mk (below_step (by repeat (first | (with_reducible first | exact HB.out | apply below_alloc | apply pw_below_drewN | apply below_drew1 | refine below_set ?_ GE150.out | refine below_set ?_ GE152.out) | exact HB.out)) hb); clear HO_4; clear HO_61; clear HO_67; clear BK150; clear BK152; clear HB; have HO_4 := n0_; have HO_61 := n1_; have HO_67 := n2_; have BK150 := n3_; have BK152 := n4_; have HB := n5_; clear n0_ n1_ n2_ n3_ n4_ n5_; (try clear hb); (try clear hb2); (try clear hk); (try clear hi)))
                                  go_roundg k3
                                  case measure => have := HK1.out; have := HK2.out; have := HK3.out; omega
                                  case rel => exact ⟨(wrap64 (x12_3 + 1)), (wrap64 (x69_3 + 1)), (by first | rfl | (simp; done) | (simp [*]; done)), (by first | rfl | (simp; done) | (simp [*]; done)), H', ⟨by have := HK1.out; have := HK2.out; have := HK3.out; omega⟩, ⟨by (with_reducible repeat (first | apply Kd.R_alloc | apply Kd.R_drewN | apply Kd.R_drew)); exact Kd.R_mono HO_4.out (fun _ hk => hk.1)⟩, ⟨by (with_reducible repeat (first | apply Kd.R_alloc | apply Kd.R_drewN | apply Kd.R_drew)); exact Kd.R_mono HO_61.out (fun _ hk => hk.1)⟩, ⟨by (with_reducible repeat (first | apply Kd.R_alloc | apply Kd.R_drewN | apply Kd.R_drew)); exact Kd.R_mono HO_67.out (fun _ hk => hk.1)⟩, ⟨by (with_reducible repeat (first | refine blk_drewN ?_ _ | refine blk_drew ?_ | refine blk_alloc ?_ _)); exact BK150.out⟩, ⟨by repeat (first | (with_reducible first | exact HB.out | apply below_alloc | apply pw_below_drewN | apply below_drew1 | refine below_set ?_ GE150.out | refine below_set ?_ GE152.out) | exact HB.out)⟩⟩
                                · rw [if_neg c48] at H
                                  have c48b0 : decide (t153 ≤ 0) = false := decide_eq_false c48
                                  clear c48
                                  have H' := Aside0.mk H
                                  clear H
                                  have p151 : 0 ≤ (x69_3 : Int) := of_decide_eq_true (by first | (with_reducible assumption) | assumption)
                                  have q151 : x69_3 < (x4_1.length : Int) := of_decide_eq_true (by first | (with_reducible assumption) | assumption)
                                  obtain ⟨ad151, e151, hx151_0, hx151_1⟩ := at_T31 (Kd.R_reads' HO_67.out).2.2 x69_3 p151 q151
                                  obtain rfl : ad149 = ad151 := (by injection e151)
                                  replace p151 := eq_true p151
                                  replace q151 := eq_true q151
                                  go_wp2_with (first | ((with_reducible refine gate_dst (N := 14) rfl ?_); refine box_event ?hg (N := 14) ?hd (cs := #[.int .i64 0, .int .i64 0]) (t := 31) ?hr ?_; (case hd => rfl); (case hg => rfl); (case hr => first | (go_simp; done) | (go_simp; rfl)); intro gb152 hg w56 hbox hb; have n0_ := Aside0.mk (Kd.R_below (Kd.R_elderB (by (with_reducible repeat (first | apply Kd.R_alloc | apply Kd.R_drewN | apply Kd.R_drew)); exact HO_4.out) gb152 (Nat.le_of_eq hg.symm)) hb); have n1_ := Aside0.mk (Kd.R_below (Kd.R_elderB (by (with_reducible repeat (first | apply Kd.R_alloc | apply Kd.R_drewN | apply Kd.R_drew)); exact HO_61.out) gb152 (Nat.le_of_eq hg.symm)) hb); have n2_ := Aside0.mk (Kd.R_below (Kd.R_elderB (by (with_reducible repeat (first | apply Kd.R_alloc | apply Kd.R_drewN | apply Kd.R_drew)); exact HO_67.out) gb152 (Nat.le_of_eq hg.symm)) hb); have n3_ := Aside0.mk (blk_below (g := gb150) (o := .cells #[.int .i64 ((rd_T31 x4_1 x63_2).f0), .int .i64 ((rd_T31 x4_1 x63_2).f1)] 31 (0, 0)) (by (with_reducible repeat (first | refine blk_drewN ?_ _ | refine blk_drew ?_ | refine blk_alloc ?_ _)); exact BK150.out) hb); have n4_ := Aside0.mk (below_step (by repeat (first | (with_reducible first | exact HB.out | apply below_alloc | apply pw_below_drewN | apply below_drew1 | refine below_set ?_ GE150.out) | exact HB.out)) hb); have n5_ := Aside0.mk (hbox); have n6_ := Aside0.mk ((by rw [hg]; exact (below_size (by repeat (first | (with_reducible first | exact HB.out | apply below_alloc | apply pw_below_drewN | apply below_drew1 | refine below_set ?_ GE150.out) | exact HB.out))) : w.heap.size ≤ gb152)); have n7_ := Aside0.mk ((by rw [hg]; exact (below_size (by repeat (first | (with_reducible first | exact HB.out | apply below_alloc | apply pw_below_drewN | apply below_drew1 | refine below_set ?_ GE150.out) | exact HB.out))) : w.heap.size ≤ gb152)); have n8_ := Aside0.mk ((by rw [hg]; exact Nat.ne_of_lt (blk_lt (g := gb150) (o := .cells #[.int .i64 ((rd_T31 x4_1 x63_2).f0), .int .i64 ((rd_T31 x4_1 x63_2).f1)] 31 (0, 0)) (by (with_reducible repeat (first | refine blk_drewN ?_ _ | refine blk_drew ?_ | refine blk_alloc ?_ _)); exact BK150.out)) : gb150 ≠ gb152)); have n9_ := Aside0.mk ((by rw [hg]; exact Nat.ne_of_gt (blk_lt (g := gb150) (o := .cells #[.int .i64 ((rd_T31 x4_1 x63_2).f0), .int .i64 ((rd_T31 x4_1 x63_2).f1)] 31 (0, 0)) (by (with_reducible repeat (first | refine blk_drewN ?_ _ | refine blk_drew ?_ | refine blk_alloc ?_ _)); exact BK150.out)) : gb152 ≠ gb150)); clear HO_4; clear HO_61; clear HO_67; clear BK150; clear HB; have HO_4 := n0_; have HO_61 := n1_; have HO_67 := n2_; have BK150 := n3_; have HB := n4_; have BK152 := n5_; have GW152 := n6_; have GE152 := n7_; have NB150_152 := n8_; have NB152_150 := n9_; clear n0_ n1_ n2_ n3_ n4_ n5_ n6_ n7_ n8_ n9_; clear hb hbox hg; have hnb57 := NB152_150.out; have hnc57 := NB150_152.out; have hcz58_0 : w56.cell? ⟨gb152, 0, none⟩ = some (.int .i64 0) := (blk_cell BK152.out 0).trans rfl; have hcz58_1 : w56.cell? ⟨gb152, 1, none⟩ = some (.int .i64 0) := (blk_cell BK152.out 1).trans rfl; have hfz58_0 := blk_frozen BK152.out 0; have hfz58_1 := blk_frozen BK152.out 1) | ((with_reducible refine gate_store (t := 31) (p := 14) rfl ?_); refine store_event (t := 31) (p := 14) (v := ?vo_w59) (w1 := ((w56.setCell ⟨gb152, 0, none⟩ (.int .i64 ((rd_T31 x4_1 x69_3).f0))).setCell ⟨gb152, 1, none⟩ (.int .i64 ((rd_T31 x4_1 x69_3).f1)))) ?hg ?ho ?hn ?hr ?_; (case ho => rfl); (case hg => rfl); (case hn => rfl); (case hr => first | (go_simp; done) | (go_simp; rfl)); intro w59 hw; have n0_ : Aside0 (Kd.R k31 31 w59 w.heap.size (fun k_ => k_ ≠ gb150 ∧ k_ ≠ gb152) (.slice (some ad149) x4_1.length co37) x4_1) := ⟨(by rw [hw]; exact (by (with_reducible repeat (first | apply Kd.R_alloc | apply Kd.R_drewN | apply Kd.R_drew)); exact Kd.R_mono (Kd.R_far (p := ⟨gb152, 1, none⟩) (Kd.R_far (p := ⟨gb152, 0, none⟩) (Kd.R_mono HO_4.out (fun k_ hk => (⟨hk, hk.2⟩ : _ ∧ k_ ≠ gb152))) (fun _ hk => hk.2) (.int .i64 ((rd_T31 x4_1 x69_3).f0))) (fun _ hk => hk.2) (.int .i64 ((rd_T31 x4_1 x69_3).f1))) (fun _ hk => ⟨hk.1.1, hk.1.2⟩)))⟩; have n1_ : Aside0 (Kd.R k31 31 w59 w.heap.size (fun k_ => k_ ≠ gb150 ∧ k_ ≠ gb152) (.slice (some ad149) x4_1.length co37) x4_1) := ⟨(by rw [hw]; exact (by (with_reducible repeat (first | apply Kd.R_alloc | apply Kd.R_drewN | apply Kd.R_drew)); exact Kd.R_mono (Kd.R_far (p := ⟨gb152, 1, none⟩) (Kd.R_far (p := ⟨gb152, 0, none⟩) (Kd.R_mono HO_61.out (fun k_ hk => (⟨hk, hk.2⟩ : _ ∧ k_ ≠ gb152))) (fun _ hk => hk.2) (.int .i64 ((rd_T31 x4_1 x69_3).f0))) (fun _ hk => hk.2) (.int .i64 ((rd_T31 x4_1 x69_3).f1))) (fun _ hk => ⟨hk.1.1, hk.1.2⟩)))⟩; have n2_ : Aside0 (Kd.R k31 31 w59 w.heap.size (fun k_ => k_ ≠ gb150 ∧ k_ ≠ gb152) (.slice (some ad149) x4_1.length co37) x4_1) := ⟨(by rw [hw]; exact (by (with_reducible repeat (first | apply Kd.R_alloc | apply Kd.R_drewN | apply Kd.R_drew)); exact Kd.R_mono (Kd.R_far (p := ⟨gb152, 1, none⟩) (Kd.R_far (p := ⟨gb152, 0, none⟩) (Kd.R_mono HO_67.out (fun k_ hk => (⟨hk, hk.2⟩ : _ ∧ k_ ≠ gb152))) (fun _ hk => hk.2) (.int .i64 ((rd_T31 x4_1 x69_3).f0))) (fun _ hk => hk.2) (.int .i64 ((rd_T31 x4_1 x69_3).f1))) (fun _ hk => ⟨hk.1.1, hk.1.2⟩)))⟩; have n3_ : Aside0 (w59.heap[gb150]? = some (.cells #[.int .i64 ((rd_T31 x4_1 x63_2).f0), .int .i64 ((rd_T31 x4_1 x63_2).f1)] 31 (0, 0))) := ⟨(by rw [hw]; exact (by (with_reducible repeat (first | refine blk_drewN ?_ _ | refine blk_drew ?_ | refine blk_alloc ?_ _)); refine blk_far ?_ NB150_152.out _; (with_reducible repeat (first | refine blk_drewN ?_ _ | refine blk_drew ?_ | refine blk_alloc ?_ _)); refine blk_far ?_ NB150_152.out _; (with_reducible repeat (first | refine blk_drewN ?_ _ | refine blk_drew ?_ | refine blk_alloc ?_ _)); exact BK150.out))⟩; have n4_ : Aside0 (w59.heap[gb152]? = some (.cells #[.int .i64 ((rd_T31 x4_1 x69_3).f0), .int .i64 ((rd_T31 x4_1 x69_3).f1)] 31 (0, 0))) := ⟨(by rw [hw]; exact (by (with_reducible repeat (first | refine blk_drewN ?_ _ | refine blk_drew ?_ | refine blk_alloc ?_ _)); refine blk_put (cs := #[.int .i64 ((rd_T31 x4_1 x69_3).f0), .int .i64 0]) ?_ 1 _ rfl; (with_reducible repeat (first | refine blk_drewN ?_ _ | refine blk_drew ?_ | refine blk_alloc ?_ _)); refine blk_put (cs := #[.int .i64 0, .int .i64 0]) ?_ 0 _ rfl; (with_reducible repeat (first | refine blk_drewN ?_ _ | refine blk_drew ?_ | refine blk_alloc ?_ _)); exact BK152.out))⟩; have n5_ : Aside0 (Below w.heap.size w w59) := ⟨(by rw [hw]; exact (by repeat (first | (with_reducible first | exact HB.out | apply below_alloc | apply pw_below_drewN | apply below_drew1 | refine below_set ?_ GE150.out | refine below_set ?_ GE152.out) | exact HB.out)))⟩; clear hw; clear HO_4; clear HO_61; clear HO_67; clear BK150; clear BK152; clear HB; have HO_4 := n0_; have HO_61 := n1_; have HO_67 := n2_; have BK150 := n3_; have BK152 := n4_; have HB := n5_; clear n0_ n1_ n2_ n3_ n4_ n5_; have hcz60_0 : w59.cell? ⟨gb152, 0, none⟩ = some (.int .i64 ((rd_T31 x4_1 x69_3).f0)) := (blk_cell BK152.out 0).trans rfl; have hcz60_1 : w59.cell? ⟨gb152, 1, none⟩ = some (.int .i64 ((rd_T31 x4_1 x69_3).f1)) := (blk_cell BK152.out 1).trans rfl; have hfz60_0 := blk_frozen BK152.out 0; have hfz60_1 := blk_frozen BK152.out 1; have hcz61_0 : w59.cell? ⟨gb150, 0, none⟩ = some (.int .i64 ((rd_T31 x4_1 x63_2).f0)) := (blk_cell BK150.out 0).trans rfl; have hcz61_1 : w59.cell? ⟨gb150, 1, none⟩ = some (.int .i64 ((rd_T31 x4_1 x63_2).f1)) := (blk_cell BK150.out 1).trans rfl; have hfz61_0 := blk_frozen BK150.out 0; have hfz61_1 := blk_frozen BK150.out 1) | ((with_reducible refine gate_callee (f := 13) rfl ?_); refine goesL_ (some 75) rfl rfl Try.func13 (by kernel_rfl) rfl #[.agg #[.int .i64 ((rd_T31 x4_1 x69_3).f0), .int .i64 ((rd_T31 x4_1 x69_3).f1)], .agg #[.int .i64 ((rd_T31 x4_1 x63_2).f0), .int .i64 ((rd_T31 x4_1 x63_2).f1)]] rfl (by (try simp only [List.map_toArray, List.map_cons, List.map_nil]); first | done | rfl | (simp only [List.length_drop, List.length_take]; rfl)) ?_; (with_reducible refine (score_Compare.calls ((rd_T31 x4_1 x69_3).f0) ((rd_T31 x4_1 x69_3).f1) ((rd_T31 x4_1 x63_2).f0) ((rd_T31 x4_1 x63_2).f1) t153 _ A47.out).mono ?_); rintro e w62 ⟨rfl, hb⟩; refine ⟨_, rfl, ?_⟩; have n0_ := Aside0.mk (Kd.R_below (by (with_reducible repeat (first | apply Kd.R_alloc | apply Kd.R_drewN | apply Kd.R_drew)); exact HO_4.out) hb); have n1_ := Aside0.mk (Kd.R_below (by (with_reducible repeat (first | apply Kd.R_alloc | apply Kd.R_drewN | apply Kd.R_drew)); exact HO_61.out) hb); have n2_ := Aside0.mk (Kd.R_below (by (with_reducible repeat (first | apply Kd.R_alloc | apply Kd.R_drewN | apply Kd.R_drew)); exact HO_67.out) hb); have n3_ := Aside0.mk (blk_below (g := gb150) (o := .cells #[.int .i64 ((rd_T31 x4_1 x63_2).f0), .int .i64 ((rd_T31 x4_1 x63_2).f1)] 31 (0, 0)) (by (with_reducible repeat (first | refine blk_drewN ?_ _ | refine blk_drew ?_ | refine blk_alloc ?_ _)); exact BK150.out) hb); have n4_ := Aside0.mk (blk_below (g := gb152) (o := .cells #[.int .i64 ((rd_T31 x4_1 x69_3).f0), .int .i64 ((rd_T31 x4_1 x69_3).f1)] 31 (0, 0)) (by (with_reducible repeat (first | refine blk_drewN ?_ _ | refine blk_drew ?_ | refine blk_alloc ?_ _)); exact BK152.out) hb); have n5_ := Aside0.mk (below_step (by repeat (first | (with_reducible first | exact HB.out | apply below_alloc | apply pw_below_drewN | apply below_drew1 | refine below_set ?_ GE150.out | refine below_set ?_ GE152.out) | exact HB.out)) hb); clear HO_4; clear HO_61; clear HO_67; clear BK150; clear BK152; clear HB; have HO_4 := n0_; have HO_61 := n1_; have HO_67 := n2_; have BK150 := n3_; have BK152 := n4_; have HB := n5_; clear n0_ n1_ n2_ n3_ n4_ n5_; (try clear hb); (try clear hb2); (try clear hk); (try clear hi)))
                                  go_roundg k3
                                  case measure => have := HK1.out; have := HK2.out; have := HK3.out; omega
                                  case rel => exact ⟨(x12_3), (wrap64 (x69_3 + 1)), (by first | rfl | (simp; done) | (simp [*]; done)), (by first | rfl | (simp; done) | (simp [*]; done)), H', ⟨by have := HK1.out; have := HK2.out; have := HK3.out; omega⟩, ⟨by (with_reducible repeat (first | apply Kd.R_alloc | apply Kd.R_drewN | apply Kd.R_drew)); exact Kd.R_mono HO_4.out (fun _ hk => hk.1)⟩, ⟨by (with_reducible repeat (first | apply Kd.R_alloc | apply Kd.R_drewN | apply Kd.R_drew)); exact Kd.R_mono HO_61.out (fun _ hk => hk.1)⟩, ⟨by (with_reducible repeat (first | apply Kd.R_alloc | apply Kd.R_drewN | apply Kd.R_drew)); exact Kd.R_mono HO_67.out (fun _ hk => hk.1)⟩, ⟨by (with_reducible repeat (first | refine blk_drewN ?_ _ | refine blk_drew ?_ | refine blk_alloc ?_ _)); exact BK150.out⟩, ⟨by repeat (first | (with_reducible first | exact HB.out | apply below_alloc | apply pw_below_drewN | apply below_drew1 | refine below_set ?_ GE150.out | refine below_set ?_ GE152.out) | exact HB.out)⟩⟩
                              · rw [if_neg c46] at H
                                exact absurd H (by simp)
                            · rw [if_neg c45] at H
                              exact absurd H (by simp)
                          · rw [if_neg c44] at H
                            have c44b0 : decide (x69_3 < (x4_1.length : Int)) = false := decide_eq_false c44
                            clear c44
                            replace H := Option.bind_eq_some_iff.mp H
                            obtain ⟨t154, A630, H⟩ := H
                            replace H : (if t154 > 0 then (none) else (synopticlaw39_SamplingExact.l2 k3 x4_1 x4_1 (x4_1.length : Int) (wrap64 (x63_2 + 1)))) = some r := H
                            have A63 := Aside0.mk A630
                            clear A630
                            by_cases c64 : t154 > 0
                            · rw [if_pos c64] at H
                              exact absurd H (by simp)
                            · rw [if_neg c64] at H
                              have c64b0 : decide (0 < t154) = false := decide_eq_false c64
                              clear c64
                              have H' := Aside0.mk H
                              clear H
                              have hcz65_0 : wr.cell? ⟨gb150, 0, none⟩ = some (.int .i64 ((rd_T31 x4_1 x63_2).f0)) := (blk_cell BK150.out 0).trans rfl
                              have hcz65_1 : wr.cell? ⟨gb150, 1, none⟩ = some (.int .i64 ((rd_T31 x4_1 x63_2).f1)) := (blk_cell BK150.out 1).trans rfl
                              have hfz65_0 := blk_frozen BK150.out 0
                              have hfz65_1 := blk_frozen BK150.out 1
                              go_wp2_with (first | ((with_reducible refine gate_callee (f := 13) rfl ?_); refine goesL_ (some 85) rfl rfl Try.func13 (by kernel_rfl) rfl #[.agg #[.int .i64 x12_3, .int .i64 (x4_1.length : Int)], .agg #[.int .i64 ((rd_T31 x4_1 x63_2).f0), .int .i64 ((rd_T31 x4_1 x63_2).f1)]] rfl (by (try simp only [List.map_toArray, List.map_cons, List.map_nil]); first | done | rfl | (simp only [List.length_drop, List.length_take]; rfl)) ?_; (with_reducible refine (score_Compare.calls x12_3 (x4_1.length : Int) ((rd_T31 x4_1 x63_2).f0) ((rd_T31 x4_1 x63_2).f1) t154 _ A63.out).mono ?_); rintro e w66 ⟨rfl, hb⟩; refine ⟨_, rfl, ?_⟩; have n0_ := Aside0.mk (Kd.R_below (by (with_reducible repeat (first | apply Kd.R_alloc | apply Kd.R_drewN | apply Kd.R_drew)); exact HO_4.out) hb); have n1_ := Aside0.mk (Kd.R_below (by (with_reducible repeat (first | apply Kd.R_alloc | apply Kd.R_drewN | apply Kd.R_drew)); exact HO_61.out) hb); have n2_ := Aside0.mk (Kd.R_below (by (with_reducible repeat (first | apply Kd.R_alloc | apply Kd.R_drewN | apply Kd.R_drew)); exact HO_67.out) hb); have n3_ := Aside0.mk (blk_below (g := gb150) (o := .cells #[.int .i64 ((rd_T31 x4_1 x63_2).f0), .int .i64 ((rd_T31 x4_1 x63_2).f1)] 31 (0, 0)) (by (with_reducible repeat (first | refine blk_drewN ?_ _ | refine blk_drew ?_ | refine blk_alloc ?_ _)); exact BK150.out) hb); have n4_ := Aside0.mk (below_step (by repeat (first | (with_reducible first | exact HB.out | apply below_alloc | apply pw_below_drewN | apply below_drew1 | refine below_set ?_ GE150.out) | exact HB.out)) hb); clear HO_4; clear HO_61; clear HO_67; clear BK150; clear HB; have HO_4 := n0_; have HO_61 := n1_; have HO_67 := n2_; have BK150 := n3_; have HB := n4_; clear n0_ n1_ n2_ n3_ n4_; (try clear hb); (try clear hb2); (try clear hk); (try clear hi)))
                              go_roundg k3
                              case measure => have := HK1.out; have := HK2.out; have := HK3.out; omega
                              case rel => exact ⟨(wrap64 (x63_2 + 1)), (by first | rfl | (simp; done) | (simp [*]; done)), H', ⟨by have := HK1.out; have := HK2.out; have := HK3.out; omega⟩, ⟨by (with_reducible repeat (first | apply Kd.R_alloc | apply Kd.R_drewN | apply Kd.R_drew)); exact Kd.R_mono HO_4.out (fun _ hk => trivial)⟩, ⟨by (with_reducible repeat (first | apply Kd.R_alloc | apply Kd.R_drewN | apply Kd.R_drew)); exact Kd.R_mono HO_61.out (fun _ hk => trivial)⟩, ⟨by repeat (first | (with_reducible first | exact HB.out | apply below_alloc | apply pw_below_drewN | apply below_drew1 | refine below_set ?_ GE150.out) | exact HB.out)⟩⟩
                    · rw [if_neg c40] at H
                      exact absurd H (by simp)
                  · rw [if_neg c39] at H
                    exact absurd H (by simp)
                · rw [if_neg c38] at H
                  have c38b0 : decide (x63_2 < (x4_1.length : Int)) = false := decide_eq_false c38
                  clear c38
                  obtain rfl := Option.some.inj H
                  go_wp2
                  go_ret
                  exact ⟨by first | rfl | (simp [errW_none, errW_some] <;> rfl) | (simp only [← hji9, ← hji11]; first | rfl | (simp [errW_none, errW_some] <;> rfl)) | (simp [*, errW_none, errW_some] <;> rfl), by repeat (first | (with_reducible first | exact HB.out | apply below_alloc | apply pw_below_drewN | apply below_drew1) | exact HB.out)⟩
        · rw [if_neg c10] at H
          exact absurd H (by simp)
  · replace c3 := Bool.eq_false_iff.mpr c3
    subst c3
    have H1 : (none) = some r := by rw [if_neg (show ¬ (false = true) by decide)] at H; exact H
    clear H
    have H := H1
    clear H1
    exact absurd H (by simp)

/-- THE ONE PURE STATEMENT of synopticlaw39_SamplingExact: yours. -/
def synopticlaw39_SamplingExact.Pure : Prop := ∀ (l0 : List Int), l0.length ≤ maxLen → l0.length * 1 ≤ 140737488351232 → (∀ x ∈ l0, (Lit.int .u8 x).wf = true) → ∃ k, synopticlaw39_SamplingExact.f k l0 = some true
theorem synopticlaw39_SamplingExact.walk (P : synopticlaw39_SamplingExact.Pure) (a0 : Option Addr) (len0 cap0 : Nat) (z0 : List Int) (w : World) (w0 : (a0 = none ∧ len0 = 0 ∧ cap0 = 0 ∧ z0 = []) ∨ ∃ x, a0 = some x ∧ len0 ≤ cap0 ∧ cap0 ≤ maxLen ∧ z0.length = cap0 ∧ (∀ i, i < z0.length → w.cell? (x.add i) = some (.int .u8 (z0.getD i 0))) ∧ ∀ n ∈ z0, (Lit.int .u8 n).wf = true) (y0 : len0 * 1 ≤ 140737488351232) :
    Calls Try.prog 3 #[.slice a0 len0 cap0] w fun e w' => e = .returned (.bool true) ∧ Below w.heap.size w w' := by
  obtain ⟨l0, rfl, hr0, hm0, hw0, hc0⟩ := ReadsInt.ofRowC w0
  obtain ⟨k, h⟩ := P l0 hm0 y0 hw0
  refine (synopticlaw39_SamplingExact.calls k _ _ l0 true w (Kd.C_of_reads (d := (0 : Int)) (h1 := fun _ => rfl) hr0) hc0 h).mono ?_
  rintro e w' ⟨rfl, hd⟩
  exact ⟨rfl, hd⟩

end Go.Proofs.Ytcgjgpdandjicaa.B
