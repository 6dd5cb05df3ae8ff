/- Made by our program mkbase.py out of the printed functions of this seat: BS. -/
import Derived.Test.YtcgjgpdandjicaaB1
import Derived.Test.YtcgjgpdandjicaaBP
import Derived.Test.YtcgjgpdandjicaaBX
import Derived.Test.YtcgjgpdandjicaaNegv
import Derived.Test.YtcgjgpdandjicaaBZ
import Derived.Test.YtcgjgpdandjicaaBV
import Derived.Test.YtcgjgpdandjicaaKeep
namespace Go.Proofs.Ytcgjgpdandjicaa.B
open Go.RowKit Go.Proofs.YtcgjgpdandjicaaW.PrintWords Go.Proofs.YtcgjgpdandjicaaW.PrintLast Go.Proofs.YtcgjgpdandjicaaW.PrintMore
attribute [local go_sem] max2_int min2_int max_two min_two max_three min_three max_four min_four   -- for this text's walks alone
set_option linter.unusedVariables false
set_option linter.unusedSimpArgs false

attribute [local go_sem high] eqA31 eqA90
/-! ### synopticref22_Compare: function 65 -/
def synopticref22_Compare.j0 : Nat → Bool → Int → Int → Int → Int → Option (Int)
  | 0, _, _, _, _, _ => none
  | k + 1, x5, x198000, x198001, x199000, x199001 => if x5 = true then (some (-1)) else (if (x198000 == x199000 && (x198001 == x199001)) = true then (some 0) else (some 1))
def synopticref22_Compare.f (k : Nat) (a0_0 : Int) (a0_1 : Int) (a1_0 : Int) (a1_1 : Int) : Option (Int) := if a0_0 < a1_0 then (synopticref22_Compare.j0 k true a0_0 a0_1 a1_0 a1_1) else (if a0_0 = a1_0 then (synopticref22_Compare.j0 k (decide (a0_1 < a1_1)) a0_0 a0_1 a1_0 a1_1) else (synopticref22_Compare.j0 k false a0_0 a0_1 a1_0 a1_1))
theorem synopticref22_Compare.mono_l : ∀ k, (∀ y0 y1 y2 y3 y4, LeO (synopticref22_Compare.j0 k y0 y1 y2 y3 y4) (synopticref22_Compare.j0 (k + 1) y0 y1 y2 y3 y4))
  | 0 => fun _ _ _ _ _ r h => by simp [synopticref22_Compare.j0] at h
  | k + 1 => by
    have ih0 := synopticref22_Compare.mono_l k
    · intro y0 y1 y2 y3 y4
      unfold synopticref22_Compare.j0
      repeat' first
      | (with_reducible exact ih0 _ _ _ _ _)
      | (with_reducible exact LeO.refl _)
      | (with_reducible exact LeO.none _)
      | (with_reducible refine LeO.ite ?_ ?_)
      | (with_reducible refine LeO.bind ?_ (fun _ => ?_))
      | exact ih0 _ _ _ _ _
      | exact LeO.none _
      | refine LeO.ite ?_ ?_
      | refine LeO.bind ?_ (fun _ => ?_)
theorem synopticref22_Compare.mono : ∀ a0 a1 a2 a3 k, LeO (synopticref22_Compare.f k a0 a1 a2 a3) (synopticref22_Compare.f (k + 1) a0 a1 a2 a3) := by
  intro a0 a1 a2 a3 k
  have ih0 := synopticref22_Compare.mono_l k
  unfold synopticref22_Compare.f
  repeat' first
      | (with_reducible exact ih0 _ _ _ _ _)
      | (with_reducible exact LeO.refl _)
      | (with_reducible exact LeO.none _)
      | (with_reducible refine LeO.ite ?_ ?_)
      | (with_reducible refine LeO.bind ?_ (fun _ => ?_))
      | exact ih0 _ _ _ _ _
      | exact LeO.none _
      | refine LeO.ite ?_ ?_
      | refine LeO.bind ?_ (fun _ => ?_)
set_option maxHeartbeats 8000000 in
set_option maxRecDepth 100000 in
theorem synopticref22_Compare.calls (k : Nat) (a0_0 : Int) (a0_1 : Int) (a1_0 : Int) (a1_1 : Int) (r : Int) (w : World) (h : synopticref22_Compare.f k a0_0 a0_1 a1_0 a1_1 = some r) :
    Calls Try.prog 65 #[.agg #[.int .i64 a0_0, .int .u64 a0_1], .agg #[.int .i64 a1_0, .int .u64 a1_1]] w fun e w' => e = .returned (.int .i64 r) ∧ Below w.heap.size w w' := by
  have hu90 := Try.underlying90
  have HB := Aside0.mk (Below.refl w.heap.size w)
  have H : (if a0_0 < a1_0 then (synopticref22_Compare.j0 k true a0_0 a0_1 a1_0 a1_1) else (if a0_0 = a1_0 then (synopticref22_Compare.j0 k (decide (a0_1 < a1_1)) a0_0 a0_1 a1_0 a1_1) else (synopticref22_Compare.j0 k false a0_0 a0_1 a1_0 a1_1))) = some r := h
  clear h
  have HC3 := Aside0.mk H
  clear H
  go_enter Try.func65, Try.ntmps65
  go_upto_region 1 with (first | ((with_reducible refine gate_dst (N := 2) rfl ?_); refine box_event ?hg (N := 2) ?hd (cs := #[.int .i64 a0_0, .int .u64 a0_1]) (t := 90) ?hr ?_; (case hd => rfl); (case hg => rfl); (case hr => first | (go_simp; done) | (go_simp; rfl)); intro gb197 hg w4 hbox hb; have BK197 := Aside0.mk (hbox); have GW197 := kG HB hg; have GE197 := kG HB hg; replace HB := kH HB hb; clear hb hbox hg) | ((with_reducible refine gate_dst (N := 3) rfl ?_); refine box_event ?hg (N := 3) ?hd (cs := #[.int .i64 a1_0, .int .u64 a1_1]) (t := 90) ?hr ?_; (case hd => rfl); (case hg => rfl); (case hr => first | (go_simp; done) | (go_simp; rfl)); intro gb198 hg w5 hbox hb; have BK198 := Aside0.mk (hbox); have GW198 := kG HB hg; have GE198 := kG HB hg; have NB197_198 := kN BK197 hg; have NB198_197 := kM BK197 hg; replace BK197 := kB BK197 hb; replace HB := kH HB hb; clear hb hbox hg))
  (try simp only [Act.put, List.setIfInBounds_toArray, List.set_cons_zero, List.set_cons_succ])
  go_cut [5] (fun v5 wc => ∃ (kq : Nat) (x5_2 : Bool), v5 = .bool x5_2 ∧ Aside0 (synopticref22_Compare.j0 kq x5_2 a0_0 a0_1 a1_0 a1_1 = some r) ∧ Aside0 (kq ≤ k) ∧ Aside0 (wc.heap[gb197]? = some (.cells #[.int .i64 a0_0, .int .u64 a0_1] 90 (0, 0))) ∧ Aside0 (wc.heap[gb198]? = some (.cells #[.int .i64 a1_0, .int .u64 a1_1] 90 (0, 0))) ∧ Aside0 (Below w.heap.size w wc))
  case first =>
    have H := HC3.out
    clear HC3
    by_cases c6 : a0_0 < a1_0
    · rw [if_pos c6] at H
      have c6b0 : decide (a0_0 < a1_0) = true := decide_eq_true c6
      clear c6
      (first | rw [c6b0] | (simp only [i64_w, i32_w]; rw [c6b0]) | skip)
      have H' := Aside0.mk H
      clear H
      have hnb7 := NB197_198.out
      have hnc7 := NB198_197.out
      have hcz8_0 : w5.cell? ⟨gb197, 0, none⟩ = some (.int .i64 a0_0) := (blk_cell BK197.out 0).trans rfl
      have hcz8_1 : w5.cell? ⟨gb197, 1, none⟩ = some (.int .u64 a0_1) := (blk_cell BK197.out 1).trans rfl
      have hfz8_0 := blk_frozen BK197.out 0
      have hfz8_1 := blk_frozen BK197.out 1
      have hcz9_0 : w5.cell? ⟨gb198, 0, none⟩ = some (.int .i64 a1_0) := (blk_cell BK198.out 0).trans rfl
      have hcz9_1 : w5.cell? ⟨gb198, 1, none⟩ = some (.int .u64 a1_1) := (blk_cell BK198.out 1).trans rfl
      have hfz9_0 := blk_frozen BK198.out 0
      have hfz9_1 := blk_frozen BK198.out 1
      go_wp2
      go_meet
      case rel => exact ⟨_, (true), (by first | rfl | (simp; done) | (simp [*]; done)), H', ⟨by first | omega | exact Nat.le_refl _⟩, ⟨by (with_reducible repeat (first | refine blk_drewN ?_ _ | refine blk_drew ?_ | refine blk_alloc ?_ _)); exact BK197.out⟩, ⟨by (with_reducible repeat (first | refine blk_drewN ?_ _ | refine blk_drew ?_ | refine blk_alloc ?_ _)); exact BK198.out⟩, ⟨by repeat (first | (with_reducible first | exact HB.out | apply below_alloc | apply pw_below_drewN | apply below_drew1 | refine below_set ?_ GE197.out | refine below_set ?_ GE198.out) | exact HB.out)⟩⟩
    · rw [if_neg c6] at H
      have c6b0 : decide (a0_0 < a1_0) = false := decide_eq_false c6
      clear c6
      (first | rw [c6b0] | (simp only [i64_w, i32_w]; rw [c6b0]) | skip)
      by_cases c10 : a0_0 = a1_0
      · rw [if_pos c10] at H
        have c10b0 : (a0_0 == a1_0) = true := beq_iff_eq.mpr c10
        have c10b1 : (a0_0 != a1_0) = false := bne_eq_false_iff_eq.mpr c10
        clear c10
        have H' := Aside0.mk H
        clear H
        have hnb11 := NB197_198.out
        have hnc11 := NB198_197.out
        have hcz12_0 : w5.cell? ⟨gb197, 0, none⟩ = some (.int .i64 a0_0) := (blk_cell BK197.out 0).trans rfl
        have hcz12_1 : w5.cell? ⟨gb197, 1, none⟩ = some (.int .u64 a0_1) := (blk_cell BK197.out 1).trans rfl
        have hfz12_0 := blk_frozen BK197.out 0
        have hfz12_1 := blk_frozen BK197.out 1
        have hcz13_0 : w5.cell? ⟨gb198, 0, none⟩ = some (.int .i64 a1_0) := (blk_cell BK198.out 0).trans rfl
        have hcz13_1 : w5.cell? ⟨gb198, 1, none⟩ = some (.int .u64 a1_1) := (blk_cell BK198.out 1).trans rfl
        have hfz13_0 := blk_frozen BK198.out 0
        have hfz13_1 := blk_frozen BK198.out 1
        go_wp2
        go_meet
        case rel => exact ⟨_, (decide (a0_1 < a1_1)), (by first | rfl | (simp; done) | (simp [*]; done)), H', ⟨by first | omega | exact Nat.le_refl _⟩, ⟨by (with_reducible repeat (first | refine blk_drewN ?_ _ | refine blk_drew ?_ | refine blk_alloc ?_ _)); exact BK197.out⟩, ⟨by (with_reducible repeat (first | refine blk_drewN ?_ _ | refine blk_drew ?_ | refine blk_alloc ?_ _)); exact BK198.out⟩, ⟨by repeat (first | (with_reducible first | exact HB.out | apply below_alloc | apply pw_below_drewN | apply below_drew1 | refine below_set ?_ GE197.out | refine below_set ?_ GE198.out) | exact HB.out)⟩⟩
      · rw [if_neg c10] at H
        have c10b0 : (a0_0 == a1_0) = false := beq_eq_false_iff_ne.mpr c10
        have c10b1 : (a0_0 != a1_0) = true := bne_iff_ne.mpr c10
        have H' := Aside0.mk H
        clear H
        have hnb14 := NB197_198.out
        have hnc14 := NB198_197.out
        have hcz15_0 : w5.cell? ⟨gb197, 0, none⟩ = some (.int .i64 a0_0) := (blk_cell BK197.out 0).trans rfl
        have hcz15_1 : w5.cell? ⟨gb197, 1, none⟩ = some (.int .u64 a0_1) := (blk_cell BK197.out 1).trans rfl
        have hfz15_0 := blk_frozen BK197.out 0
        have hfz15_1 := blk_frozen BK197.out 1
        have hcz16_0 : w5.cell? ⟨gb198, 0, none⟩ = some (.int .i64 a1_0) := (blk_cell BK198.out 0).trans rfl
        have hcz16_1 : w5.cell? ⟨gb198, 1, none⟩ = some (.int .u64 a1_1) := (blk_cell BK198.out 1).trans rfl
        have hfz16_0 := blk_frozen BK198.out 0
        have hfz16_1 := blk_frozen BK198.out 1
        go_wp2
        go_meet
        case rel => exact ⟨_, (false), (by first | rfl | (simp; done) | (simp [*]; done)), H', ⟨by first | omega | exact Nat.le_refl _⟩, ⟨by (with_reducible repeat (first | refine blk_drewN ?_ _ | refine blk_drew ?_ | refine blk_alloc ?_ _)); exact BK197.out⟩, ⟨by (with_reducible repeat (first | refine blk_drewN ?_ _ | refine blk_drew ?_ | refine blk_alloc ?_ _)); exact BK198.out⟩, ⟨by repeat (first | (with_reducible first | exact HB.out | apply below_alloc | apply pw_below_drewN | apply below_drew1 | refine below_set ?_ GE197.out | refine below_set ?_ GE198.out) | exact HB.out)⟩⟩
  case rest =>
    clear HC3
    (try clear c1); (try clear p2); (try clear c6); (try clear c6b0); (try clear c7); (try clear c10); (try clear c10b0); (try clear c10b1); (try clear c11); (try clear c14); (try clear hcz12_0); (try clear hcz12_1); (try clear hcz13_0); (try clear hcz13_1); (try clear hcz15_0); (try clear hcz15_1); (try clear hcz16_0); (try clear hcz16_1); (try clear hcz8_0); (try clear hcz8_1); (try clear hcz9_0)
    (try clear hcz9_1); (try clear hfz12_0); (try clear hfz12_1); (try clear hfz13_0); (try clear hfz13_1); (try clear hfz15_0); (try clear hfz15_1); (try clear hfz16_0); (try clear hfz16_1); (try clear hfz8_0); (try clear hfz8_1); (try clear hfz9_0); (try clear hfz9_1)
    obtain ⟨kq, x5_2, rfl, HA, HJ2, BK197, BK198, HB⟩ := hcut
    cases kq with
    | zero => exact absurd HA.out (by simp [synopticref22_Compare.j0])
    | succ kj2 =>
      have H := HA.out
      clear HA
      simp only [synopticref22_Compare.j0] at H
      by_cases c17 : x5_2 = true
      · subst c17
        have H1 : (some (-1)) = some r := by rw [if_pos rfl] at H; exact H
        clear H
        have H := H1
        clear H1
        obtain rfl := Option.some.inj H
        go_wp2
        go_ret
        exact ⟨by first | rfl | (simp [errW_none, errW_some] <;> rfl) | (simp [*, errW_none, errW_some] <;> rfl), by repeat (first | (with_reducible first | exact HB.out | apply below_alloc | apply pw_below_drewN | apply below_drew1 | refine below_set ?_ GE197.out | refine below_set ?_ GE198.out) | exact HB.out)⟩
      · replace c17 := Bool.eq_false_iff.mpr c17
        subst c17
        have H1 : (if (a0_0 == a1_0 && (a0_1 == a1_1)) = true then (some 0) else (some 1)) = some r := by rw [if_neg (show ¬ (false = true) by decide)] at H; exact H
        clear H
        have H := H1
        clear H1
        by_cases c18 : (a0_0 == a1_0 && (a0_1 == a1_1)) = true
        · rw [if_pos c18] at H
          have c18b0 : (a0_0 == a1_0 && (a0_1 == a1_1)) = true := c18
          (try (have c18b1 : decide (a0_0 = a1_0 && (a0_1 == a1_1)) = true := by simpa using c18))
          (try (have c18b2 : (a0_0 == a1_0 && (a0_1 == a1_1)) = true := by simpa using c18))
          clear c18
          obtain rfl := Option.some.inj H
          have hnb19 := NB197_198.out
          have hnc19 := NB198_197.out
          have hcz20_0 : wc.cell? ⟨gb197, 0, none⟩ = some (.int .i64 a0_0) := (blk_cell BK197.out 0).trans rfl
          have hcz20_1 : wc.cell? ⟨gb197, 1, none⟩ = some (.int .u64 a0_1) := (blk_cell BK197.out 1).trans rfl
          have hfz20_0 := blk_frozen BK197.out 0
          have hfz20_1 := blk_frozen BK197.out 1
          have hcz21_0 : wc.cell? ⟨gb198, 0, none⟩ = some (.int .i64 a1_0) := (blk_cell BK198.out 0).trans rfl
          have hcz21_1 : wc.cell? ⟨gb198, 1, none⟩ = some (.int .u64 a1_1) := (blk_cell BK198.out 1).trans rfl
          have hfz21_0 := blk_frozen BK198.out 0
          have hfz21_1 := blk_frozen BK198.out 1
          go_wp2
          go_ret
          exact ⟨by first | rfl | (simp [errW_none, errW_some] <;> rfl) | (simp [*, errW_none, errW_some] <;> rfl), by repeat (first | (with_reducible first | exact HB.out | apply below_alloc | apply pw_below_drewN | apply below_drew1 | refine below_set ?_ GE197.out | refine below_set ?_ GE198.out) | exact HB.out)⟩
        · rw [if_neg c18] at H
          have c18b0 : (a0_0 == a1_0 && (a0_1 == a1_1)) = false := by simpa using c18
          (try (have c18b1 : decide (a0_0 = a1_0 && (a0_1 == a1_1)) = false := by simpa using c18))
          (try (have c18b2 : (a0_0 == a1_0 && (a0_1 == a1_1)) = false := by simpa using c18))
          (try (have c18b3 : ¬ (a0_0 = a1_0 && (a0_1 == a1_1)) := by simpa using c18))
          clear c18
          obtain rfl := Option.some.inj H
          have hnb22 := NB197_198.out
          have hnc22 := NB198_197.out
          have hcz23_0 : wc.cell? ⟨gb197, 0, none⟩ = some (.int .i64 a0_0) := (blk_cell BK197.out 0).trans rfl
          have hcz23_1 : wc.cell? ⟨gb197, 1, none⟩ = some (.int .u64 a0_1) := (blk_cell BK197.out 1).trans rfl
          have hfz23_0 := blk_frozen BK197.out 0
          have hfz23_1 := blk_frozen BK197.out 1
          have hcz24_0 : wc.cell? ⟨gb198, 0, none⟩ = some (.int .i64 a1_0) := (blk_cell BK198.out 0).trans rfl
          have hcz24_1 : wc.cell? ⟨gb198, 1, none⟩ = some (.int .u64 a1_1) := (blk_cell BK198.out 1).trans rfl
          have hfz24_0 := blk_frozen BK198.out 0
          have hfz24_1 := blk_frozen BK198.out 1
          go_wp2
          go_ret
          exact ⟨by first | rfl | (simp [errW_none, errW_some] <;> rfl) | (simp [*, errW_none, errW_some] <;> rfl), by repeat (first | (with_reducible first | exact HB.out | apply below_alloc | apply pw_below_drewN | apply below_drew1 | refine below_set ?_ GE197.out | refine below_set ?_ GE198.out) | exact HB.out)⟩

/-! ### synopticref22_size: function 71 -/
def synopticref22_size.f (a0 : Int) : Option (Int) := if a0 < 0 then (some (IntKind.u64.wrap (-(IntKind.u64.wrap (a0))))) else (some (IntKind.u64.wrap (a0)))
set_option maxHeartbeats 8000000 in
set_option maxRecDepth 100000 in
theorem synopticref22_size.calls (a0 : Int) (r : Int) (w : World) (h : synopticref22_size.f a0 = some r) :
    Calls Try.prog 71 #[.int .i64 a0] w fun e w' => e = .returned (.int .u64 r) ∧ Drawn0 w w' := by
  have H : (if a0 < 0 then (some (IntKind.u64.wrap (-(IntKind.u64.wrap (a0))))) else (some (IntKind.u64.wrap (a0)))) = some r := h
  clear h
  by_cases c2 : a0 < 0
  · rw [if_pos c2] at H
    have c2b0 : decide (a0 < 0) = true := decide_eq_true c2
    clear c2
    obtain rfl := Option.some.inj H
    go_enter Try.func71, Try.ntmps71
    go_wp2
    go_ret
    exact ⟨by first | rfl | (simp; done) | (simp [*]; done), by repeat (first | exact Drawn0.refl _ | apply Drawn0.step)⟩
  · rw [if_neg c2] at H
    have c2b0 : decide (a0 < 0) = false := decide_eq_false c2
    clear c2
    obtain rfl := Option.some.inj H
    go_enter Try.func71, Try.ntmps71
    go_wp2
    go_ret
    exact ⟨by first | rfl | (simp; done) | (simp [*]; done), by repeat (first | exact Drawn0.refl _ | apply Drawn0.step)⟩

/-! ### synopticref22_Product: function 66 -/
def synopticref22_Product.f (a0 : Int) (a1 : Int) : Option (Int × Int) := (synopticref22_size.f a0).bind fun t200 => ((synopticref22_size.f a1).bind fun t201 => ((bits_Mul64.f t200 t201).bind fun bt202 => (if ((decide (a0 < 0)) != (decide (a1 < 0))) = true then ((synopticref22_Negate.f (wrap64 (bt202.1)) bt202.2).bind fun bt205 => (some (bt205.1, bt205.2))) else (some (wrap64 (bt202.1), bt202.2)))))
abbrev mS0 : Array Bool := #[false, false, false, false, false, false, false, false, false, false, false, false]
abbrev mS1 : Array Bool := #[true, false, false, false, false, false, false, false, false, false, false, false]
abbrev mS2 : Array Bool := #[true, false, true, false, false, false, false, false, false, false, false, false]
abbrev mS3 : Array Bool := #[true, false, true, false, false, true, false, false, false, false, false, false]
abbrev mS4 : Array Bool := #[true, false, true, false, false, true, false, true, false, false, false, false]
abbrev mS5 : Array Bool := #[true, true, true, false, false, true, false, true, false, false, false, false]
abbrev mS6 : Array Bool := #[true, true, true, true, false, true, false, true, false, false, false, false]
abbrev mS7 : Array Bool := #[true, true, true, true, false, true, true, true, false, false, false, false]
abbrev mS8 : Array Bool := #[true, true, true, true, false, true, true, true, true, false, false, false]
abbrev mS9 : Array Bool := #[true, true, true, true, true, true, true, true, true, false, false, false]
abbrev mS10 : Array Bool := #[true, true, true, true, true, true, true, true, true, true, false, false]
abbrev mS11 : Array Bool := #[true, true, true, true, true, true, true, true, true, true, true, false]
abbrev mS12 : Array Bool := #[true, true, true, true, true, true, true, true, true, true, true, true]
set_option maxHeartbeats 8000000 in
set_option maxRecDepth 100000 in
theorem synopticref22_Product.calls (a0 : Int) (a1 : Int) (r1 : Int) (r2 : Int) (w : World) (h : synopticref22_Product.f a0 a1 = some (r1, r2)) :
  Calls Try.prog 66 #[.int .i64 a0, .int .i64 a1] w fun e w' => e = .returned (.agg #[.int .i64 r1, .int .u64 r2]) ∧ Below w.heap.size w w' := by
 have hu90 := Try.underlying90
 have HB := Aside0.mk (Below.refl w.heap.size w)
 have H : ((synopticref22_size.f a0).bind fun t200 => ((synopticref22_size.f a1).bind fun t201 => ((bits_Mul64.f t200 t201).bind fun bt202 => (if ((decide (a0 < 0)) != (decide (a1 < 0))) = true then ((synopticref22_Negate.f (wrap64 (bt202.1)) bt202.2).bind fun bt205 => (some (bt205.1, bt205.2))) else (some (wrap64 (bt202.1), bt202.2)))))) = some (r1, r2) := h
 clear h
 replace H := Option.bind_eq_some_iff.mp H
 obtain ⟨t200, A30, H⟩ := H
 replace H : ((synopticref22_size.f a1).bind fun t201 => ((bits_Mul64.f t200 t201).bind fun bt202 => (if ((decide (a0 < 0)) != (decide (a1 < 0))) = true then ((synopticref22_Negate.f (wrap64 (bt202.1)) bt202.2).bind fun bt205 => (some (bt205.1, bt205.2))) else (some (wrap64 (bt202.1), bt202.2))))) = some (r1, r2) := H
 have A3 := Aside0.mk A30
 clear A30
 replace H := Option.bind_eq_some_iff.mp H
 obtain ⟨t201, A40, H⟩ := H
 replace H : ((bits_Mul64.f t200 t201).bind fun bt202 => (if ((decide (a0 < 0)) != (decide (a1 < 0))) = true then ((synopticref22_Negate.f (wrap64 (bt202.1)) bt202.2).bind fun bt205 => (some (bt205.1, bt205.2))) else (some (wrap64 (bt202.1), bt202.2)))) = some (r1, r2) := H
 have A4 := Aside0.mk A40
 clear A40
 replace H := Option.bind_eq_some_iff.mp H
 obtain ⟨⟨t202, t203⟩, A50, H⟩ := H
 replace H : (if ((decide (a0 < 0)) != (decide (a1 < 0))) = true then ((synopticref22_Negate.f (wrap64 (t202)) t203).bind fun bt205 => (some (bt205.1, bt205.2))) else (some (wrap64 (t202), t203))) = some (r1, r2) := H
 have A5 := Aside0.mk A50
 clear A50
 by_cases c6 : ((decide (a0 < 0)) != (decide (a1 < 0))) = true
 ·rw [if_pos c6] at H
  have c6b0 : ((decide (a0 < 0)) != (decide (a1 < 0))) = true := c6
  (try (have c6b1 : decide ((decide (a0 < 0)) = (decide (a1 < 0))) = false := by simpa using c6))
  (try (have c6b2 : ((decide (a0 < 0)) == (decide (a1 < 0))) = false := by simpa using c6))
  (try (have c6b3 : ¬ ((decide (a0 < 0)) = (decide (a1 < 0))) := by simpa using c6))
  clear c6
  replace H := Option.bind_eq_some_iff.mp H
  obtain ⟨⟨t205, t206⟩, A70, H⟩ := H
  replace H : (some (t205, t206)) = some (r1, r2) := H
  have A7 := Aside0.mk A70
  clear A70
  simp only [Option.some.injEq, Prod.mk.injEq] at H
  obtain ⟨rfl, rfl⟩ := H
  go_enter Try.func66, Try.ntmps66
  go_wp2_with (first | ((with_reducible refine gate_dst (N := 4) rfl ?_); refine box_event ?hg (N := 4) ?hd (cs := #[.int .i64 0, .int .u64 0]) (t := 90) ?hr ?_; (case hd => rfl); (case hg => rfl); (case hr => first | (go_simp; done) | (go_simp; rfl)); intro gb199 hg w8 hbox hb; have BK199 := Aside0.mk (hbox); have GW199 := kG HB hg; have GE199 := kG HB hg; replace HB := kH HB hb; clear hb hbox hg) | ((with_reducible refine gate_callee (f := 71) rfl ?_); refine goesL_ (some 10) rfl rfl Try.func71 (by kernel_rfl) rfl #[.int .i64 a0] rfl (by (try simp only [List.map_toArray, List.map_cons, List.map_nil]); first | done | rfl | (simp only [List.length_drop, List.length_take]; rfl)) ?_; (with_reducible refine (synopticref22_size.calls a0 t200 _ A3.out).mono ?_); rintro e w' ⟨rfl, ⟨nd, rfl⟩⟩; refine ⟨_, rfl, ?_⟩; (try (rw [drewN_self w8]; generalize hq_ : World.drewN w8 _ = w8; have n0_ : Aside0 (w8.heap[gb199]? = some (.cells #[.int .i64 0, .int .u64 0] 90 (0, 0))) := ⟨by rw [← hq_]; exact (by (with_reducible repeat (first | refine blk_drewN ?_ _ | refine blk_drew ?_ | refine blk_alloc ?_ _)); exact BK199.out)⟩; have n1_ : Aside0 (Below w.heap.size w w8) := ⟨by rw [← hq_]; exact (by repeat (first | (with_reducible first | exact HB.out | apply below_alloc | apply pw_below_drewN | apply below_drew1 | refine below_set ?_ GE199.out) | exact HB.out))⟩; clear BK199 HB hq_; have BK199 := n0_; have HB := n1_; clear n0_ n1_))) | ((with_reducible refine gate_callee (f := 71) rfl ?_); refine goesL_ (some 12) rfl rfl Try.func71 (by kernel_rfl) rfl #[.int .i64 a1] rfl (by (try simp only [List.map_toArray, List.map_cons, List.map_nil]); first | done | rfl | (simp only [List.length_drop, List.length_take]; rfl)) ?_; (with_reducible refine (synopticref22_size.calls a1 t201 _ A4.out).mono ?_); rintro e w' ⟨rfl, ⟨nd, rfl⟩⟩; refine ⟨_, rfl, ?_⟩; (try (rw [drewN_self w8]; generalize hq_ : World.drewN w8 _ = w8; have n0_ : Aside0 (w8.heap[gb199]? = some (.cells #[.int .i64 0, .int .u64 0] 90 (0, 0))) := ⟨by rw [← hq_]; exact (by (with_reducible repeat (first | refine blk_drewN ?_ _ | refine blk_drew ?_ | refine blk_alloc ?_ _)); exact BK199.out)⟩; have n1_ : Aside0 (Below w.heap.size w w8) := ⟨by rw [← hq_]; exact (by repeat (first | (with_reducible first | exact HB.out | apply below_alloc | apply pw_below_drewN | apply below_drew1 | refine below_set ?_ GE199.out) | exact HB.out))⟩; clear BK199 HB hq_; have BK199 := n0_; have HB := n1_; clear n0_ n1_))) | ((with_reducible refine gate_callee (f := 36) rfl ?_); refine goesL_ (some 13) rfl rfl Try.func36 (by kernel_rfl) rfl #[.int .u64 t200, .int .u64 t201] rfl (by (try simp only [List.map_toArray, List.map_cons, List.map_nil]); first | done | rfl | (simp only [List.length_drop, List.length_take]; rfl)) ?_; (with_reducible refine (bits_Mul64.calls t200 t201 t202 t203 _ A5.out).mono ?_); rintro e w' ⟨rfl, ⟨nd, rfl⟩⟩; refine ⟨_, rfl, ?_⟩; (try (rw [drewN_self w8]; generalize hq_ : World.drewN w8 _ = w8; have n0_ : Aside0 (w8.heap[gb199]? = some (.cells #[.int .i64 0, .int .u64 0] 90 (0, 0))) := ⟨by rw [← hq_]; exact (by (with_reducible repeat (first | refine blk_drewN ?_ _ | refine blk_drew ?_ | refine blk_alloc ?_ _)); exact BK199.out)⟩; have n1_ : Aside0 (Below w.heap.size w w8) := ⟨by rw [← hq_]; exact (by repeat (first | (with_reducible first | exact HB.out | apply below_alloc | apply pw_below_drewN | apply below_drew1 | refine below_set ?_ GE199.out) | exact HB.out))⟩; clear BK199 HB hq_; have BK199 := n0_; have HB := n1_; clear n0_ n1_))) | ((with_reducible refine gate_dst (N := 7) rfl ?_); refine box_event ?hg (N := 7) ?hd (cs := #[.int .i64 0, .int .u64 0]) (t := 90) ?hr ?_; (case hd => rfl); (case hg => rfl); (case hr => first | (go_simp; done) | (go_simp; rfl)); intro gb204 hg w9 hbox hb; have BK204 := Aside0.mk (hbox); have GW204 := kG HB hg; have GE204 := kG HB hg; have NB199_204 := kN BK199 hg; have NB204_199 := kM BK199 hg; replace BK199 := kB BK199 hb; replace HB := kH HB hb; clear hb hbox hg; have hnb10 := NB204_199.out; have hnc10 := NB199_204.out; have hcz11_0 : w9.cell? ⟨gb204, 0, none⟩ = some (.int .i64 0) := (blk_cell BK204.out 0).trans rfl; have hcz11_1 : w9.cell? ⟨gb204, 1, none⟩ = some (.int .u64 0) := (blk_cell BK204.out 1).trans rfl; have hfz11_0 := blk_frozen BK204.out 0; have hfz11_1 := blk_frozen BK204.out 1) | ((with_reducible refine gate_store (t := 90) (p := 7) rfl ?_); refine store_event (t := 90) (p := 7) (v := ?vo_w12) (w1 := ((w9.setCell ⟨gb204, 0, none⟩ (.int .i64 (wrap64 (t202)))).setCell ⟨gb204, 1, none⟩ (.int .u64 t203))) ?hg ?ho ?hn ?hr ?_; (case ho => rfl); (case hg => rfl); (case hn => rfl); (case hr => first | (go_simp; done) | (go_simp; rfl)); intro w12 hw; replace BK199 := kF BK199 NB199_204 hw; replace BK204 : Aside0 (w12.heap[gb204]? = some (.cells #[.int .i64 (wrap64 (t202)), .int .u64 t203] 90 (0, 0))) := ⟨(by rw [hw]; exact (by (with_reducible repeat (first | refine blk_drewN ?_ _ | refine blk_drew ?_ | refine blk_alloc ?_ _)); refine blk_put (cs := #[.int .i64 (wrap64 (t202)), .int .u64 0]) ?_ 1 _ rfl; (with_reducible repeat (first | refine blk_drewN ?_ _ | refine blk_drew ?_ | refine blk_alloc ?_ _)); refine blk_put (cs := #[.int .i64 0, .int .u64 0]) ?_ 0 _ rfl; (with_reducible repeat (first | refine blk_drewN ?_ _ | refine blk_drew ?_ | refine blk_alloc ?_ _)); exact BK204.out))⟩; replace HB := kFH HB GE204 hw; clear hw; have hcz13_0 : w12.cell? ⟨gb204, 0, none⟩ = some (.int .i64 (wrap64 (t202))) := (blk_cell BK204.out 0).trans rfl; have hcz13_1 : w12.cell? ⟨gb204, 1, none⟩ = some (.int .u64 t203) := (blk_cell BK204.out 1).trans rfl; have hfz13_0 := blk_frozen BK204.out 0; have hfz13_1 := blk_frozen BK204.out 1) | ((with_reducible refine gate_callee (f := 72) rfl ?_); refine goesL_ (some 26) rfl rfl Try.func72 (by kernel_rfl) rfl #[.agg #[.int .i64 (wrap64 (t202)), .int .u64 t203]] rfl (by (try simp only [List.map_toArray, List.map_cons, List.map_nil]); first | done | rfl | (simp only [List.length_drop, List.length_take]; rfl)) ?_; (with_reducible refine (synopticref22_Negate.calls (wrap64 (t202)) t203 t205 t206 _ A7.out).mono ?_); rintro e w14 ⟨rfl, hb⟩; refine ⟨_, rfl, ?_⟩; replace BK199 := kB BK199 hb; replace BK204 := Aside0.mk (blk_below (g := gb204) (o := .cells #[.int .i64 (wrap64 (t202)), .int .u64 t203] 90 (0, 0)) (by (with_reducible repeat (first | refine blk_drewN ?_ _ | refine blk_drew ?_ | refine blk_alloc ?_ _)); exact BK204.out) hb); replace HB := kH HB hb; (try clear hb); (try clear hb2); (try clear hk); (try clear hi); have hcz15_0 : w14.cell? ⟨gb199, 0, none⟩ = some (.int .i64 0) := (blk_cell BK199.out 0).trans rfl; have hcz15_1 : w14.cell? ⟨gb199, 1, none⟩ = some (.int .u64 0) := (blk_cell BK199.out 1).trans rfl; have hfz15_0 := blk_frozen BK199.out 0; have hfz15_1 := blk_frozen BK199.out 1) | ((with_reducible refine gate_store (t := 90) (p := 4) rfl ?_); refine store_event (t := 90) (p := 4) (v := ?vo_w16) (w1 := ((w14.setCell ⟨gb199, 0, none⟩ (.int .i64 t205)).setCell ⟨gb199, 1, none⟩ (.int .u64 t206))) ?hg ?ho ?hn ?hr ?_; (case ho => rfl); (case hg => rfl); (case hn => rfl); (case hr => first | (go_simp; done) | (go_simp; rfl)); intro w16 hw; replace BK199 : Aside0 (w16.heap[gb199]? = some (.cells #[.int .i64 t205, .int .u64 t206] 90 (0, 0))) := ⟨(by rw [hw]; exact (by (with_reducible repeat (first | refine blk_drewN ?_ _ | refine blk_drew ?_ | refine blk_alloc ?_ _)); refine blk_put (cs := #[.int .i64 t205, .int .u64 0]) ?_ 1 _ rfl; (with_reducible repeat (first | refine blk_drewN ?_ _ | refine blk_drew ?_ | refine blk_alloc ?_ _)); refine blk_put (cs := #[.int .i64 0, .int .u64 0]) ?_ 0 _ rfl; (with_reducible repeat (first | refine blk_drewN ?_ _ | refine blk_drew ?_ | refine blk_alloc ?_ _)); exact BK199.out))⟩; replace BK204 := kF BK204 NB204_199 hw; replace HB := kFH HB GE199 hw; clear hw))
  refine bodyPost_ret (results_cell_row rfl _ _ gb199 90 #[.int .i64 t205, .int .u64 t206] (0, 0) _ rfl (by (with_reducible repeat (first | refine blk_drewN ?_ _ | refine blk_drew ?_ | refine blk_alloc ?_ _)); exact BK199.out) Try.underlying90 rfl (by kernel_rfl)) rfl ?_
  exact ⟨by first | rfl | (simp [errW_none, errW_some] <;> rfl) | (simp [*, errW_none, errW_some] <;> rfl), by repeat (first | (with_reducible first | exact HB.out | apply below_alloc | apply pw_below_drewN | apply below_drew1 | refine below_set ?_ GE199.out | refine below_set ?_ GE204.out) | exact HB.out)⟩
 ·rw [if_neg c6] at H
  have c6b0 : ((decide (a0 < 0)) != (decide (a1 < 0))) = false := by simpa using c6
  (try (have c6b1 : decide ((decide (a0 < 0)) = (decide (a1 < 0))) = true := by simpa using c6))
  (try (have c6b2 : ((decide (a0 < 0)) == (decide (a1 < 0))) = true := by simpa using c6))
  clear c6
  simp only [Option.some.injEq, Prod.mk.injEq] at H
  obtain ⟨rfl, rfl⟩ := H
  go_enter Try.func66, Try.ntmps66
  go_wp2_with (first | ((with_reducible refine gate_dst (N := 4) rfl ?_); refine box_event ?hg (N := 4) ?hd (cs := #[.int .i64 0, .int .u64 0]) (t := 90) ?hr ?_; (case hd => rfl); (case hg => rfl); (case hr => first | (go_simp; done) | (go_simp; rfl)); intro gb199 hg w17 hbox hb; have BK199 := Aside0.mk (hbox); have GW199 := kG HB hg; have GE199 := kG HB hg; replace HB := kH HB hb; clear hb hbox hg) | ((with_reducible refine gate_callee (f := 71) rfl ?_); refine goesL_ (some 10) rfl rfl Try.func71 (by kernel_rfl) rfl #[.int .i64 a0] rfl (by (try simp only [List.map_toArray, List.map_cons, List.map_nil]); first | done | rfl | (simp only [List.length_drop, List.length_take]; rfl)) ?_; (with_reducible refine (synopticref22_size.calls a0 t200 _ A3.out).mono ?_); rintro e w' ⟨rfl, ⟨nd, rfl⟩⟩; refine ⟨_, rfl, ?_⟩; (try (rw [drewN_self w17]; generalize hq_ : World.drewN w17 _ = w17; have n0_ : Aside0 (w17.heap[gb199]? = some (.cells #[.int .i64 0, .int .u64 0] 90 (0, 0))) := ⟨by rw [← hq_]; exact (by (with_reducible repeat (first | refine blk_drewN ?_ _ | refine blk_drew ?_ | refine blk_alloc ?_ _)); exact BK199.out)⟩; have n1_ : Aside0 (Below w.heap.size w w17) := ⟨by rw [← hq_]; exact (by repeat (first | (with_reducible first | exact HB.out | apply below_alloc | apply pw_below_drewN | apply below_drew1 | refine below_set ?_ GE199.out) | exact HB.out))⟩; clear BK199 HB hq_; have BK199 := n0_; have HB := n1_; clear n0_ n1_))) | ((with_reducible refine gate_callee (f := 71) rfl ?_); refine goesL_ (some 12) rfl rfl Try.func71 (by kernel_rfl) rfl #[.int .i64 a1] rfl (by (try simp only [List.map_toArray, List.map_cons, List.map_nil]); first | done | rfl | (simp only [List.length_drop, List.length_take]; rfl)) ?_; (with_reducible refine (synopticref22_size.calls a1 t201 _ A4.out).mono ?_); rintro e w' ⟨rfl, ⟨nd, rfl⟩⟩; refine ⟨_, rfl, ?_⟩; (try (rw [drewN_self w17]; generalize hq_ : World.drewN w17 _ = w17; have n0_ : Aside0 (w17.heap[gb199]? = some (.cells #[.int .i64 0, .int .u64 0] 90 (0, 0))) := ⟨by rw [← hq_]; exact (by (with_reducible repeat (first | refine blk_drewN ?_ _ | refine blk_drew ?_ | refine blk_alloc ?_ _)); exact BK199.out)⟩; have n1_ : Aside0 (Below w.heap.size w w17) := ⟨by rw [← hq_]; exact (by repeat (first | (with_reducible first | exact HB.out | apply below_alloc | apply pw_below_drewN | apply below_drew1 | refine below_set ?_ GE199.out) | exact HB.out))⟩; clear BK199 HB hq_; have BK199 := n0_; have HB := n1_; clear n0_ n1_))) | ((with_reducible refine gate_callee (f := 36) rfl ?_); refine goesL_ (some 13) rfl rfl Try.func36 (by kernel_rfl) rfl #[.int .u64 t200, .int .u64 t201] rfl (by (try simp only [List.map_toArray, List.map_cons, List.map_nil]); first | done | rfl | (simp only [List.length_drop, List.length_take]; rfl)) ?_; (with_reducible refine (bits_Mul64.calls t200 t201 t202 t203 _ A5.out).mono ?_); rintro e w' ⟨rfl, ⟨nd, rfl⟩⟩; refine ⟨_, rfl, ?_⟩; (try (rw [drewN_self w17]; generalize hq_ : World.drewN w17 _ = w17; have n0_ : Aside0 (w17.heap[gb199]? = some (.cells #[.int .i64 0, .int .u64 0] 90 (0, 0))) := ⟨by rw [← hq_]; exact (by (with_reducible repeat (first | refine blk_drewN ?_ _ | refine blk_drew ?_ | refine blk_alloc ?_ _)); exact BK199.out)⟩; have n1_ : Aside0 (Below w.heap.size w w17) := ⟨by rw [← hq_]; exact (by repeat (first | (with_reducible first | exact HB.out | apply below_alloc | apply pw_below_drewN | apply below_drew1 | refine below_set ?_ GE199.out) | exact HB.out))⟩; clear BK199 HB hq_; have BK199 := n0_; have HB := n1_; clear n0_ n1_))) | ((with_reducible refine gate_dst (N := 7) rfl ?_); refine box_event ?hg (N := 7) ?hd (cs := #[.int .i64 0, .int .u64 0]) (t := 90) ?hr ?_; (case hd => rfl); (case hg => rfl); (case hr => first | (go_simp; done) | (go_simp; rfl)); intro gb204 hg w18 hbox hb; have BK204 := Aside0.mk (hbox); have GW204 := kG HB hg; have GE204 := kG HB hg; have NB199_204 := kN BK199 hg; have NB204_199 := kM BK199 hg; replace BK199 := kB BK199 hb; replace HB := kH HB hb; clear hb hbox hg; have hnb19 := NB204_199.out; have hnc19 := NB199_204.out; have hcz20_0 : w18.cell? ⟨gb204, 0, none⟩ = some (.int .i64 0) := (blk_cell BK204.out 0).trans rfl; have hcz20_1 : w18.cell? ⟨gb204, 1, none⟩ = some (.int .u64 0) := (blk_cell BK204.out 1).trans rfl; have hfz20_0 := blk_frozen BK204.out 0; have hfz20_1 := blk_frozen BK204.out 1) | ((with_reducible refine gate_store (t := 90) (p := 7) rfl ?_); refine store_event (t := 90) (p := 7) (v := ?vo_w21) (w1 := ((w18.setCell ⟨gb204, 0, none⟩ (.int .i64 (wrap64 (t202)))).setCell ⟨gb204, 1, none⟩ (.int .u64 t203))) ?hg ?ho ?hn ?hr ?_; (case ho => rfl); (case hg => rfl); (case hn => rfl); (case hr => first | (go_simp; done) | (go_simp; rfl)); intro w21 hw; replace BK199 := kF BK199 NB199_204 hw; replace BK204 : Aside0 (w21.heap[gb204]? = some (.cells #[.int .i64 (wrap64 (t202)), .int .u64 t203] 90 (0, 0))) := ⟨(by rw [hw]; exact (by (with_reducible repeat (first | refine blk_drewN ?_ _ | refine blk_drew ?_ | refine blk_alloc ?_ _)); refine blk_put (cs := #[.int .i64 (wrap64 (t202)), .int .u64 0]) ?_ 1 _ rfl; (with_reducible repeat (first | refine blk_drewN ?_ _ | refine blk_drew ?_ | refine blk_alloc ?_ _)); refine blk_put (cs := #[.int .i64 0, .int .u64 0]) ?_ 0 _ rfl; (with_reducible repeat (first | refine blk_drewN ?_ _ | refine blk_drew ?_ | refine blk_alloc ?_ _)); exact BK204.out))⟩; replace HB := kFH HB GE204 hw; clear hw; have hcz22_0 : w21.cell? ⟨gb204, 0, none⟩ = some (.int .i64 (wrap64 (t202))) := (blk_cell BK204.out 0).trans rfl; have hcz22_1 : w21.cell? ⟨gb204, 1, none⟩ = some (.int .u64 t203) := (blk_cell BK204.out 1).trans rfl; have hfz22_0 := blk_frozen BK204.out 0; have hfz22_1 := blk_frozen BK204.out 1; have hcz23_0 : w21.cell? ⟨gb199, 0, none⟩ = some (.int .i64 0) := (blk_cell BK199.out 0).trans rfl; have hcz23_1 : w21.cell? ⟨gb199, 1, none⟩ = some (.int .u64 0) := (blk_cell BK199.out 1).trans rfl; have hfz23_0 := blk_frozen BK199.out 0; have hfz23_1 := blk_frozen BK199.out 1) | ((with_reducible refine gate_store (t := 90) (p := 4) rfl ?_); refine store_event (t := 90) (p := 4) (v := ?vo_w24) (w1 := ((w21.setCell ⟨gb199, 0, none⟩ (.int .i64 (wrap64 (t202)))).setCell ⟨gb199, 1, none⟩ (.int .u64 t203))) ?hg ?ho ?hn ?hr ?_; (case ho => rfl); (case hg => rfl); (case hn => rfl); (case hr => first | (go_simp; done) | (go_simp; rfl)); intro w24 hw; replace BK199 : Aside0 (w24.heap[gb199]? = some (.cells #[.int .i64 (wrap64 (t202)), .int .u64 t203] 90 (0, 0))) := ⟨(by rw [hw]; exact (by (with_reducible repeat (first | refine blk_drewN ?_ _ | refine blk_drew ?_ | refine blk_alloc ?_ _)); refine blk_put (cs := #[.int .i64 (wrap64 (t202)), .int .u64 0]) ?_ 1 _ rfl; (with_reducible repeat (first | refine blk_drewN ?_ _ | refine blk_drew ?_ | refine blk_alloc ?_ _)); refine blk_put (cs := #[.int .i64 0, .int .u64 0]) ?_ 0 _ rfl; (with_reducible repeat (first | refine blk_drewN ?_ _ | refine blk_drew ?_ | refine blk_alloc ?_ _)); exact BK199.out))⟩; replace BK204 := kF BK204 NB204_199 hw; replace HB := kFH HB GE199 hw; clear hw))
  refine bodyPost_ret (results_cell_row rfl _ _ gb199 90 #[.int .i64 (wrap64 (t202)), .int .u64 t203] (0, 0) _ rfl (by (with_reducible repeat (first | refine blk_drewN ?_ _ | refine blk_drew ?_ | refine blk_alloc ?_ _)); exact BK199.out) Try.underlying90 rfl (by kernel_rfl)) rfl ?_
  exact ⟨by first | rfl | (simp [errW_none, errW_some] <;> rfl) | (simp [*, errW_none, errW_some] <;> rfl), by repeat (first | (with_reducible first | exact HB.out | apply below_alloc | apply pw_below_drewN | apply below_drew1 | refine below_set ?_ GE199.out | refine below_set ?_ GE204.out) | exact HB.out)⟩

/-! ### synopticref38_Compare: function 52 -/
def synopticref38_Compare.f (k : Nat) (a0_0 : Int) (a0_1 : Int) (a1_0 : Int) (a1_1 : Int) : Option (Int) := (synopticref22_Product.f a0_0 a1_1).bind fun bt209 => ((synopticref22_Product.f a1_0 a0_1).bind fun bt211 => ((synopticref22_Compare.f k bt209.1 bt209.2 bt211.1 bt211.2).bind fun t213 => (some t213)))
theorem synopticref38_Compare.mono : ∀ a0 a1 a2 a3 k, LeO (synopticref38_Compare.f k a0 a1 a2 a3) (synopticref38_Compare.f (k + 1) a0 a1 a2 a3) := by
 intro a0 a1 a2 a3 k
 unfold synopticref38_Compare.f
 repeat' first
   | (with_reducible exact synopticref22_Compare.mono _ _ _ _ _)
   | (with_reducible exact LeO.refl _)
   | (with_reducible exact LeO.none _)
   | (with_reducible refine LeO.ite ?_ ?_)
   | (with_reducible refine LeO.bind ?_ (fun _ => ?_))
   | exact synopticref22_Compare.mono _ _ _ _ _
   | exact LeO.none _
   | refine LeO.ite ?_ ?_
   | refine LeO.bind ?_ (fun _ => ?_)
def synopticref38_Compare.T1 : Bool × List (List Nat × List Nat) := (true, [([], []), ([0], [0]), ([], []), ([2], [2]), ([1, 3], [1, 3]), ([], []), ([5], [5]), ([], []), ([7], [7]), ([6, 8, 4], [6, 8]), ([4, 9, 9], [4, 9]), ([10, 10, 0, 1, 2, 3, 4, 5, 6, 7, 8, 9, 10], [10])])
def synopticref38_Compare.B1 : List Nat := [0, 1, 0, 4, 15, 0, 32, 0, 128, 511, 1023, 2047]
theorem synopticref38_Compare.tab1 : rtab .any (opsOf Try.f52 1) = synopticref38_Compare.T1 := by kernel_rfl
theorem synopticref38_Compare.bits1 : waitsOk synopticref38_Compare.T1.2 synopticref38_Compare.B1 = true := by kernel_rfl
set_option maxHeartbeats 8000000 in
set_option maxRecDepth 100000 in
theorem synopticref38_Compare.calls (k : Nat) (a0_0 : Int) (a0_1 : Int) (a1_0 : Int) (a1_1 : Int) (r : Int) (w : World) (h : synopticref38_Compare.f k a0_0 a0_1 a1_0 a1_1 = some r) :
  Calls Try.prog 52 #[.agg #[.int .i64 a0_0, .int .i64 a0_1], .agg #[.int .i64 a1_0, .int .i64 a1_1]] w fun e w' => e = .returned (.int .i64 r) ∧ Below w.heap.size w w' := by
 have hu31 := Try.underlying31
 have HB := Aside0.mk (Below.refl w.heap.size w)
 have H : ((synopticref22_Product.f a0_0 a1_1).bind fun bt209 => ((synopticref22_Product.f a1_0 a0_1).bind fun bt211 => ((synopticref22_Compare.f k bt209.1 bt209.2 bt211.1 bt211.2).bind fun t213 => (some t213)))) = some r := h
 clear h
 replace H := Option.bind_eq_some_iff.mp H
 obtain ⟨⟨t209, t210⟩, A30, H⟩ := H
 replace H : ((synopticref22_Product.f a1_0 a0_1).bind fun bt211 => ((synopticref22_Compare.f k t209 t210 bt211.1 bt211.2).bind fun t213 => (some t213))) = some r := H
 have A3 := Aside0.mk A30
 clear A30
 replace H := Option.bind_eq_some_iff.mp H
 obtain ⟨⟨t211, t212⟩, A40, H⟩ := H
 replace H : ((synopticref22_Compare.f k t209 t210 t211 t212).bind fun t213 => (some t213)) = some r := H
 have A4 := Aside0.mk A40
 clear A40
 replace H := Option.bind_eq_some_iff.mp H
 obtain ⟨t213, A50, H⟩ := H
 replace H : (some t213) = some r := H
 have A5 := Aside0.mk A50
 clear A50
 obtain rfl := Option.some.inj H
 go_enter Try.func52, Try.ntmps52
 try go_wp2_with (first | ((with_reducible refine gate_dst (N := 2) rfl ?_); refine box_event ?hg (N := 2) ?hd (cs := #[.int .i64 a0_0, .int .i64 a0_1]) (t := 31) ?hr ?_; (case hd => rfl); (case hg => rfl); (case hr => first | (go_simp; done) | (go_simp; rfl)); intro gb207 hg w6 hbox hb; have BK207 := Aside0.mk (hbox); have GW207 := kG HB hg; have GE207 := kG HB hg; replace HB := kH HB hb; clear hb hbox hg) | ((with_reducible refine gate_dst (N := 3) rfl ?_); refine box_event ?hg (N := 3) ?hd (cs := #[.int .i64 a1_0, .int .i64 a1_1]) (t := 31) ?hr ?_; (case hd => rfl); (case hg => rfl); (case hr => first | (go_simp; done) | (go_simp; rfl)); intro gb208 hg w7 hbox hb; have BK208 := Aside0.mk (hbox); have GW208 := kG HB hg; have GE208 := kG HB hg; have NB207_208 := kN BK207 hg; have NB208_207 := kM BK207 hg; replace BK207 := kB BK207 hb; replace HB := kH HB hb; clear hb hbox hg))
 replace BK207 := Aside0.mk (blk_drew BK207.out); replace BK208 := Aside0.mk (blk_drew BK208.out); replace HB := Aside0.mk (below_drew1 HB.out)
 refine start_ (n := 12) (S := fun w' => w'.cell? ⟨gb207, 0, none⟩ = some (.int .i64 a0_0) ∧ w'.cell? ⟨gb207, 1, none⟩ = some (.int .i64 a0_1) ∧ w'.cell? ⟨gb208, 0, none⟩ = some (.int .i64 a1_0) ∧ w'.cell? ⟨gb208, 1, none⟩ = some (.int .i64 a1_1)) (ds := []) mS0 (by kernel_rfl) rfl rfl ⟨(blk_cell BK207.out 0).trans rfl, (blk_cell BK207.out 1).trans rfl, (blk_cell BK208.out 0).trans rfl, (blk_cell BK208.out 1).trans rfl⟩ (fun hHeld => ?_); refine with_tabW synopticref38_Compare.tab1 synopticref38_Compare.bits1 (fun HT_ HW_ => ?_)
 generalize w7.drew = w8 at BK207 BK208 HB hHeld ⊢
 refine pure_ (i := 0) (N := some 5) (v := ?_) (a' := ?_) mS1 rfl rfl (any_of HT_.out (by kernel_rfl)) (fun _ _ _ h => h) (Or.inl ⟨by rfl, ?_⟩) ?_ ?_; rotate_left; (intro w'; go_simp; with_reducible rfl); rotate_left; (simp only [Act.put, List.setIfInBounds_toArray, List.set_cons_zero, List.set_cons_succ, i64_w, i32_w]; rfl)
 refine pure_ (i := 2) (N := some 7) (v := ?_) (a' := ?_) mS2 rfl rfl (any_of HT_.out (by kernel_rfl)) (fun _ _ _ h => h) (Or.inl ⟨by rfl, ?_⟩) ?_ ?_; rotate_left; (intro w'; go_simp; with_reducible rfl); rotate_left; (simp only [Act.put, List.setIfInBounds_toArray, List.set_cons_zero, List.set_cons_succ, i64_w, i32_w]; rfl)
 refine pure_ (i := 5) (N := some 10) (v := ?_) (a' := ?_) mS3 rfl rfl (any_of HT_.out (by kernel_rfl)) (fun _ _ _ h => h) (Or.inl ⟨by rfl, ?_⟩) ?_ ?_; rotate_left; (intro w'; go_simp; with_reducible rfl); rotate_left; (simp only [Act.put, List.setIfInBounds_toArray, List.set_cons_zero, List.set_cons_succ, i64_w, i32_w]; rfl)
 refine pure_ (i := 7) (N := some 12) (v := ?_) (a' := ?_) mS4 rfl rfl (any_of HT_.out (by kernel_rfl)) (fun _ _ _ h => h) (Or.inl ⟨by rfl, ?_⟩) ?_ ?_; rotate_left; (intro w'; go_simp; with_reducible rfl); rotate_left; (simp only [Act.put, List.setIfInBounds_toArray, List.set_cons_zero, List.set_cons_succ, i64_w, i32_w]; rfl)
 refine take_ (i := 1) (N := some 6) (v := ?_) (a' := ?_) mS5 rfl rfl (take_ofW HT_.out HW_.out (by kernel_rfl)) (fun _ _ _ h => h) (Or.inl ⟨by rfl, ?_⟩) hHeld ?_ ?_; rotate_left; (rintro w' ⟨s0, s1, s2, s3⟩; go_simp; with_reducible rfl); rotate_left; (simp only [Act.put, List.setIfInBounds_toArray, List.set_cons_zero, List.set_cons_succ, i64_w, i32_w]; rfl)
 refine take_ (i := 3) (N := some 8) (v := ?_) (a' := ?_) mS6 rfl rfl (take_ofW HT_.out HW_.out (by kernel_rfl)) (fun _ _ _ h => h) (Or.inl ⟨by rfl, ?_⟩) hHeld ?_ ?_; rotate_left; (rintro w' ⟨s0, s1, s2, s3⟩; go_simp; with_reducible rfl); rotate_left; (simp only [Act.put, List.setIfInBounds_toArray, List.set_cons_zero, List.set_cons_succ, i64_w, i32_w]; rfl)
 refine take_ (i := 6) (N := some 11) (v := ?_) (a' := ?_) mS7 rfl rfl (take_ofW HT_.out HW_.out (by kernel_rfl)) (fun _ _ _ h => h) (Or.inl ⟨by rfl, ?_⟩) hHeld ?_ ?_; rotate_left; (rintro w' ⟨s0, s1, s2, s3⟩; go_simp; with_reducible rfl); rotate_left; (simp only [Act.put, List.setIfInBounds_toArray, List.set_cons_zero, List.set_cons_succ, i64_w, i32_w]; rfl)
 refine take_ (i := 8) (N := some 13) (v := ?_) (a' := ?_) mS8 rfl rfl (take_ofW HT_.out HW_.out (by kernel_rfl)) (fun _ _ _ h => h) (Or.inl ⟨by rfl, ?_⟩) hHeld ?_ ?_; rotate_left; (rintro w' ⟨s0, s1, s2, s3⟩; go_simp; with_reducible rfl); rotate_left; (simp only [Act.put, List.setIfInBounds_toArray, List.set_cons_zero, List.set_cons_succ, i64_w, i32_w]; rfl)
 refine one_ (i := 4) (N := some 9) mS9 rfl rfl (one_of HT_.out (by kernel_rfl)) (by decide) (fun K hK => ?_)
 refine goes_ Try.func66 (by kernel_rfl) rfl #[.int .i64 a0_0, .int .i64 a1_1] (by rfl) rfl rfl (by (try simp only [List.map_toArray, List.map_cons, List.map_nil]); first | done | rfl | (simp only [List.length_drop, List.length_take]; rfl)) ?_
 with_reducible refine (synopticref22_Product.calls a0_0 a1_1 t209 t210 _ A3.out).mono ?_
 rintro e w9 ⟨rfl, hb⟩
 refine ⟨_, rfl, ?_⟩
 replace BK207 := kB BK207 hb; replace BK208 := kB BK208 hb; replace HB := kH HB hb
 (try clear hb)
 (try clear hb2)
 (try clear hk)
 (try clear hi)
 refine hK.out _ _ ⟨(blk_cell BK207.out 0).trans rfl, (blk_cell BK207.out 1).trans rfl, (blk_cell BK208.out 0).trans rfl, (blk_cell BK208.out 1).trans rfl⟩ (fun hHeld => ?_)
 clear hK K
 refine norm_ (a' := ?_) ?_ ?_
 rotate_left
 ·show Act.put _ (some 9) _ = _
  simp only [Act.put, List.setIfInBounds_toArray, List.set_cons_zero, List.set_cons_succ, i64_w, i32_w]
  rfl
 refine one_ (i := 9) (N := some 14) mS10 rfl rfl (one_of HT_.out (by kernel_rfl)) (by decide) (fun K hK => ?_)
 refine goes_ Try.func66 (by kernel_rfl) rfl #[.int .i64 a1_0, .int .i64 a0_1] (by rfl) rfl rfl (by (try simp only [List.map_toArray, List.map_cons, List.map_nil]); first | done | rfl | (simp only [List.length_drop, List.length_take]; rfl)) ?_
 with_reducible refine (synopticref22_Product.calls a1_0 a0_1 t211 t212 _ A4.out).mono ?_
 rintro e w10 ⟨rfl, hb⟩
 refine ⟨_, rfl, ?_⟩
 replace BK207 := kB BK207 hb; replace BK208 := kB BK208 hb; replace HB := kH HB hb
 (try clear hb)
 (try clear hb2)
 (try clear hk)
 (try clear hi)
 refine hK.out _ _ ⟨(blk_cell BK207.out 0).trans rfl, (blk_cell BK207.out 1).trans rfl, (blk_cell BK208.out 0).trans rfl, (blk_cell BK208.out 1).trans rfl⟩ (fun hHeld => ?_)
 clear hK K
 refine norm_ (a' := ?_) ?_ ?_
 rotate_left
 ·show Act.put _ (some 14) _ = _
  simp only [Act.put, List.setIfInBounds_toArray, List.set_cons_zero, List.set_cons_succ, i64_w, i32_w]
  rfl
 refine one_ (i := 10) (N := some 15) mS11 rfl rfl (one_of HT_.out (by kernel_rfl)) (by decide) (fun K hK => ?_)
 refine goes_ Try.func65 (by kernel_rfl) rfl #[.agg #[.int .i64 t209, .int .u64 t210], .agg #[.int .i64 t211, .int .u64 t212]] (by rfl) rfl rfl (by (try simp only [List.map_toArray, List.map_cons, List.map_nil]); first | done | rfl | (simp only [List.length_drop, List.length_take]; rfl)) ?_
 with_reducible refine (synopticref22_Compare.calls k t209 t210 t211 t212 t213 _ A5.out).mono ?_
 rintro e w11 ⟨rfl, hb⟩
 refine ⟨_, rfl, ?_⟩
 replace BK207 := kB BK207 hb; replace BK208 := kB BK208 hb; replace HB := kH HB hb
 (try clear hb)
 (try clear hb2)
 (try clear hk)
 (try clear hi)
 refine hK.out _ _ ⟨(blk_cell BK207.out 0).trans rfl, (blk_cell BK207.out 1).trans rfl, (blk_cell BK208.out 0).trans rfl, (blk_cell BK208.out 1).trans rfl⟩ (fun hHeld => ?_)
 clear hK K
 refine norm_ (a' := ?_) ?_ ?_
 rotate_left
 ·show Act.put _ (some 15) _ = _
  simp only [Act.put, List.setIfInBounds_toArray, List.set_cons_zero, List.set_cons_succ, i64_w, i32_w]
  rfl
 refine pure_ (i := 11) (N := some 4) (v := ?_) (a' := ?_) mS12 rfl rfl (any_of HT_.out (by kernel_rfl)) (fun _ _ _ h => h) (Or.inl ⟨by rfl, ?_⟩) ?_ ?_; rotate_left; (intro w'; go_simp; with_reducible rfl); rotate_left; (simp only [Act.put, List.setIfInBounds_toArray, List.set_cons_zero, List.set_cons_succ, i64_w, i32_w]; rfl)
 refine done_ (done_of HT_.out (by kernel_rfl)) ?_
 try go_wp2
 go_ret
 exact ⟨by first | rfl | (simp [errW_none, errW_some] <;> rfl) | (simp [*, errW_none, errW_some] <;> rfl), by repeat (first | (with_reducible first | exact HB.out | apply below_alloc | apply pw_below_drewN | apply below_drew1 | refine below_set ?_ GE207.out | refine below_set ?_ GE208.out) | exact HB.out)⟩

/-! ### synopticref39_Ranks: function 28 -/
mutual
def synopticref39_Ranks.j0 : Nat → Int → Bool → Int → Int → Option (Int × Int)
 | 0, _, _, _, _ => none
 | k + 1, x0, x19, x215000, x215001 => if x19 = true then (some (0, 1)) else (synopticref39_Ranks.l0 k x0 0 x215000 x215001)
def synopticref39_Ranks.l0 : Nat → Int → Int → Int → Int → Option (Int × Int)
 | 0, _, _, _, _ => none
 | k + 1, x0, x6, x215000, x215001 => if x6 ≤ x0 then ((synopticref39_Tail.f k x0 x6).bind fun bt216 => ((synopticref38_Compare.f k (wrap64 (2 * bt216.1)) bt216.2.1 (wrap64 (x215001 - x215000)) x215001).bind fun t220 => (if t220 > 0 then (some (x6, 0)) else (synopticref39_Ranks.l0 k x0 (wrap64 (x6 + 1)) x215000 x215001)))) else (some (x6, 0))
end
def synopticref39_Ranks.f (k : Nat) (a0 : Int) (a1_0 : Int) (a1_1 : Int) : Option (Int × Int) := if a0 < 0 then (synopticref39_Ranks.j0 k a0 true a1_0 a1_1) else (if a0 > 50 then (synopticref39_Ranks.j0 k a0 true a1_0 a1_1) else ((synopticref39_level.f k a1_0 a1_1).bind fun t215 => (synopticref39_Ranks.j0 k a0 (!t215) a1_0 a1_1)))
theorem synopticref39_Ranks.mono_l : ∀ k, (∀ y0 y1 y2 y3, LeO (synopticref39_Ranks.j0 k y0 y1 y2 y3) (synopticref39_Ranks.j0 (k + 1) y0 y1 y2 y3)) ∧ (∀ y0 y1 y2 y3, LeO (synopticref39_Ranks.l0 k y0 y1 y2 y3) (synopticref39_Ranks.l0 (k + 1) y0 y1 y2 y3))
 | 0 => ⟨fun _ _ _ _ r h => by simp [synopticref39_Ranks.j0] at h, fun _ _ _ _ r h => by simp [synopticref39_Ranks.l0] at h⟩
 | k + 1 => by
  obtain ⟨ih0, ih1⟩ := synopticref39_Ranks.mono_l k
  refine ⟨?_, ?_⟩
  ·intro y0 y1 y2 y3
   unfold synopticref39_Ranks.j0
   repeat' first
   | (with_reducible exact ih0 _ _ _ _)
   | (with_reducible exact ih1 _ _ _ _)
   | (with_reducible exact synopticref38_Compare.mono _ _ _ _ _)
   | (with_reducible exact synopticref39_Tail.mono _ _ _)
   | (with_reducible exact synopticref39_level.mono _ _ _)
   | (with_reducible exact LeO.refl _)
   | (with_reducible exact LeO.none _)
   | (with_reducible refine LeO.ite ?_ ?_)
   | (with_reducible refine LeO.bind ?_ (fun _ => ?_))
   | exact ih0 _ _ _ _
   | exact ih1 _ _ _ _
   | exact synopticref38_Compare.mono _ _ _ _ _
   | exact synopticref39_Tail.mono _ _ _
   | exact synopticref39_level.mono _ _ _
   | exact LeO.none _
   | refine LeO.ite ?_ ?_
   | refine LeO.bind ?_ (fun _ => ?_)
  ·intro y0 y1 y2 y3
   unfold synopticref39_Ranks.l0
   repeat' first
   | (with_reducible exact ih0 _ _ _ _)
   | (with_reducible exact ih1 _ _ _ _)
   | (with_reducible exact synopticref38_Compare.mono _ _ _ _ _)
   | (with_reducible exact synopticref39_Tail.mono _ _ _)
   | (with_reducible exact synopticref39_level.mono _ _ _)
   | (with_reducible exact LeO.refl _)
   | (with_reducible exact LeO.none _)
   | (with_reducible refine LeO.ite ?_ ?_)
   | (with_reducible refine LeO.bind ?_ (fun _ => ?_))
   | exact ih0 _ _ _ _
   | exact ih1 _ _ _ _
   | exact synopticref38_Compare.mono _ _ _ _ _
   | exact synopticref39_Tail.mono _ _ _
   | exact synopticref39_level.mono _ _ _
   | exact LeO.none _
   | refine LeO.ite ?_ ?_
   | refine LeO.bind ?_ (fun _ => ?_)
theorem synopticref39_Ranks.mono : ∀ a0 a1 a2 k, LeO (synopticref39_Ranks.f k a0 a1 a2) (synopticref39_Ranks.f (k + 1) a0 a1 a2) := by
 intro a0 a1 a2 k
 obtain ⟨ih0, ih1⟩ := synopticref39_Ranks.mono_l k
 unfold synopticref39_Ranks.f
 repeat' first
   | (with_reducible exact ih0 _ _ _ _)
   | (with_reducible exact ih1 _ _ _ _)
   | (with_reducible exact synopticref38_Compare.mono _ _ _ _ _)
   | (with_reducible exact synopticref39_Tail.mono _ _ _)
   | (with_reducible exact synopticref39_level.mono _ _ _)
   | (with_reducible exact LeO.refl _)
   | (with_reducible exact LeO.none _)
   | (with_reducible refine LeO.ite ?_ ?_)
   | (with_reducible refine LeO.bind ?_ (fun _ => ?_))
   | exact ih0 _ _ _ _
   | exact ih1 _ _ _ _
   | exact synopticref38_Compare.mono _ _ _ _ _
   | exact synopticref39_Tail.mono _ _ _
   | exact synopticref39_level.mono _ _ _
   | exact LeO.none _
   | refine LeO.ite ?_ ?_
   | refine LeO.bind ?_ (fun _ => ?_)
set_option maxHeartbeats 8000000 in
set_option maxRecDepth 100000 in
theorem synopticref39_Ranks.calls (k : Nat) (a0 : Int) (a1_0 : Int) (a1_1 : Int) (r1 : Int) (r2 : Int) (w : World) (h : synopticref39_Ranks.f k a0 a1_0 a1_1 = some (r1, r2)) :
  Calls Try.prog 28 #[.int .i64 a0, .agg #[.int .i64 a1_0, .int .i64 a1_1]] w fun e w' => e = .returned (.tuple #[.int .i64 r1, .int .i64 r2]) ∧ Below w.heap.size w w' := by
 have hu31 := Try.underlying31
 have HB := Aside0.mk (Below.refl w.heap.size w)
 have H : (if a0 < 0 then (synopticref39_Ranks.j0 k a0 true a1_0 a1_1) else (if a0 > 50 then (synopticref39_Ranks.j0 k a0 true a1_0 a1_1) else ((synopticref39_level.f k a1_0 a1_1).bind fun t215 => (synopticref39_Ranks.j0 k a0 (!t215) a1_0 a1_1)))) = some (r1, r2) := h
 clear h
 have HC3 := Aside0.mk H
 clear H
 go_enter Try.func28, Try.ntmps28
 go_upto_region 1 with (first | ((with_reducible refine gate_dst (N := 3) rfl ?_); refine box_event ?hg (N := 3) ?hd (cs := #[.int .i64 a1_0, .int .i64 a1_1]) (t := 31) ?hr ?_; (case hd => rfl); (case hg => rfl); (case hr => first | (go_simp; done) | (go_simp; rfl)); intro gb214 hg w4 hbox hb; have BK214 := Aside0.mk (hbox); have GW214 := kG HB hg; have GE214 := kG HB hg; replace HB := kH HB hb; clear hb hbox hg))
 (try simp only [Act.put, List.setIfInBounds_toArray, List.set_cons_zero, List.set_cons_succ])
 go_cut [19] (fun v19 wc => ∃ (kq : Nat) (x19_2 : Bool), v19 = .bool x19_2 ∧ Aside0 (synopticref39_Ranks.j0 kq a0 x19_2 a1_0 a1_1 = some (r1, r2)) ∧ Aside0 (kq ≤ k) ∧ Aside0 (wc.heap[gb214]? = some (.cells #[.int .i64 a1_0, .int .i64 a1_1] 31 (0, 0))) ∧ Aside0 (Below w.heap.size w wc))
 case first =>
  have H := HC3.out
  clear HC3
  by_cases c5 : a0 < 0
  ·rw [if_pos c5] at H
   have c5b0 : decide (a0 < 0) = true := decide_eq_true c5
   clear c5
   (first | rw [c5b0] | (simp only [i64_w, i32_w]; rw [c5b0]) | skip)
   have H' := Aside0.mk H
   clear H
   go_wp2
   go_meet
   case rel => exact ⟨_, (true), (by first | rfl | (simp; done) | (simp [*]; done)), H', ⟨by first | omega | exact Nat.le_refl _⟩, ⟨by (with_reducible repeat (first | refine blk_drewN ?_ _ | refine blk_drew ?_ | refine blk_alloc ?_ _)); exact BK214.out⟩, ⟨by repeat (first | (with_reducible first | exact HB.out | apply below_alloc | apply pw_below_drewN | apply below_drew1 | refine below_set ?_ GE214.out) | exact HB.out)⟩⟩
  ·rw [if_neg c5] at H
   have c5b0 : decide (a0 < 0) = false := decide_eq_false c5
   clear c5
   (first | rw [c5b0] | (simp only [i64_w, i32_w]; rw [c5b0]) | skip)
   by_cases c6 : a0 > 50
   ·rw [if_pos c6] at H
    have c6b0 : decide (50 < a0) = true := decide_eq_true c6
    clear c6
    have H' := Aside0.mk H
    clear H
    go_wp2
    go_meet
    case rel => exact ⟨_, (true), (by first | rfl | (simp; done) | (simp [*]; done)), H', ⟨by first | omega | exact Nat.le_refl _⟩, ⟨by (with_reducible repeat (first | refine blk_drewN ?_ _ | refine blk_drew ?_ | refine blk_alloc ?_ _)); exact BK214.out⟩, ⟨by repeat (first | (with_reducible first | exact HB.out | apply below_alloc | apply pw_below_drewN | apply below_drew1 | refine below_set ?_ GE214.out) | exact HB.out)⟩⟩
   ·rw [if_neg c6] at H
    have c6b0 : decide (50 < a0) = false := decide_eq_false c6
    clear c6
    replace H := Option.bind_eq_some_iff.mp H
    obtain ⟨t215, A70, H⟩ := H
    replace H : (synopticref39_Ranks.j0 k a0 (!t215) a1_0 a1_1) = some (r1, r2) := H
    have A7 := Aside0.mk A70
    clear A70
    have H' := Aside0.mk H
    clear H
    have hcz8_0 : w4.cell? ⟨gb214, 0, none⟩ = some (.int .i64 a1_0) := (blk_cell BK214.out 0).trans rfl
    have hcz8_1 : w4.cell? ⟨gb214, 1, none⟩ = some (.int .i64 a1_1) := (blk_cell BK214.out 1).trans rfl
    have hfz8_0 := blk_frozen BK214.out 0
    have hfz8_1 := blk_frozen BK214.out 1
    go_wp2_with (first | (go_at_call 51; (with_reducible refine (synopticref39_level.calls k a1_0 a1_1 t215 _ A7.out).mono ?_); rintro e w9 ⟨rfl, hb⟩; replace BK214 := kB BK214 hb; replace HB := kH HB hb; (try clear hb); (try clear hb2); (try clear hk); (try clear hi)))
    go_meet
    case rel => exact ⟨_, (!t215), (by first | rfl | (simp; done) | (simp [*]; done)), H', ⟨by first | omega | exact Nat.le_refl _⟩, ⟨by (with_reducible repeat (first | refine blk_drewN ?_ _ | refine blk_drew ?_ | refine blk_alloc ?_ _)); exact BK214.out⟩, ⟨by repeat (first | (with_reducible first | exact HB.out | apply below_alloc | apply pw_below_drewN | apply below_drew1 | refine below_set ?_ GE214.out) | exact HB.out)⟩⟩
 case rest =>
  clear HC3
  (try clear c2); (try clear p2); (try clear c5); (try clear c5b0); (try clear c6); (try clear c6b0); (try clear hcz8_0); (try clear hcz8_1); (try clear hfz8_0); (try clear hfz8_1)
  obtain ⟨kq, x19_2, rfl, HA, HJ2, BK214, HB⟩ := hcut
  cases kq with
  | zero => exact absurd HA.out (by simp [synopticref39_Ranks.j0])
  | succ kj2 =>
   have H := HA.out
   clear HA
   simp only [synopticref39_Ranks.j0] at H
   by_cases c10 : x19_2 = true
   ·subst c10
    have H1 : (some (0, 1)) = some (r1, r2) := by rw [if_pos rfl] at H; exact H
    clear H
    have H := H1
    clear H1
    simp only [Option.some.injEq, Prod.mk.injEq] at H
    obtain ⟨rfl, rfl⟩ := H
    go_wp2
    go_ret2
    exact ⟨by first | rfl | (simp [errW_none, errW_some] <;> rfl) | (simp [*, errW_none, errW_some] <;> rfl), by repeat (first | (with_reducible first | exact HB.out | apply below_alloc | apply pw_below_drewN | apply below_drew1 | refine below_set ?_ GE214.out) | exact HB.out)⟩
   ·replace c10 := Bool.eq_false_iff.mpr c10
    subst c10
    have H1 : (synopticref39_Ranks.l0 kj2 a0 0 a1_0 a1_1) = some (r1, r2) := by rw [if_neg (show ¬ (false = true) by decide)] at H; exact H
    clear H
    have H := H1
    clear H1
    have H' := Aside0.mk H
    clear H
    go_wp2
    go_loopg [6] kj2 (fun kq v6 w' => ∃ (x6_2 : Int), v6 = .int .i64 x6_2 ∧ Aside0 (synopticref39_Ranks.l0 kq a0 x6_2 a1_0 a1_1 = some (r1, r2)) ∧ Aside0 (kq ≤ kj2) ∧ Aside0 (w'.heap[gb214]? = some (.cells #[.int .i64 a1_0, .int .i64 a1_1] 31 (0, 0))) ∧ Aside0 (Below w.heap.size w w'))
    case atStart => exact ⟨(0), (by first | rfl | (simp; done) | (simp [*]; done)), H', ⟨Nat.le_refl _⟩, ⟨by (with_reducible repeat (first | refine blk_drewN ?_ _ | refine blk_drew ?_ | refine blk_alloc ?_ _)); exact BK214.out⟩, ⟨by repeat (first | (with_reducible first | exact HB.out | apply below_alloc | apply pw_below_drewN | apply below_drew1 | refine below_set ?_ GE214.out) | exact HB.out)⟩⟩
    case round =>
     clear H'
     (try clear c1); (try clear c2); (try clear p2); (try clear c5); (try clear c5b0); (try clear c6); (try clear c6b0); (try clear c10); (try clear hcz8_0); (try clear hcz8_1); (try clear hfz8_0); (try clear hfz8_1); (try clear p2)
     obtain ⟨x6_2, rfl, HA, HK2, BK214, HB⟩ := hrel
     cases gk with
     | zero => exact absurd HA.out (by simp [synopticref39_Ranks.l0])
     | succ k2 =>
      have H := HA.out
      clear HA
      simp only [synopticref39_Ranks.l0] at H
      by_cases c11 : x6_2 ≤ a0
      ·rw [if_pos c11] at H
       have c11b0 : decide (x6_2 ≤ a0) = true := decide_eq_true c11
       clear c11
       replace H := Option.bind_eq_some_iff.mp H
       obtain ⟨⟨t216, t217, t218⟩, A120, H⟩ := H
       replace H : ((synopticref38_Compare.f k2 (wrap64 (2 * t216)) t217 (wrap64 (a1_1 - a1_0)) a1_1).bind fun t220 => (if t220 > 0 then (some (x6_2, 0)) else (synopticref39_Ranks.l0 k2 a0 (wrap64 (x6_2 + 1)) a1_0 a1_1))) = some (r1, r2) := H
       have A12 := Aside0.mk A120
       clear A120
       replace H := Option.bind_eq_some_iff.mp H
       obtain ⟨t220, A130, H⟩ := H
       replace H : (if t220 > 0 then (some (x6_2, 0)) else (synopticref39_Ranks.l0 k2 a0 (wrap64 (x6_2 + 1)) a1_0 a1_1)) = some (r1, r2) := H
       have A13 := Aside0.mk A130
       clear A130
       by_cases c14 : t220 > 0
       ·rw [if_pos c14] at H
        have c14b0 : decide (0 < t220) = true := decide_eq_true c14
        clear c14
        simp only [Option.some.injEq, Prod.mk.injEq] at H
        obtain ⟨rfl, rfl⟩ := H
        go_wp2_with (first | ((with_reducible refine gate_callee (f := 26) rfl ?_); refine goesL_ (some 26) rfl rfl Try.func26 (by kernel_rfl) rfl #[.int .i64 a0, .int .i64 x6_2] rfl (by (try simp only [List.map_toArray, List.map_cons, List.map_nil]); first | done | rfl | (simp only [List.length_drop, List.length_take]; rfl)) ?_; (with_reducible refine (synopticref39_Tail.calls k2 a0 x6_2 t216 t217 t218 _ A12.out).mono ?_); rintro e w15 ⟨rfl, hb⟩; refine ⟨_, rfl, ?_⟩; replace BK214 := kB BK214 hb; replace HB := kH HB hb; (try clear hb); (try clear hb2); (try clear hk); (try clear hi)) | ((with_reducible refine gate_dst (N := 7) rfl ?_); refine box_event ?hg (N := 7) ?hd (cs := #[.int .i64 0, .int .i64 0]) (t := 31) ?hr ?_; (case hd => rfl); (case hg => rfl); (case hr => first | (go_simp; done) | (go_simp; rfl)); intro gb219 hg w16 hbox hb; have BK219 := Aside0.mk (hbox); have GW219 := kG HB hg; have GE219 := kG HB hg; have NB214_219 := kN BK214 hg; have NB219_214 := kM BK214 hg; replace BK214 := kB BK214 hb; replace HB := kH HB hb; clear hb hbox hg; have hnb17 := NB219_214.out; have hnc17 := NB214_219.out; have hcz18_0 : w16.cell? ⟨gb219, 0, none⟩ = some (.int .i64 0) := (blk_cell BK219.out 0).trans rfl; have hcz18_1 : w16.cell? ⟨gb219, 1, none⟩ = some (.int .i64 0) := (blk_cell BK219.out 1).trans rfl; have hfz18_0 := blk_frozen BK219.out 0; have hfz18_1 := blk_frozen BK219.out 1) | ((with_reducible refine gate_store (t := 31) (p := 7) rfl ?_); refine store_event (t := 31) (p := 7) (v := ?vo_w19) (w1 := ((w16.setCell ⟨gb219, 0, none⟩ (.int .i64 t216)).setCell ⟨gb219, 1, none⟩ (.int .i64 t217))) ?hg ?ho ?hn ?hr ?_; (case ho => rfl); (case hg => rfl); (case hn => rfl); (case hr => first | (go_simp; done) | (go_simp; rfl)); intro w19 hw; replace BK214 := kF BK214 NB214_219 hw; replace BK219 : Aside0 (w19.heap[gb219]? = some (.cells #[.int .i64 t216, .int .i64 t217] 31 (0, 0))) := ⟨(by rw [hw]; exact (by (with_reducible repeat (first | refine blk_drewN ?_ _ | refine blk_drew ?_ | refine blk_alloc ?_ _)); refine blk_put (cs := #[.int .i64 t216, .int .i64 0]) ?_ 1 _ rfl; (with_reducible repeat (first | refine blk_drewN ?_ _ | refine blk_drew ?_ | refine blk_alloc ?_ _)); refine blk_put (cs := #[.int .i64 0, .int .i64 0]) ?_ 0 _ rfl; (with_reducible repeat (first | refine blk_drewN ?_ _ | refine blk_drew ?_ | refine blk_alloc ?_ _)); exact BK219.out))⟩; replace HB := kFH HB GE219 hw; clear hw; have hcz20_0 : w19.cell? ⟨gb219, 0, none⟩ = some (.int .i64 t216) := (blk_cell BK219.out 0).trans rfl; have hcz20_1 : w19.cell? ⟨gb219, 1, none⟩ = some (.int .i64 t217) := (blk_cell BK219.out 1).trans rfl; have hfz20_0 := blk_frozen BK219.out 0; have hfz20_1 := blk_frozen BK219.out 1; have hcz21_0 : w19.cell? ⟨gb214, 0, none⟩ = some (.int .i64 a1_0) := (blk_cell BK214.out 0).trans rfl; have hcz21_1 : w19.cell? ⟨gb214, 1, none⟩ = some (.int .i64 a1_1) := (blk_cell BK214.out 1).trans rfl; have hfz21_0 := blk_frozen BK214.out 0; have hfz21_1 := blk_frozen BK214.out 1) | ((with_reducible refine gate_callee (f := 52) rfl ?_); refine goesL_ (some 43) rfl rfl Try.func52 (by kernel_rfl) rfl #[.agg #[.int .i64 (wrap64 (2 * t216)), .int .i64 t217], .agg #[.int .i64 (wrap64 (a1_1 - a1_0)), .int .i64 a1_1]] rfl (by (try simp only [List.map_toArray, List.map_cons, List.map_nil]); first | done | rfl | (simp only [List.length_drop, List.length_take]; rfl)) ?_; (with_reducible refine (synopticref38_Compare.calls k2 (wrap64 (2 * t216)) t217 (wrap64 (a1_1 - a1_0)) a1_1 t220 _ A13.out).mono ?_); rintro e w22 ⟨rfl, hb⟩; refine ⟨_, rfl, ?_⟩; replace BK214 := kB BK214 hb; replace BK219 := kB BK219 hb; replace HB := kH HB hb; (try clear hb); (try clear hb2); (try clear hk); (try clear hi)))
        go_ret2
        exact ⟨by first | rfl | (simp [errW_none, errW_some] <;> rfl) | (simp [*, errW_none, errW_some] <;> rfl), by repeat (first | (with_reducible first | exact HB.out | apply below_alloc | apply pw_below_drewN | apply below_drew1 | refine below_set ?_ GE214.out | refine below_set ?_ GE219.out) | exact HB.out)⟩
       ·rw [if_neg c14] at H
        have c14b0 : decide (0 < t220) = false := decide_eq_false c14
        clear c14
        have H' := Aside0.mk H
        clear H
        go_wp2_with (first | ((with_reducible refine gate_callee (f := 26) rfl ?_); refine goesL_ (some 26) rfl rfl Try.func26 (by kernel_rfl) rfl #[.int .i64 a0, .int .i64 x6_2] rfl (by (try simp only [List.map_toArray, List.map_cons, List.map_nil]); first | done | rfl | (simp only [List.length_drop, List.length_take]; rfl)) ?_; (with_reducible refine (synopticref39_Tail.calls k2 a0 x6_2 t216 t217 t218 _ A12.out).mono ?_); rintro e w23 ⟨rfl, hb⟩; refine ⟨_, rfl, ?_⟩; replace BK214 := kB BK214 hb; replace HB := kH HB hb; (try clear hb); (try clear hb2); (try clear hk); (try clear hi)) | ((with_reducible refine gate_dst (N := 7) rfl ?_); refine box_event ?hg (N := 7) ?hd (cs := #[.int .i64 0, .int .i64 0]) (t := 31) ?hr ?_; (case hd => rfl); (case hg => rfl); (case hr => first | (go_simp; done) | (go_simp; rfl)); intro gb219 hg w24 hbox hb; have BK219 := Aside0.mk (hbox); have GW219 := kG HB hg; have GE219 := kG HB hg; have NB214_219 := kN BK214 hg; have NB219_214 := kM BK214 hg; replace BK214 := kB BK214 hb; replace HB := kH HB hb; clear hb hbox hg; have hnb25 := NB219_214.out; have hnc25 := NB214_219.out; have hcz26_0 : w24.cell? ⟨gb219, 0, none⟩ = some (.int .i64 0) := (blk_cell BK219.out 0).trans rfl; have hcz26_1 : w24.cell? ⟨gb219, 1, none⟩ = some (.int .i64 0) := (blk_cell BK219.out 1).trans rfl; have hfz26_0 := blk_frozen BK219.out 0; have hfz26_1 := blk_frozen BK219.out 1) | ((with_reducible refine gate_store (t := 31) (p := 7) rfl ?_); refine store_event (t := 31) (p := 7) (v := ?vo_w27) (w1 := ((w24.setCell ⟨gb219, 0, none⟩ (.int .i64 t216)).setCell ⟨gb219, 1, none⟩ (.int .i64 t217))) ?hg ?ho ?hn ?hr ?_; (case ho => rfl); (case hg => rfl); (case hn => rfl); (case hr => first | (go_simp; done) | (go_simp; rfl)); intro w27 hw; replace BK214 := kF BK214 NB214_219 hw; replace BK219 : Aside0 (w27.heap[gb219]? = some (.cells #[.int .i64 t216, .int .i64 t217] 31 (0, 0))) := ⟨(by rw [hw]; exact (by (with_reducible repeat (first | refine blk_drewN ?_ _ | refine blk_drew ?_ | refine blk_alloc ?_ _)); refine blk_put (cs := #[.int .i64 t216, .int .i64 0]) ?_ 1 _ rfl; (with_reducible repeat (first | refine blk_drewN ?_ _ | refine blk_drew ?_ | refine blk_alloc ?_ _)); refine blk_put (cs := #[.int .i64 0, .int .i64 0]) ?_ 0 _ rfl; (with_reducible repeat (first | refine blk_drewN ?_ _ | refine blk_drew ?_ | refine blk_alloc ?_ _)); exact BK219.out))⟩; replace HB := kFH HB GE219 hw; clear hw; have hcz28_0 : w27.cell? ⟨gb219, 0, none⟩ = some (.int .i64 t216) := (blk_cell BK219.out 0).trans rfl; have hcz28_1 : w27.cell? ⟨gb219, 1, none⟩ = some (.int .i64 t217) := (blk_cell BK219.out 1).trans rfl; have hfz28_0 := blk_frozen BK219.out 0; have hfz28_1 := blk_frozen BK219.out 1; have hcz29_0 : w27.cell? ⟨gb214, 0, none⟩ = some (.int .i64 a1_0) := (blk_cell BK214.out 0).trans rfl; have hcz29_1 : w27.cell? ⟨gb214, 1, none⟩ = some (.int .i64 a1_1) := (blk_cell BK214.out 1).trans rfl; have hfz29_0 := blk_frozen BK214.out 0; have hfz29_1 := blk_frozen BK214.out 1) | ((with_reducible refine gate_callee (f := 52) rfl ?_); refine goesL_ (some 43) rfl rfl Try.func52 (by kernel_rfl) rfl #[.agg #[.int .i64 (wrap64 (2 * t216)), .int .i64 t217], .agg #[.int .i64 (wrap64 (a1_1 - a1_0)), .int .i64 a1_1]] rfl (by (try simp only [List.map_toArray, List.map_cons, List.map_nil]); first | done | rfl | (simp only [List.length_drop, List.length_take]; rfl)) ?_; (with_reducible refine (synopticref38_Compare.calls k2 (wrap64 (2 * t216)) t217 (wrap64 (a1_1 - a1_0)) a1_1 t220 _ A13.out).mono ?_); rintro e w30 ⟨rfl, hb⟩; refine ⟨_, rfl, ?_⟩; replace BK214 := kB BK214 hb; replace BK219 := kB BK219 hb; replace HB := kH HB hb; (try clear hb); (try clear hb2); (try clear hk); (try clear hi)))
        go_roundg k2
        case measure => have := HJ2.out; have := HK2.out; omega
        case rel => exact ⟨(wrap64 (x6_2 + 1)), (by first | rfl | (simp; done) | (simp [*]; done)), H', ⟨by have := HJ2.out; have := HK2.out; omega⟩, ⟨by (with_reducible repeat (first | refine blk_drewN ?_ _ | refine blk_drew ?_ | refine blk_alloc ?_ _)); exact BK214.out⟩, ⟨by repeat (first | (with_reducible first | exact HB.out | apply below_alloc | apply pw_below_drewN | apply below_drew1 | refine below_set ?_ GE214.out | refine below_set ?_ GE219.out) | exact HB.out)⟩⟩
      ·rw [if_neg c11] at H
       have c11b0 : decide (x6_2 ≤ a0) = false := decide_eq_false c11
       clear c11
       simp only [Option.some.injEq, Prod.mk.injEq] at H
       obtain ⟨rfl, rfl⟩ := H
       go_wp2
       go_ret2
       exact ⟨by first | rfl | (simp [errW_none, errW_some] <;> rfl) | (simp [*, errW_none, errW_some] <;> rfl), by repeat (first | (with_reducible first | exact HB.out | apply below_alloc | apply pw_below_drewN | apply below_drew1 | refine below_set ?_ GE214.out) | exact HB.out)⟩

/-! ### synopticref39_Median: function 29 -/
def synopticref39_Median.j0 : Nat → List Int → Bool → Int → Int → Option (Int × Int × Int)
 | 0, _, _, _, _ => none
 | k + 1, x0, x17, x236000, x236001 => if x17 = true then (some (0, 0, 1)) else ((synopticref39_Ranks.f k (x0.length : Int) x236000 x236001).bind fun bt237 => (if bt237.2 = 0 then (if bt237.1 = 0 then (some (0, 0, 9)) else ((synopticref39_sorted.f k x0).bind fun t239 => (if 0 ≤ (wrap64 (bt237.1 - 1)) then (if (wrap64 (bt237.1 - 1)) < (t239.length : Int) then (if 0 ≤ (wrap64 ((t239.length : Int) - bt237.1)) then (if (wrap64 ((t239.length : Int) - bt237.1)) < (t239.length : Int) then (some (rd t239 (wrap64 (bt237.1 - 1)), rd t239 (wrap64 ((t239.length : Int) - bt237.1)), 0)) else (none)) else (none)) else (none)) else (none)))) else (some (0, 0, bt237.2))))
def synopticref39_Median.f (k : Nat) (l0 : List Int) (a1_0 : Int) (a1_1 : Int) : Option (Int × Int × Int) := if (l0.length : Int) > 50 then (synopticref39_Median.j0 k l0 true a1_0 a1_1) else ((synopticref22_Small.f k l0 1000000).bind fun t236 => (synopticref39_Median.j0 k l0 (!t236) a1_0 a1_1))
theorem synopticref39_Median.mono_l : ∀ k, (∀ y0 y1 y2 y3, LeO (synopticref39_Median.j0 k y0 y1 y2 y3) (synopticref39_Median.j0 (k + 1) y0 y1 y2 y3))
 | 0 => fun _ _ _ _ r h => by simp [synopticref39_Median.j0] at h
 | k + 1 => by
  have ih0 := synopticref39_Median.mono_l k
  ·intro y0 y1 y2 y3
   unfold synopticref39_Median.j0
   repeat' first
   | (with_reducible exact ih0 _ _ _ _)
   | (with_reducible exact synopticref22_Small.mono _ _ _)
   | (with_reducible exact synopticref39_Ranks.mono _ _ _ _)
   | (with_reducible exact synopticref39_sorted.mono _ _)
   | (with_reducible exact LeO.refl _)
   | (with_reducible exact LeO.none _)
   | (with_reducible refine LeO.ite ?_ ?_)
   | (with_reducible refine LeO.bind ?_ (fun _ => ?_))
   | exact ih0 _ _ _ _
   | exact synopticref22_Small.mono _ _ _
   | exact synopticref39_Ranks.mono _ _ _ _
   | exact synopticref39_sorted.mono _ _
   | exact LeO.none _
   | refine LeO.ite ?_ ?_
   | refine LeO.bind ?_ (fun _ => ?_)
theorem synopticref39_Median.mono : ∀ a0 a1 a2 k, LeO (synopticref39_Median.f k a0 a1 a2) (synopticref39_Median.f (k + 1) a0 a1 a2) := by
 intro a0 a1 a2 k
 have ih0 := synopticref39_Median.mono_l k
 unfold synopticref39_Median.f
 repeat' first
   | (with_reducible exact ih0 _ _ _ _)
   | (with_reducible exact synopticref22_Small.mono _ _ _)
   | (with_reducible exact synopticref39_Ranks.mono _ _ _ _)
   | (with_reducible exact synopticref39_sorted.mono _ _)
   | (with_reducible exact LeO.refl _)
   | (with_reducible exact LeO.none _)
   | (with_reducible refine LeO.ite ?_ ?_)
   | (with_reducible refine LeO.bind ?_ (fun _ => ?_))
   | exact ih0 _ _ _ _
   | exact synopticref22_Small.mono _ _ _
   | exact synopticref39_Ranks.mono _ _ _ _
   | exact synopticref39_sorted.mono _ _
   | exact LeO.none _
   | refine LeO.ite ?_ ?_
   | refine LeO.bind ?_ (fun _ => ?_)
set_option maxHeartbeats 8000000 in
set_option maxRecDepth 100000 in
theorem synopticref39_Median.calls (k : Nat) (A0 : Option Addr) (c0 : Nat) (l0 : List Int) (a1_0 : Int) (a1_1 : Int) (r1 : Int) (r2 : Int) (r3 : Int) (w : World) (hr0 : Kd.C (Kd.int .i64) w A0 l0.length l0) (hc0 : l0.length ≤ c0) (h : synopticref39_Median.f k l0 a1_0 a1_1 = some (r1, r2, r3)) :
  Calls Try.prog 29 #[.slice A0 l0.length c0, .agg #[.int .i64 a1_0, .int .i64 a1_1]] w fun e w' => e = .returned (.tuple #[.int .i64 r1, .int .i64 r2, .int .i64 r3]) ∧ Below w.heap.size w w' := by
 have hu31 := Try.underlying31
 have HR0 := Aside0.mk hr0
 have HC0 := Aside0.mk hc0
 clear hr0 hc0
 have HB := Aside0.mk (Below.refl w.heap.size w)
 have H : (if (l0.length : Int) > 50 then (synopticref39_Median.j0 k l0 true a1_0 a1_1) else ((synopticref22_Small.f k l0 1000000).bind fun t236 => (synopticref39_Median.j0 k l0 (!t236) a1_0 a1_1))) = some (r1, r2, r3) := h
 clear h
 have HC3 := Aside0.mk H
 clear H
 go_enter Try.func29, Try.ntmps29
 go_upto_region 1 with (first | ((with_reducible refine gate_dst (N := 3) rfl ?_); refine box_event ?hg (N := 3) ?hd (cs := #[.int .i64 a1_0, .int .i64 a1_1]) (t := 31) ?hr ?_; (case hd => rfl); (case hg => rfl); (case hr => first | (go_simp; done) | (go_simp; rfl)); intro gb235 hg w4 hbox hb; have BK235 := Aside0.mk (hbox); have GW235 := kG HB hg; have GE235 := kG HB hg; replace HB := kH HB hb; clear hb hbox hg))
 repeat (go_quiet (first | ((with_reducible refine gate_dst (N := 3) rfl ?_); refine box_event ?hg (N := 3) ?hd (cs := #[.int .i64 a1_0, .int .i64 a1_1]) (t := 31) ?hr ?_; (case hd => rfl); (case hg => rfl); (case hr => first | (go_simp; done) | (go_simp; rfl)); intro gb235 hg w4 hbox hb; have n0_ := Aside0.mk (below_step (by repeat (first | (with_reducible first | exact HB.out | apply below_alloc | apply pw_below_drewN | apply below_drew1) | exact HB.out)) hb); have n1_ := Aside0.mk (hbox); have n2_ := Aside0.mk ((by rw [hg]; exact (below_size (by repeat (first | (with_reducible first | exact HB.out | apply below_alloc | apply pw_below_drewN | apply below_drew1) | exact HB.out))) : w.heap.size ≤ gb235)); have n3_ := Aside0.mk ((by rw [hg]; exact (below_size (by repeat (first | (with_reducible first | exact HB.out | apply below_alloc | apply pw_below_drewN | apply below_drew1) | exact HB.out))) : w.heap.size ≤ gb235)); clear HB; have HB := n0_; have BK235 := n1_; have GW235 := n2_; have GE235 := n3_; clear n0_ n1_ n2_ n3_; clear hb hbox hg)); go_upto_region 1 with (first | ((with_reducible refine gate_dst (N := 3) rfl ?_); refine box_event ?hg (N := 3) ?hd (cs := #[.int .i64 a1_0, .int .i64 a1_1]) (t := 31) ?hr ?_; (case hd => rfl); (case hg => rfl); (case hr => first | (go_simp; done) | (go_simp; rfl)); intro gb235 hg w4 hbox hb; have n0_ := Aside0.mk (below_step (by repeat (first | (with_reducible first | exact HB.out | apply below_alloc | apply pw_below_drewN | apply below_drew1) | exact HB.out)) hb); have n1_ := Aside0.mk (hbox); have n2_ := Aside0.mk ((by rw [hg]; exact (below_size (by repeat (first | (with_reducible first | exact HB.out | apply below_alloc | apply pw_below_drewN | apply below_drew1) | exact HB.out))) : w.heap.size ≤ gb235)); have n3_ := Aside0.mk ((by rw [hg]; exact (below_size (by repeat (first | (with_reducible first | exact HB.out | apply below_alloc | apply pw_below_drewN | apply below_drew1) | exact HB.out))) : w.heap.size ≤ gb235)); clear HB; have HB := n0_; have BK235 := n1_; have GW235 := n2_; have GE235 := n3_; clear n0_ n1_ n2_ n3_; clear hb hbox hg)))
 (try simp only [Act.put, List.setIfInBounds_toArray, List.set_cons_zero, List.set_cons_succ])
 go_cut [17] (fun v17 wc => ∃ (kq : Nat) (x17_2 : Bool), v17 = .bool x17_2 ∧ Aside0 (synopticref39_Median.j0 kq l0 x17_2 a1_0 a1_1 = some (r1, r2, r3)) ∧ Aside0 (kq ≤ k) ∧ Aside0 (wc.heap[gb235]? = some (.cells #[.int .i64 a1_0, .int .i64 a1_1] 31 (0, 0))) ∧ Aside0 (Below w.heap.size w wc))
 case first =>
  have H := HC3.out
  clear HC3
  by_cases c5 : (l0.length : Int) > 50
  ·rw [if_pos c5] at H
   have c5b0 : decide (50 < (l0.length : Int)) = true := decide_eq_true c5
   have c5b1 : decide (50 < l0.length) = true := decide_eq_true (by omega)
   clear c5
   (first | rw [c5b0] | (simp only [i64_w, i32_w]; rw [c5b0]) | skip)
   have H' := Aside0.mk H
   clear H
   go_wp2
   repeat (go_quiet (fail); try go_wp2)
   go_meet
   case rel => exact ⟨_, (true), (by first | rfl | (simp; done) | (simp [*]; done)), H', ⟨by first | omega | exact Nat.le_refl _⟩, ⟨by (with_reducible repeat (first | refine blk_drewN ?_ _ | refine blk_drew ?_ | refine blk_alloc ?_ _)); exact BK235.out⟩, ⟨by repeat (first | (with_reducible first | exact HB.out | apply below_alloc | apply pw_below_drewN | apply below_drew1 | refine below_set ?_ GE235.out) | exact HB.out)⟩⟩
  ·rw [if_neg c5] at H
   have c5b0 : decide (50 < (l0.length : Int)) = false := decide_eq_false c5
   have c5b1 : decide (50 < l0.length) = false := decide_eq_false (by omega)
   clear c5
   (first | rw [c5b0] | (simp only [i64_w, i32_w]; rw [c5b0]) | skip)
   replace H := Option.bind_eq_some_iff.mp H
   obtain ⟨t236, A60, H⟩ := H
   replace H : (synopticref39_Median.j0 k l0 (!t236) a1_0 a1_1) = some (r1, r2, r3) := H
   have A6 := Aside0.mk A60
   clear A60
   have H' := Aside0.mk H
   clear H
   go_wp2_with (first | (go_at_call 39; (with_reducible refine (synopticref22_Small.calls k _ _ l0 1000000 t236 _ ?side1 ?side2 A6.out).mono ?_); (case side1 => repeat (first | exact (Kd.C_below HR0.out HB.out) | (with_reducible refine Kd.C_alloc ?_ _) | (with_reducible refine Kd.C_drewN ?_ _) | (with_reducible refine Kd.C_drew ?_))); (case side2 => exact HC0.out); rintro e w' ⟨rfl, ⟨nd, rfl⟩⟩; (try first | exact ⟨rfl, _, World.drewN_drewN _ _ _⟩ | exact ⟨rfl, _, Eq.trans (World.drewN_drewN _ _ _) (congrArg (World.drewN _) (Nat.add_assoc _ _ _))⟩)))
   repeat (go_quiet (first | (go_at_call 39; (with_reducible refine (synopticref22_Small.calls k _ _ l0 1000000 t236 _ ?side1 ?side2 A6.out).mono ?_); (case side1 => repeat (first | exact (Kd.C_below HR0.out HB.out) | (with_reducible refine Kd.C_alloc ?_ _) | (with_reducible refine Kd.C_drewN ?_ _) | (with_reducible refine Kd.C_drew ?_))); (case side2 => exact HC0.out); rintro e w' ⟨rfl, ⟨nd, rfl⟩⟩; (try first | exact ⟨rfl, _, World.drewN_drewN _ _ _⟩ | exact ⟨rfl, _, Eq.trans (World.drewN_drewN _ _ _) (congrArg (World.drewN _) (Nat.add_assoc _ _ _))⟩))); try go_wp2_with (first | (go_at_call 39; (with_reducible refine (synopticref22_Small.calls k _ _ l0 1000000 t236 _ ?side1 ?side2 A6.out).mono ?_); (case side1 => repeat (first | exact (Kd.C_below HR0.out HB.out) | (with_reducible refine Kd.C_alloc ?_ _) | (with_reducible refine Kd.C_drewN ?_ _) | (with_reducible refine Kd.C_drew ?_))); (case side2 => exact HC0.out); rintro e w' ⟨rfl, ⟨nd, rfl⟩⟩; (try first | exact ⟨rfl, _, World.drewN_drewN _ _ _⟩ | exact ⟨rfl, _, Eq.trans (World.drewN_drewN _ _ _) (congrArg (World.drewN _) (Nat.add_assoc _ _ _))⟩))))
   go_meet
   case rel => exact ⟨_, (!t236), (by first | rfl | (simp; done) | (simp [*]; done)), H', ⟨by first | omega | exact Nat.le_refl _⟩, ⟨by (with_reducible repeat (first | refine blk_drewN ?_ _ | refine blk_drew ?_ | refine blk_alloc ?_ _)); exact BK235.out⟩, ⟨by repeat (first | (with_reducible first | exact HB.out | apply below_alloc | apply pw_below_drewN | apply below_drew1 | refine below_set ?_ GE235.out) | exact HB.out)⟩⟩
 case rest =>
  clear HC3
  (try clear c2); (try clear p2); (try clear c5); (try clear c5b0); (try clear c5b1)
  obtain ⟨kq, x17_2, rfl, HA, HJ2, BK235, HB⟩ := hcut
  cases kq with
  | zero => exact absurd HA.out (by simp [synopticref39_Median.j0])
  | succ kj2 =>
   have H := HA.out
   clear HA
   simp only [synopticref39_Median.j0] at H
   by_cases c7 : x17_2 = true
   ·subst c7
    have H1 : (some (0, 0, 1)) = some (r1, r2, r3) := by rw [if_pos rfl] at H; exact H
    clear H
    have H := H1
    clear H1
    simp only [Option.some.injEq, Prod.mk.injEq] at H
    obtain ⟨rfl, rfl, rfl⟩ := H
    go_wp2
    repeat (go_quiet (fail); try go_wp2)
    go_ret3
    exact ⟨by first | rfl | (simp [errW_none, errW_some] <;> rfl) | (simp [*, errW_none, errW_some] <;> rfl), by repeat (first | (with_reducible first | exact HB.out | apply below_alloc | apply pw_below_drewN | apply below_drew1 | refine below_set ?_ GE235.out) | exact HB.out)⟩
   ·replace c7 := Bool.eq_false_iff.mpr c7
    subst c7
    have H1 : ((synopticref39_Ranks.f kj2 (l0.length : Int) a1_0 a1_1).bind fun bt237 => (if bt237.2 = 0 then (if bt237.1 = 0 then (some (0, 0, 9)) else ((synopticref39_sorted.f kj2 l0).bind fun t239 => (if 0 ≤ (wrap64 (bt237.1 - 1)) then (if (wrap64 (bt237.1 - 1)) < (t239.length : Int) then (if 0 ≤ (wrap64 ((t239.length : Int) - bt237.1)) then (if (wrap64 ((t239.length : Int) - bt237.1)) < (t239.length : Int) then (some (rd t239 (wrap64 (bt237.1 - 1)), rd t239 (wrap64 ((t239.length : Int) - bt237.1)), 0)) else (none)) else (none)) else (none)) else (none)))) else (some (0, 0, bt237.2)))) = some (r1, r2, r3) := by rw [if_neg (show ¬ (false = true) by decide)] at H; exact H
    clear H
    have H := H1
    clear H1
    replace H := Option.bind_eq_some_iff.mp H
    obtain ⟨⟨t237, t238⟩, A80, H⟩ := H
    replace H : (if t238 = 0 then (if t237 = 0 then (some (0, 0, 9)) else ((synopticref39_sorted.f kj2 l0).bind fun t239 => (if 0 ≤ (wrap64 (t237 - 1)) then (if (wrap64 (t237 - 1)) < (t239.length : Int) then (if 0 ≤ (wrap64 ((t239.length : Int) - t237)) then (if (wrap64 ((t239.length : Int) - t237)) < (t239.length : Int) then (some (rd t239 (wrap64 (t237 - 1)), rd t239 (wrap64 ((t239.length : Int) - t237)), 0)) else (none)) else (none)) else (none)) else (none)))) else (some (0, 0, t238))) = some (r1, r2, r3) := H
    have A8 := Aside0.mk A80
    clear A80
    by_cases c9 : t238 = 0
    ·rw [if_pos c9] at H
     have c9b0 : (t238 == 0) = true := beq_iff_eq.mpr c9
     have c9b1 : (t238 != 0) = false := bne_eq_false_iff_eq.mpr c9
     clear c9
     by_cases c10 : t237 = 0
     ·rw [if_pos c10] at H
      have c10b0 : (t237 == 0) = true := beq_iff_eq.mpr c10
      have c10b1 : (t237 != 0) = false := bne_eq_false_iff_eq.mpr c10
      clear c10
      simp only [Option.some.injEq, Prod.mk.injEq] at H
      obtain ⟨rfl, rfl, rfl⟩ := H
      have hcz11_0 : wc.cell? ⟨gb235, 0, none⟩ = some (.int .i64 a1_0) := (blk_cell BK235.out 0).trans rfl
      have hcz11_1 : wc.cell? ⟨gb235, 1, none⟩ = some (.int .i64 a1_1) := (blk_cell BK235.out 1).trans rfl
      have hfz11_0 := blk_frozen BK235.out 0
      have hfz11_1 := blk_frozen BK235.out 1
      go_wp2_with (first | (go_at_call 28; (with_reducible refine (synopticref39_Ranks.calls kj2 (l0.length : Int) a1_0 a1_1 t237 t238 _ A8.out).mono ?_); rintro e w12 ⟨rfl, hb⟩; replace BK235 := kB BK235 hb; replace HB := kH HB hb; (try clear hb); (try clear hb2); (try clear hk); (try clear hi)))
      repeat (go_quiet (first | (go_at_call 28; (with_reducible refine (synopticref39_Ranks.calls kj2 (l0.length : Int) a1_0 a1_1 t237 t238 _ A8.out).mono ?_); rintro e w12 ⟨rfl, hb⟩; have n0_ := Aside0.mk (blk_below (g := gb235) (o := .cells #[.int .i64 a1_0, .int .i64 a1_1] 31 (0, 0)) (by (with_reducible repeat (first | refine blk_drewN ?_ _ | refine blk_drew ?_ | refine blk_alloc ?_ _)); exact BK235.out) hb); have n1_ := Aside0.mk (below_step (by repeat (first | (with_reducible first | exact HB.out | apply below_alloc | apply pw_below_drewN | apply below_drew1 | refine below_set ?_ GE235.out) | exact HB.out)) hb); clear BK235; clear HB; have BK235 := n0_; have HB := n1_; clear n0_ n1_; (try clear hb); (try clear hb2); (try clear hk); (try clear hi))); try go_wp2_with (first | (go_at_call 28; (with_reducible refine (synopticref39_Ranks.calls kj2 (l0.length : Int) a1_0 a1_1 t237 t238 _ A8.out).mono ?_); rintro e w12 ⟨rfl, hb⟩; have n0_ := Aside0.mk (blk_below (g := gb235) (o := .cells #[.int .i64 a1_0, .int .i64 a1_1] 31 (0, 0)) (by (with_reducible repeat (first | refine blk_drewN ?_ _ | refine blk_drew ?_ | refine blk_alloc ?_ _)); exact BK235.out) hb); have n1_ := Aside0.mk (below_step (by repeat (first | (with_reducible first | exact HB.out | apply below_alloc | apply pw_below_drewN | apply below_drew1 | refine below_set ?_ GE235.out) | exact HB.out)) hb); clear BK235; clear HB; have BK235 := n0_; have HB := n1_; clear n0_ n1_; (try clear hb); (try clear hb2); (try clear hk); (try clear hi))))
      go_ret3
      exact ⟨by first | rfl | (simp [errW_none, errW_some] <;> rfl) | (simp [*, errW_none, errW_some] <;> rfl), by repeat (first | (with_reducible first | exact HB.out | apply below_alloc | apply pw_below_drewN | apply below_drew1 | refine below_set ?_ GE235.out) | exact HB.out)⟩
     ·rw [if_neg c10] at H
      have c10b0 : (t237 == 0) = false := beq_eq_false_iff_ne.mpr c10
      have c10b1 : (t237 != 0) = true := bne_iff_ne.mpr c10
      replace H := Option.bind_eq_some_iff.mp H
      obtain ⟨t239, A130, H⟩ := H
      replace H : (if 0 ≤ (wrap64 (t237 - 1)) then (if (wrap64 (t237 - 1)) < (t239.length : Int) then (if 0 ≤ (wrap64 ((t239.length : Int) - t237)) then (if (wrap64 ((t239.length : Int) - t237)) < (t239.length : Int) then (some (rd t239 (wrap64 (t237 - 1)), rd t239 (wrap64 ((t239.length : Int) - t237)), 0)) else (none)) else (none)) else (none)) else (none)) = some (r1, r2, r3) := H
      have A13 := Aside0.mk A130
      clear A130
      obtain ⟨ji14, hji14⟩ : ∃ j_ : Int, (wrap64 (t237 - 1)) = j_ := ⟨_, rfl⟩
      replace H : (if 0 ≤ (ji14) then (if (ji14) < (t239.length : Int) then (if 0 ≤ (wrap64 ((t239.length : Int) - t237)) then (if (wrap64 ((t239.length : Int) - t237)) < (t239.length : Int) then (some (rd t239 (ji14), rd t239 (wrap64 ((t239.length : Int) - t237)), 0)) else (none)) else (none)) else (none)) else (none)) = some (r1, r2, r3) := by first | (rw [hji14] at H; exact H) | (simp only [hji14] at H ⊢; exact H)
      (try rw [hji14] at A8)
      (try rw [hji14] at A13)
      have hji14w : (IntKind.i64.wrap (t237 - 1)) = ji14 := (i64_w _).trans hji14
      by_cases c15 : 0 ≤ (ji14)
      ·rw [if_pos c15] at H
       have c15b0 : decide (0 ≤ (ji14)) = true := decide_eq_true c15
       clear c15
       by_cases c16 : (ji14) < (t239.length : Int)
       ·rw [if_pos c16] at H
        have c16b0 : decide ((ji14) < (t239.length : Int)) = true := decide_eq_true c16
        clear c16
        obtain ⟨ji17, hji17⟩ : ∃ j_ : Int, (wrap64 ((t239.length : Int) - t237)) = j_ := ⟨_, rfl⟩
        replace H : (if 0 ≤ (ji17) then (if (ji17) < (t239.length : Int) then (some (rd t239 (ji14), rd t239 (ji17), 0)) else (none)) else (none)) = some (r1, r2, r3) := by first | (rw [hji17] at H; exact H) | (simp only [hji17] at H ⊢; exact H)
        (try rw [hji17] at A8)
        (try rw [hji17] at A13)
        have hji17w : (IntKind.i64.wrap ((t239.length : Int) - t237)) = ji17 := (i64_w _).trans hji17
        by_cases c18 : 0 ≤ (ji17)
        ·rw [if_pos c18] at H
         have c18b0 : decide (0 ≤ (ji17)) = true := decide_eq_true c18
         clear c18
         by_cases c19 : (ji17) < (t239.length : Int)
         ·rw [if_pos c19] at H
          have c19b0 : decide ((ji17) < (t239.length : Int)) = true := decide_eq_true c19
          clear c19
          simp only [Option.some.injEq, Prod.mk.injEq] at H
          obtain ⟨rfl, rfl, rfl⟩ := H
          have hcz20_0 : wc.cell? ⟨gb235, 0, none⟩ = some (.int .i64 a1_0) := (blk_cell BK235.out 0).trans rfl
          have hcz20_1 : wc.cell? ⟨gb235, 1, none⟩ = some (.int .i64 a1_1) := (blk_cell BK235.out 1).trans rfl
          have hfz20_0 := blk_frozen BK235.out 0
          have hfz20_1 := blk_frozen BK235.out 1
          go_wp2_with (first | (go_at_call 28; (with_reducible refine (synopticref39_Ranks.calls kj2 (l0.length : Int) a1_0 a1_1 t237 t238 _ A8.out).mono ?_); rintro e w21 ⟨rfl, hb⟩; replace BK235 := kB BK235 hb; replace HB := kH HB hb; (try clear hb); (try clear hb2); (try clear hk); (try clear hi)) | (go_at_call 53; (with_reducible refine (synopticref39_sorted.calls kj2 _ _ l0 t239 _ ?side1 ?side2 A13.out).mono ?_); (case side1 => repeat (first | exact (Kd.C_below HR0.out HB.out) | (with_reducible refine Kd.C_alloc ?_ _) | (with_reducible refine Kd.C_drewN ?_ _) | (with_reducible refine Kd.C_drew ?_))); (case side2 => exact HC0.out); rintro e w22 ⟨v240, rfl, ho0, hb⟩; have HO241 := Aside0.mk (Kd.R_lower ho0 (below_size (by repeat (first | (with_reducible first | exact HB.out | apply below_alloc | apply pw_below_drewN | apply below_drew1 | refine below_set ?_ GE235.out) | exact HB.out)))); replace BK235 := kB BK235 hb; replace HB := kH HB hb; (try clear hb); (try clear hb2); (try clear hk); (try clear hi); (try clear ho0); obtain ⟨Ao23, co23, eo23⟩ := Kd.R_slice HO241.out; subst eo23; have p242 : 0 ≤ ((ji14) : Int) := of_decide_eq_true (by first | (with_reducible assumption) | assumption); have q242 : (ji14) < (t239.length : Int) := of_decide_eq_true (by first | (with_reducible assumption) | assumption); obtain ⟨ad242, e242, hx242_0⟩ := Kd.at_int (Kd.R_reads' HO241.out).2.2 (ji14) p242 q242; cases e242; replace p242 := eq_true p242; replace q242 := eq_true q242; have p243 : 0 ≤ ((ji17) : Int) := of_decide_eq_true (by first | (with_reducible assumption) | assumption); have q243 : (ji17) < (t239.length : Int) := of_decide_eq_true (by first | (with_reducible assumption) | assumption); obtain ⟨ad243, e243, hx243_0⟩ := Kd.at_int (Kd.R_reads' HO241.out).2.2 (ji17) p243 q243; obtain rfl : ad242 = ad243 := (by injection e243); replace p243 := eq_true p243; replace q243 := eq_true q243))
          repeat (go_quiet (first | (go_at_call 28; (with_reducible refine (synopticref39_Ranks.calls kj2 (l0.length : Int) a1_0 a1_1 t237 t238 _ A8.out).mono ?_); rintro e w21 ⟨rfl, hb⟩; have n0_ := Aside0.mk (blk_below (g := gb235) (o := .cells #[.int .i64 a1_0, .int .i64 a1_1] 31 (0, 0)) (by (with_reducible repeat (first | refine blk_drewN ?_ _ | refine blk_drew ?_ | refine blk_alloc ?_ _)); exact BK235.out) hb); have n1_ := Aside0.mk (below_step (by repeat (first | (with_reducible first | exact HB.out | apply below_alloc | apply pw_below_drewN | apply below_drew1 | refine below_set ?_ GE235.out) | exact HB.out)) hb); clear BK235; clear HB; have BK235 := n0_; have HB := n1_; clear n0_ n1_; (try clear hb); (try clear hb2); (try clear hk); (try clear hi)) | (go_at_call 53; (with_reducible refine (synopticref39_sorted.calls kj2 _ _ l0 t239 _ ?side1 ?side2 A13.out).mono ?_); (case side1 => repeat (first | exact (Kd.C_below HR0.out HB.out) | (with_reducible refine Kd.C_alloc ?_ _) | (with_reducible refine Kd.C_drewN ?_ _) | (with_reducible refine Kd.C_drew ?_))); (case side2 => exact HC0.out); rintro e w22 ⟨v240, rfl, ho0, hb⟩; have n0_ := Aside0.mk (Kd.R_lower ho0 (below_size (by repeat (first | (with_reducible first | exact HB.out | apply below_alloc | apply pw_below_drewN | apply below_drew1 | refine below_set ?_ GE235.out) | exact HB.out)))); have n1_ := Aside0.mk (blk_below (g := gb235) (o := .cells #[.int .i64 a1_0, .int .i64 a1_1] 31 (0, 0)) (by (with_reducible repeat (first | refine blk_drewN ?_ _ | refine blk_drew ?_ | refine blk_alloc ?_ _)); exact BK235.out) hb); have n2_ := Aside0.mk (below_step (by repeat (first | (with_reducible first | exact HB.out | apply below_alloc | apply pw_below_drewN | apply below_drew1 | refine below_set ?_ GE235.out) | exact HB.out)) hb); clear BK235; clear HB; have HO241 := n0_; have BK235 := n1_; have HB := n2_; clear n0_ n1_ n2_; (try clear hb); (try clear hb2); (try clear hk); (try clear hi); (try clear ho0); obtain ⟨Ao23, co23, eo23⟩ := Kd.R_slice HO241.out; subst eo23; have p242 : 0 ≤ ((ji14) : Int) := of_decide_eq_true (by first | (with_reducible assumption) | assumption); have q242 : (ji14) < (t239.length : Int) := of_decide_eq_true (by first | (with_reducible assumption) | assumption); obtain ⟨ad242, e242, hx242_0⟩ := Kd.at_int (Kd.R_reads' HO241.out).2.2 (ji14) p242 q242; cases e242; replace p242 := eq_true p242; replace q242 := eq_true q242; have p243 : 0 ≤ ((ji17) : Int) := of_decide_eq_true (by first | (with_reducible assumption) | assumption); have q243 : (ji17) < (t239.length : Int) := of_decide_eq_true (by first | (with_reducible assumption) | assumption); obtain ⟨ad243, e243, hx243_0⟩ := Kd.at_int (Kd.R_reads' HO241.out).2.2 (ji17) p243 q243; obtain rfl : ad242 = ad243 := (by injection e243); replace p243 := eq_true p243; replace q243 := eq_true q243)); try go_wp2_with (first | (go_at_call 28; (with_reducible refine (synopticref39_Ranks.calls kj2 (l0.length : Int) a1_0 a1_1 t237 t238 _ A8.out).mono ?_); rintro e w21 ⟨rfl, hb⟩; have n0_ := Aside0.mk (blk_below (g := gb235) (o := .cells #[.int .i64 a1_0, .int .i64 a1_1] 31 (0, 0)) (by (with_reducible repeat (first | refine blk_drewN ?_ _ | refine blk_drew ?_ | refine blk_alloc ?_ _)); exact BK235.out) hb); have n1_ := Aside0.mk (below_step (by repeat (first | (with_reducible first | exact HB.out | apply below_alloc | apply pw_below_drewN | apply below_drew1 | refine below_set ?_ GE235.out) | exact HB.out)) hb); clear BK235; clear HB; have BK235 := n0_; have HB := n1_; clear n0_ n1_; (try clear hb); (try clear hb2); (try clear hk); (try clear hi)) | (go_at_call 53; (with_reducible refine (synopticref39_sorted.calls kj2 _ _ l0 t239 _ ?side1 ?side2 A13.out).mono ?_); (case side1 => repeat (first | exact (Kd.C_below HR0.out HB.out) | (with_reducible refine Kd.C_alloc ?_ _) | (with_reducible refine Kd.C_drewN ?_ _) | (with_reducible refine Kd.C_drew ?_))); (case side2 => exact HC0.out); rintro e w22 ⟨v240, rfl, ho0, hb⟩; have n0_ := Aside0.mk (Kd.R_lower ho0 (below_size (by repeat (first | (with_reducible first | exact HB.out | apply below_alloc | apply pw_below_drewN | apply below_drew1 | refine below_set ?_ GE235.out) | exact HB.out)))); have n1_ := Aside0.mk (blk_below (g := gb235) (o := .cells #[.int .i64 a1_0, .int .i64 a1_1] 31 (0, 0)) (by (with_reducible repeat (first | refine blk_drewN ?_ _ | refine blk_drew ?_ | refine blk_alloc ?_ _)); exact BK235.out) hb); have n2_ := Aside0.mk (below_step (by repeat (first | (with_reducible first | exact HB.out | apply below_alloc | apply pw_below_drewN | apply below_drew1 | refine below_set ?_ GE235.out) | exact HB.out)) hb); clear BK235; clear HB; have HO241 := n0_; have BK235 := n1_; have HB := n2_; clear n0_ n1_ n2_; (try clear hb); (try clear hb2); (try clear hk); (try clear hi); (try clear ho0); obtain ⟨Ao23, co23, eo23⟩ := Kd.R_slice HO241.out; subst eo23; have p242 : 0 ≤ ((ji14) : Int) := of_decide_eq_true (by first | (with_reducible assumption) | assumption); have q242 : (ji14) < (t239.length : Int) := of_decide_eq_true (by first | (with_reducible assumption) | assumption); obtain ⟨ad242, e242, hx242_0⟩ := Kd.at_int (Kd.R_reads' HO241.out).2.2 (ji14) p242 q242; cases e242; replace p242 := eq_true p242; replace q242 := eq_true q242; have p243 : 0 ≤ ((ji17) : Int) := of_decide_eq_true (by first | (with_reducible assumption) | assumption); have q243 : (ji17) < (t239.length : Int) := of_decide_eq_true (by first | (with_reducible assumption) | assumption); obtain ⟨ad243, e243, hx243_0⟩ := Kd.at_int (Kd.R_reads' HO241.out).2.2 (ji17) p243 q243; obtain rfl : ad242 = ad243 := (by injection e243); replace p243 := eq_true p243; replace q243 := eq_true q243)))
          go_ret3
          exact ⟨by first | rfl | (simp [errW_none, errW_some] <;> rfl) | (simp only [← hji14, ← hji17]; first | rfl | (simp [errW_none, errW_some] <;> rfl)) | (simp [*, errW_none, errW_some] <;> rfl), by repeat (first | (with_reducible first | exact HB.out | apply below_alloc | apply pw_below_drewN | apply below_drew1 | refine below_set ?_ GE235.out) | exact HB.out)⟩
         ·rw [if_neg c19] at H
          exact absurd H (by simp)
        ·rw [if_neg c18] at H
         exact absurd H (by simp)
       ·rw [if_neg c16] at H
        exact absurd H (by simp)
      ·rw [if_neg c15] at H
       exact absurd H (by simp)
    ·rw [if_neg c9] at H
     have c9b0 : (t238 == 0) = false := beq_eq_false_iff_ne.mpr c9
     have c9b1 : (t238 != 0) = true := bne_iff_ne.mpr c9
     simp only [Option.some.injEq, Prod.mk.injEq] at H
     obtain ⟨rfl, rfl, rfl⟩ := H
     have hcz24_0 : wc.cell? ⟨gb235, 0, none⟩ = some (.int .i64 a1_0) := (blk_cell BK235.out 0).trans rfl
     have hcz24_1 : wc.cell? ⟨gb235, 1, none⟩ = some (.int .i64 a1_1) := (blk_cell BK235.out 1).trans rfl
     have hfz24_0 := blk_frozen BK235.out 0
     have hfz24_1 := blk_frozen BK235.out 1
     go_wp2_with (first | (go_at_call 28; (with_reducible refine (synopticref39_Ranks.calls kj2 (l0.length : Int) a1_0 a1_1 t237 t238 _ A8.out).mono ?_); rintro e w25 ⟨rfl, hb⟩; replace BK235 := kB BK235 hb; replace HB := kH HB hb; (try clear hb); (try clear hb2); (try clear hk); (try clear hi)))
     repeat (go_quiet (first | (go_at_call 28; (with_reducible refine (synopticref39_Ranks.calls kj2 (l0.length : Int) a1_0 a1_1 t237 t238 _ A8.out).mono ?_); rintro e w25 ⟨rfl, hb⟩; have n0_ := Aside0.mk (blk_below (g := gb235) (o := .cells #[.int .i64 a1_0, .int .i64 a1_1] 31 (0, 0)) (by (with_reducible repeat (first | refine blk_drewN ?_ _ | refine blk_drew ?_ | refine blk_alloc ?_ _)); exact BK235.out) hb); have n1_ := Aside0.mk (below_step (by repeat (first | (with_reducible first | exact HB.out | apply below_alloc | apply pw_below_drewN | apply below_drew1 | refine below_set ?_ GE235.out) | exact HB.out)) hb); clear BK235; clear HB; have BK235 := n0_; have HB := n1_; clear n0_ n1_; (try clear hb); (try clear hb2); (try clear hk); (try clear hi))); try go_wp2_with (first | (go_at_call 28; (with_reducible refine (synopticref39_Ranks.calls kj2 (l0.length : Int) a1_0 a1_1 t237 t238 _ A8.out).mono ?_); rintro e w25 ⟨rfl, hb⟩; have n0_ := Aside0.mk (blk_below (g := gb235) (o := .cells #[.int .i64 a1_0, .int .i64 a1_1] 31 (0, 0)) (by (with_reducible repeat (first | refine blk_drewN ?_ _ | refine blk_drew ?_ | refine blk_alloc ?_ _)); exact BK235.out) hb); have n1_ := Aside0.mk (below_step (by repeat (first | (with_reducible first | exact HB.out | apply below_alloc | apply pw_below_drewN | apply below_drew1 | refine below_set ?_ GE235.out) | exact HB.out)) hb); clear BK235; clear HB; have BK235 := n0_; have HB := n1_; clear n0_ n1_; (try clear hb); (try clear hb2); (try clear hk); (try clear hi))))
     go_ret3
     exact ⟨by first | rfl | (simp [errW_none, errW_some] <;> rfl) | (simp [*, errW_none, errW_some] <;> rfl), by repeat (first | (with_reducible first | exact HB.out | apply below_alloc | apply pw_below_drewN | apply below_drew1 | refine below_set ?_ GE235.out) | exact HB.out)⟩

end Go.Proofs.Ytcgjgpdandjicaa.B
