/- The fraction of a table's fields, as the reference computes it: a field out of range gives ErrRange, the denominator 0 ErrNone, else the reduced fraction. -/
import Derived.Test.YtbnjbdjjedndbaaOf
namespace Go.Proofs.Ytbnjbdjjedndbaa.B
open Go.RowKit Go.Proofs.YtbnjbdjjedndbaaW.PrintWords Go.Proofs.YtbnjbdjjedndbaaW.PrintLast Go.Proofs.YtbnjbdjjedndbaaW.PrintMore
set_option linter.unusedVariables false
set_option linter.unusedSimpArgs false

theorem RefReduce_is (a b r1 r2 r3 : Int) (h : red a b = (r1, r2, r3)) (w : World) : Calls Try.prog 37 #[.int .i64 a, .int .i64 b] w fun e w' => e = .returned (.tuple #[.agg #[.int .i64 r1, .int .i64 r2], .int .i64 r3]) ∧ Below w.heap.size w w' := by
  have := RefReduce_any a b w
  rwa [h] at this
theorem inr_yes {x : Int} (h : inr x = true) : 0 ≤ x ∧ x ≤ 10000 := of_decide_eq_true h
theorem inr_no {x : Int} (h : inr x = false) : x < 0 ∨ 10000 < x := by
  have := of_decide_eq_false h
  omega

set_option maxHeartbeats 1000000 in
theorem ratio_in0 (h a m o num den : Int) (w : World) (h0 : 0 ≤ h) (k0 : h ≤ 10000) (h1 : 0 ≤ a) (k1 : a ≤ 10000) (h2 : 0 ≤ m) (k2 : m ≤ 10000) (h3 : 0 ≤ o) (k3 : o ≤ 10000) (r1 r2 r3 : Int) (hd : (den == 0) = true) (hr : ((0 : Int), (0 : Int), (9 : Int)) = (r1, r2, r3)) :
    Calls Try.prog 41 #[.agg #[.int .i64 h, .int .i64 a, .int .i64 m, .int .i64 o], .int .i64 num, .int .i64 den] w fun e w' => e = .returned (.tuple #[.agg #[.int .i64 r1, .int .i64 r2], .int .i64 r3]) ∧ Below w.heap.size w w' := by
  simp only [Prod.mk.injEq] at hr
  obtain ⟨rfl, rfl, rfl⟩ := hr
  have i0 : ∀ w, (Instr.index 85 (.agg #[.int .i64 h, .int .i64 a, .int .i64 m, .int .i64 o]) (.int .i64 0)).run Try.prog w = .ok (.int .i64 h) w := fun _ => by kernel_rfl
  have i1 : ∀ w, (Instr.index 85 (.agg #[.int .i64 h, .int .i64 a, .int .i64 m, .int .i64 o]) (.int .i64 1)).run Try.prog w = .ok (.int .i64 a) w := fun _ => by kernel_rfl
  have i2 : ∀ w, (Instr.index 85 (.agg #[.int .i64 h, .int .i64 a, .int .i64 m, .int .i64 o]) (.int .i64 2)).run Try.prog w = .ok (.int .i64 m) w := fun _ => by kernel_rfl
  have i3 : ∀ w, (Instr.index 85 (.agg #[.int .i64 h, .int .i64 a, .int .i64 m, .int .i64 o]) (.int .i64 3)).run Try.prog w = .ok (.int .i64 o) w := fun _ => by kernel_rfl
  go_enter Try.func41, Try.ntmps41
  go_wp2_with fail
  refine wp_loop_rounds 5 ?_
  iterate 5 (rw [rounds_succ]; go_wp2_with fail)
  refine bodyPost_ret (results_ct rfl _ _ (w.heap.size + 1) 28 #[.int .i64 (0), .int .i64 (0)] (0, 0) _ rfl (by repeat (first | exact blk_second _ _ _ | refine blk_alloc ?_ _ | refine blk_drewN ?_ _ | refine blk_drew ?_ | refine blk_put (cs := #[.int .i64 (0), .int .i64 0]) ?_ 1 _ rfl | refine blk_put (cs := #[.int .i64 0, .int .i64 0]) ?_ 0 _ rfl)) Try.underlying28 rfl (by kernel_rfl)) rfl ?_
  exact ⟨rfl, by repeat (first | exact Below.refl _ _ | exact Below.refl _ _ | apply below_alloc | apply pw_below_drewN | apply below_drew | refine below_set ?_ (by omega))⟩

set_option maxHeartbeats 1000000 in
theorem ratio_in1 (h a m o num den : Int) (w : World) (h0 : 0 ≤ h) (k0 : h ≤ 10000) (h1 : 0 ≤ a) (k1 : a ≤ 10000) (h2 : 0 ≤ m) (k2 : m ≤ 10000) (h3 : 0 ≤ o) (k3 : o ≤ 10000) (r1 r2 r3 : Int) (hd : (den == 0) = false) (hr : red num den = (r1, r2, r3)) :
    Calls Try.prog 41 #[.agg #[.int .i64 h, .int .i64 a, .int .i64 m, .int .i64 o], .int .i64 num, .int .i64 den] w fun e w' => e = .returned (.tuple #[.agg #[.int .i64 r1, .int .i64 r2], .int .i64 r3]) ∧ Below w.heap.size w w' := by
  have HR := Aside0.mk hr
  clear hr
  have i0 : ∀ w, (Instr.index 85 (.agg #[.int .i64 h, .int .i64 a, .int .i64 m, .int .i64 o]) (.int .i64 0)).run Try.prog w = .ok (.int .i64 h) w := fun _ => by kernel_rfl
  have i1 : ∀ w, (Instr.index 85 (.agg #[.int .i64 h, .int .i64 a, .int .i64 m, .int .i64 o]) (.int .i64 1)).run Try.prog w = .ok (.int .i64 a) w := fun _ => by kernel_rfl
  have i2 : ∀ w, (Instr.index 85 (.agg #[.int .i64 h, .int .i64 a, .int .i64 m, .int .i64 o]) (.int .i64 2)).run Try.prog w = .ok (.int .i64 m) w := fun _ => by kernel_rfl
  have i3 : ∀ w, (Instr.index 85 (.agg #[.int .i64 h, .int .i64 a, .int .i64 m, .int .i64 o]) (.int .i64 3)).run Try.prog w = .ok (.int .i64 o) w := fun _ => by kernel_rfl
  go_enter Try.func41, Try.ntmps41
  go_wp2_with fail
  refine wp_loop_rounds 5 ?_
  iterate 4 (rw [rounds_succ]; go_wp2_with fail)
  rw [rounds_succ]
  go_wp2_with (go_at_call 37; refine (RefReduce_is _ _ _ _ _ HR.out _).mono ?_; rintro e w2 ⟨rfl, hb2⟩; have HB2 : Aside0 (Below w.heap.size w w2) := Aside0.mk (below_step (by repeat (first | exact Below.refl _ _ | exact Below.refl _ _ | apply below_alloc | apply pw_below_drewN | apply below_drew)) hb2); have HK2 := Aside0.mk (blk_below (by repeat (first | exact blk_second _ _ _ | refine blk_alloc ?_ _ | refine blk_drewN ?_ _ | refine blk_drew ?_)) hb2); clear hb2; have hz0_ : w2.cell? ⟨w.heap.size + 1, 0, none⟩ = some (.int .i64 0) := (blk_cell HK2.out 0).trans rfl; have hf0_ := blk_frozen HK2.out 0; have hz1_ : w2.cell? ⟨w.heap.size + 1, 1, none⟩ = some (.int .i64 0) := (blk_cell HK2.out 1).trans rfl; have hf1_ := blk_frozen HK2.out 1)
  refine bodyPost_ret (results_ct rfl _ _ (w.heap.size + 1) 28 #[.int .i64 (r1), .int .i64 (r2)] (0, 0) _ rfl (by repeat (first | exact HK2.out | refine blk_alloc ?_ _ | refine blk_drewN ?_ _ | refine blk_drew ?_ | refine blk_put (cs := #[.int .i64 (r1), .int .i64 0]) ?_ 1 _ rfl | refine blk_put (cs := #[.int .i64 0, .int .i64 0]) ?_ 0 _ rfl)) Try.underlying28 rfl (by kernel_rfl)) rfl ?_
  exact ⟨rfl, by repeat (first | exact HB2.out | exact Below.refl _ _ | apply below_alloc | apply pw_below_drewN | apply below_drew | refine below_set ?_ (by omega))⟩

set_option maxHeartbeats 1000000 in
theorem ratio_lo0 (h a m o num den : Int) (w : World)  (hx : h < 0) :
    Calls Try.prog 41 #[.agg #[.int .i64 h, .int .i64 a, .int .i64 m, .int .i64 o], .int .i64 num, .int .i64 den] w fun e w' => e = .returned (.tuple #[.agg #[.int .i64 0, .int .i64 0], .int .i64 1]) ∧ Below w.heap.size w w' := by
  have i0 : ∀ w, (Instr.index 85 (.agg #[.int .i64 h, .int .i64 a, .int .i64 m, .int .i64 o]) (.int .i64 0)).run Try.prog w = .ok (.int .i64 h) w := fun _ => by kernel_rfl
  have i1 : ∀ w, (Instr.index 85 (.agg #[.int .i64 h, .int .i64 a, .int .i64 m, .int .i64 o]) (.int .i64 1)).run Try.prog w = .ok (.int .i64 a) w := fun _ => by kernel_rfl
  have i2 : ∀ w, (Instr.index 85 (.agg #[.int .i64 h, .int .i64 a, .int .i64 m, .int .i64 o]) (.int .i64 2)).run Try.prog w = .ok (.int .i64 m) w := fun _ => by kernel_rfl
  have i3 : ∀ w, (Instr.index 85 (.agg #[.int .i64 h, .int .i64 a, .int .i64 m, .int .i64 o]) (.int .i64 3)).run Try.prog w = .ok (.int .i64 o) w := fun _ => by kernel_rfl
  go_enter Try.func41, Try.ntmps41
  go_wp2_with fail
  refine wp_loop_rounds 5 ?_
  iterate 1 (rw [rounds_succ]; go_wp2_with fail)
  refine bodyPost_ret (results_ct rfl _ _ (w.heap.size + 1) 28 #[.int .i64 (0), .int .i64 (0)] (0, 0) _ rfl (by repeat (first | exact blk_second _ _ _ | refine blk_alloc ?_ _ | refine blk_drewN ?_ _ | refine blk_drew ?_ | refine blk_put (cs := #[.int .i64 (0), .int .i64 0]) ?_ 1 _ rfl | refine blk_put (cs := #[.int .i64 0, .int .i64 0]) ?_ 0 _ rfl)) Try.underlying28 rfl (by kernel_rfl)) rfl ?_
  exact ⟨rfl, by repeat (first | exact Below.refl _ _ | exact Below.refl _ _ | apply below_alloc | apply pw_below_drewN | apply below_drew | refine below_set ?_ (by omega))⟩

set_option maxHeartbeats 1000000 in
theorem ratio_hi0 (h a m o num den : Int) (w : World)  (hx : 10000 < h) :
    Calls Try.prog 41 #[.agg #[.int .i64 h, .int .i64 a, .int .i64 m, .int .i64 o], .int .i64 num, .int .i64 den] w fun e w' => e = .returned (.tuple #[.agg #[.int .i64 0, .int .i64 0], .int .i64 1]) ∧ Below w.heap.size w w' := by
  have i0 : ∀ w, (Instr.index 85 (.agg #[.int .i64 h, .int .i64 a, .int .i64 m, .int .i64 o]) (.int .i64 0)).run Try.prog w = .ok (.int .i64 h) w := fun _ => by kernel_rfl
  have i1 : ∀ w, (Instr.index 85 (.agg #[.int .i64 h, .int .i64 a, .int .i64 m, .int .i64 o]) (.int .i64 1)).run Try.prog w = .ok (.int .i64 a) w := fun _ => by kernel_rfl
  have i2 : ∀ w, (Instr.index 85 (.agg #[.int .i64 h, .int .i64 a, .int .i64 m, .int .i64 o]) (.int .i64 2)).run Try.prog w = .ok (.int .i64 m) w := fun _ => by kernel_rfl
  have i3 : ∀ w, (Instr.index 85 (.agg #[.int .i64 h, .int .i64 a, .int .i64 m, .int .i64 o]) (.int .i64 3)).run Try.prog w = .ok (.int .i64 o) w := fun _ => by kernel_rfl
  go_enter Try.func41, Try.ntmps41
  go_wp2_with fail
  refine wp_loop_rounds 5 ?_
  iterate 1 (rw [rounds_succ]; go_wp2_with fail)
  refine bodyPost_ret (results_ct rfl _ _ (w.heap.size + 1) 28 #[.int .i64 (0), .int .i64 (0)] (0, 0) _ rfl (by repeat (first | exact blk_second _ _ _ | refine blk_alloc ?_ _ | refine blk_drewN ?_ _ | refine blk_drew ?_ | refine blk_put (cs := #[.int .i64 (0), .int .i64 0]) ?_ 1 _ rfl | refine blk_put (cs := #[.int .i64 0, .int .i64 0]) ?_ 0 _ rfl)) Try.underlying28 rfl (by kernel_rfl)) rfl ?_
  exact ⟨rfl, by repeat (first | exact Below.refl _ _ | exact Below.refl _ _ | apply below_alloc | apply pw_below_drewN | apply below_drew | refine below_set ?_ (by omega))⟩

set_option maxHeartbeats 1000000 in
theorem ratio_lo1 (h a m o num den : Int) (w : World) (h0 : 0 ≤ h) (k0 : h ≤ 10000) (hx : a < 0) :
    Calls Try.prog 41 #[.agg #[.int .i64 h, .int .i64 a, .int .i64 m, .int .i64 o], .int .i64 num, .int .i64 den] w fun e w' => e = .returned (.tuple #[.agg #[.int .i64 0, .int .i64 0], .int .i64 1]) ∧ Below w.heap.size w w' := by
  have i0 : ∀ w, (Instr.index 85 (.agg #[.int .i64 h, .int .i64 a, .int .i64 m, .int .i64 o]) (.int .i64 0)).run Try.prog w = .ok (.int .i64 h) w := fun _ => by kernel_rfl
  have i1 : ∀ w, (Instr.index 85 (.agg #[.int .i64 h, .int .i64 a, .int .i64 m, .int .i64 o]) (.int .i64 1)).run Try.prog w = .ok (.int .i64 a) w := fun _ => by kernel_rfl
  have i2 : ∀ w, (Instr.index 85 (.agg #[.int .i64 h, .int .i64 a, .int .i64 m, .int .i64 o]) (.int .i64 2)).run Try.prog w = .ok (.int .i64 m) w := fun _ => by kernel_rfl
  have i3 : ∀ w, (Instr.index 85 (.agg #[.int .i64 h, .int .i64 a, .int .i64 m, .int .i64 o]) (.int .i64 3)).run Try.prog w = .ok (.int .i64 o) w := fun _ => by kernel_rfl
  go_enter Try.func41, Try.ntmps41
  go_wp2_with fail
  refine wp_loop_rounds 5 ?_
  iterate 2 (rw [rounds_succ]; go_wp2_with fail)
  refine bodyPost_ret (results_ct rfl _ _ (w.heap.size + 1) 28 #[.int .i64 (0), .int .i64 (0)] (0, 0) _ rfl (by repeat (first | exact blk_second _ _ _ | refine blk_alloc ?_ _ | refine blk_drewN ?_ _ | refine blk_drew ?_ | refine blk_put (cs := #[.int .i64 (0), .int .i64 0]) ?_ 1 _ rfl | refine blk_put (cs := #[.int .i64 0, .int .i64 0]) ?_ 0 _ rfl)) Try.underlying28 rfl (by kernel_rfl)) rfl ?_
  exact ⟨rfl, by repeat (first | exact Below.refl _ _ | exact Below.refl _ _ | apply below_alloc | apply pw_below_drewN | apply below_drew | refine below_set ?_ (by omega))⟩

set_option maxHeartbeats 1000000 in
theorem ratio_hi1 (h a m o num den : Int) (w : World) (h0 : 0 ≤ h) (k0 : h ≤ 10000) (hx : 10000 < a) :
    Calls Try.prog 41 #[.agg #[.int .i64 h, .int .i64 a, .int .i64 m, .int .i64 o], .int .i64 num, .int .i64 den] w fun e w' => e = .returned (.tuple #[.agg #[.int .i64 0, .int .i64 0], .int .i64 1]) ∧ Below w.heap.size w w' := by
  have i0 : ∀ w, (Instr.index 85 (.agg #[.int .i64 h, .int .i64 a, .int .i64 m, .int .i64 o]) (.int .i64 0)).run Try.prog w = .ok (.int .i64 h) w := fun _ => by kernel_rfl
  have i1 : ∀ w, (Instr.index 85 (.agg #[.int .i64 h, .int .i64 a, .int .i64 m, .int .i64 o]) (.int .i64 1)).run Try.prog w = .ok (.int .i64 a) w := fun _ => by kernel_rfl
  have i2 : ∀ w, (Instr.index 85 (.agg #[.int .i64 h, .int .i64 a, .int .i64 m, .int .i64 o]) (.int .i64 2)).run Try.prog w = .ok (.int .i64 m) w := fun _ => by kernel_rfl
  have i3 : ∀ w, (Instr.index 85 (.agg #[.int .i64 h, .int .i64 a, .int .i64 m, .int .i64 o]) (.int .i64 3)).run Try.prog w = .ok (.int .i64 o) w := fun _ => by kernel_rfl
  go_enter Try.func41, Try.ntmps41
  go_wp2_with fail
  refine wp_loop_rounds 5 ?_
  iterate 2 (rw [rounds_succ]; go_wp2_with fail)
  refine bodyPost_ret (results_ct rfl _ _ (w.heap.size + 1) 28 #[.int .i64 (0), .int .i64 (0)] (0, 0) _ rfl (by repeat (first | exact blk_second _ _ _ | refine blk_alloc ?_ _ | refine blk_drewN ?_ _ | refine blk_drew ?_ | refine blk_put (cs := #[.int .i64 (0), .int .i64 0]) ?_ 1 _ rfl | refine blk_put (cs := #[.int .i64 0, .int .i64 0]) ?_ 0 _ rfl)) Try.underlying28 rfl (by kernel_rfl)) rfl ?_
  exact ⟨rfl, by repeat (first | exact Below.refl _ _ | exact Below.refl _ _ | apply below_alloc | apply pw_below_drewN | apply below_drew | refine below_set ?_ (by omega))⟩

set_option maxHeartbeats 1000000 in
theorem ratio_lo2 (h a m o num den : Int) (w : World) (h0 : 0 ≤ h) (k0 : h ≤ 10000) (h1 : 0 ≤ a) (k1 : a ≤ 10000) (hx : m < 0) :
    Calls Try.prog 41 #[.agg #[.int .i64 h, .int .i64 a, .int .i64 m, .int .i64 o], .int .i64 num, .int .i64 den] w fun e w' => e = .returned (.tuple #[.agg #[.int .i64 0, .int .i64 0], .int .i64 1]) ∧ Below w.heap.size w w' := by
  have i0 : ∀ w, (Instr.index 85 (.agg #[.int .i64 h, .int .i64 a, .int .i64 m, .int .i64 o]) (.int .i64 0)).run Try.prog w = .ok (.int .i64 h) w := fun _ => by kernel_rfl
  have i1 : ∀ w, (Instr.index 85 (.agg #[.int .i64 h, .int .i64 a, .int .i64 m, .int .i64 o]) (.int .i64 1)).run Try.prog w = .ok (.int .i64 a) w := fun _ => by kernel_rfl
  have i2 : ∀ w, (Instr.index 85 (.agg #[.int .i64 h, .int .i64 a, .int .i64 m, .int .i64 o]) (.int .i64 2)).run Try.prog w = .ok (.int .i64 m) w := fun _ => by kernel_rfl
  have i3 : ∀ w, (Instr.index 85 (.agg #[.int .i64 h, .int .i64 a, .int .i64 m, .int .i64 o]) (.int .i64 3)).run Try.prog w = .ok (.int .i64 o) w := fun _ => by kernel_rfl
  go_enter Try.func41, Try.ntmps41
  go_wp2_with fail
  refine wp_loop_rounds 5 ?_
  iterate 3 (rw [rounds_succ]; go_wp2_with fail)
  refine bodyPost_ret (results_ct rfl _ _ (w.heap.size + 1) 28 #[.int .i64 (0), .int .i64 (0)] (0, 0) _ rfl (by repeat (first | exact blk_second _ _ _ | refine blk_alloc ?_ _ | refine blk_drewN ?_ _ | refine blk_drew ?_ | refine blk_put (cs := #[.int .i64 (0), .int .i64 0]) ?_ 1 _ rfl | refine blk_put (cs := #[.int .i64 0, .int .i64 0]) ?_ 0 _ rfl)) Try.underlying28 rfl (by kernel_rfl)) rfl ?_
  exact ⟨rfl, by repeat (first | exact Below.refl _ _ | exact Below.refl _ _ | apply below_alloc | apply pw_below_drewN | apply below_drew | refine below_set ?_ (by omega))⟩

set_option maxHeartbeats 1000000 in
theorem ratio_hi2 (h a m o num den : Int) (w : World) (h0 : 0 ≤ h) (k0 : h ≤ 10000) (h1 : 0 ≤ a) (k1 : a ≤ 10000) (hx : 10000 < m) :
    Calls Try.prog 41 #[.agg #[.int .i64 h, .int .i64 a, .int .i64 m, .int .i64 o], .int .i64 num, .int .i64 den] w fun e w' => e = .returned (.tuple #[.agg #[.int .i64 0, .int .i64 0], .int .i64 1]) ∧ Below w.heap.size w w' := by
  have i0 : ∀ w, (Instr.index 85 (.agg #[.int .i64 h, .int .i64 a, .int .i64 m, .int .i64 o]) (.int .i64 0)).run Try.prog w = .ok (.int .i64 h) w := fun _ => by kernel_rfl
  have i1 : ∀ w, (Instr.index 85 (.agg #[.int .i64 h, .int .i64 a, .int .i64 m, .int .i64 o]) (.int .i64 1)).run Try.prog w = .ok (.int .i64 a) w := fun _ => by kernel_rfl
  have i2 : ∀ w, (Instr.index 85 (.agg #[.int .i64 h, .int .i64 a, .int .i64 m, .int .i64 o]) (.int .i64 2)).run Try.prog w = .ok (.int .i64 m) w := fun _ => by kernel_rfl
  have i3 : ∀ w, (Instr.index 85 (.agg #[.int .i64 h, .int .i64 a, .int .i64 m, .int .i64 o]) (.int .i64 3)).run Try.prog w = .ok (.int .i64 o) w := fun _ => by kernel_rfl
  go_enter Try.func41, Try.ntmps41
  go_wp2_with fail
  refine wp_loop_rounds 5 ?_
  iterate 3 (rw [rounds_succ]; go_wp2_with fail)
  refine bodyPost_ret (results_ct rfl _ _ (w.heap.size + 1) 28 #[.int .i64 (0), .int .i64 (0)] (0, 0) _ rfl (by repeat (first | exact blk_second _ _ _ | refine blk_alloc ?_ _ | refine blk_drewN ?_ _ | refine blk_drew ?_ | refine blk_put (cs := #[.int .i64 (0), .int .i64 0]) ?_ 1 _ rfl | refine blk_put (cs := #[.int .i64 0, .int .i64 0]) ?_ 0 _ rfl)) Try.underlying28 rfl (by kernel_rfl)) rfl ?_
  exact ⟨rfl, by repeat (first | exact Below.refl _ _ | exact Below.refl _ _ | apply below_alloc | apply pw_below_drewN | apply below_drew | refine below_set ?_ (by omega))⟩

set_option maxHeartbeats 1000000 in
theorem ratio_lo3 (h a m o num den : Int) (w : World) (h0 : 0 ≤ h) (k0 : h ≤ 10000) (h1 : 0 ≤ a) (k1 : a ≤ 10000) (h2 : 0 ≤ m) (k2 : m ≤ 10000) (hx : o < 0) :
    Calls Try.prog 41 #[.agg #[.int .i64 h, .int .i64 a, .int .i64 m, .int .i64 o], .int .i64 num, .int .i64 den] w fun e w' => e = .returned (.tuple #[.agg #[.int .i64 0, .int .i64 0], .int .i64 1]) ∧ Below w.heap.size w w' := by
  have i0 : ∀ w, (Instr.index 85 (.agg #[.int .i64 h, .int .i64 a, .int .i64 m, .int .i64 o]) (.int .i64 0)).run Try.prog w = .ok (.int .i64 h) w := fun _ => by kernel_rfl
  have i1 : ∀ w, (Instr.index 85 (.agg #[.int .i64 h, .int .i64 a, .int .i64 m, .int .i64 o]) (.int .i64 1)).run Try.prog w = .ok (.int .i64 a) w := fun _ => by kernel_rfl
  have i2 : ∀ w, (Instr.index 85 (.agg #[.int .i64 h, .int .i64 a, .int .i64 m, .int .i64 o]) (.int .i64 2)).run Try.prog w = .ok (.int .i64 m) w := fun _ => by kernel_rfl
  have i3 : ∀ w, (Instr.index 85 (.agg #[.int .i64 h, .int .i64 a, .int .i64 m, .int .i64 o]) (.int .i64 3)).run Try.prog w = .ok (.int .i64 o) w := fun _ => by kernel_rfl
  go_enter Try.func41, Try.ntmps41
  go_wp2_with fail
  refine wp_loop_rounds 5 ?_
  iterate 4 (rw [rounds_succ]; go_wp2_with fail)
  refine bodyPost_ret (results_ct rfl _ _ (w.heap.size + 1) 28 #[.int .i64 (0), .int .i64 (0)] (0, 0) _ rfl (by repeat (first | exact blk_second _ _ _ | refine blk_alloc ?_ _ | refine blk_drewN ?_ _ | refine blk_drew ?_ | refine blk_put (cs := #[.int .i64 (0), .int .i64 0]) ?_ 1 _ rfl | refine blk_put (cs := #[.int .i64 0, .int .i64 0]) ?_ 0 _ rfl)) Try.underlying28 rfl (by kernel_rfl)) rfl ?_
  exact ⟨rfl, by repeat (first | exact Below.refl _ _ | exact Below.refl _ _ | apply below_alloc | apply pw_below_drewN | apply below_drew | refine below_set ?_ (by omega))⟩

set_option maxHeartbeats 1000000 in
theorem ratio_hi3 (h a m o num den : Int) (w : World) (h0 : 0 ≤ h) (k0 : h ≤ 10000) (h1 : 0 ≤ a) (k1 : a ≤ 10000) (h2 : 0 ≤ m) (k2 : m ≤ 10000) (hx : 10000 < o) :
    Calls Try.prog 41 #[.agg #[.int .i64 h, .int .i64 a, .int .i64 m, .int .i64 o], .int .i64 num, .int .i64 den] w fun e w' => e = .returned (.tuple #[.agg #[.int .i64 0, .int .i64 0], .int .i64 1]) ∧ Below w.heap.size w w' := by
  have i0 : ∀ w, (Instr.index 85 (.agg #[.int .i64 h, .int .i64 a, .int .i64 m, .int .i64 o]) (.int .i64 0)).run Try.prog w = .ok (.int .i64 h) w := fun _ => by kernel_rfl
  have i1 : ∀ w, (Instr.index 85 (.agg #[.int .i64 h, .int .i64 a, .int .i64 m, .int .i64 o]) (.int .i64 1)).run Try.prog w = .ok (.int .i64 a) w := fun _ => by kernel_rfl
  have i2 : ∀ w, (Instr.index 85 (.agg #[.int .i64 h, .int .i64 a, .int .i64 m, .int .i64 o]) (.int .i64 2)).run Try.prog w = .ok (.int .i64 m) w := fun _ => by kernel_rfl
  have i3 : ∀ w, (Instr.index 85 (.agg #[.int .i64 h, .int .i64 a, .int .i64 m, .int .i64 o]) (.int .i64 3)).run Try.prog w = .ok (.int .i64 o) w := fun _ => by kernel_rfl
  go_enter Try.func41, Try.ntmps41
  go_wp2_with fail
  refine wp_loop_rounds 5 ?_
  iterate 4 (rw [rounds_succ]; go_wp2_with fail)
  refine bodyPost_ret (results_ct rfl _ _ (w.heap.size + 1) 28 #[.int .i64 (0), .int .i64 (0)] (0, 0) _ rfl (by repeat (first | exact blk_second _ _ _ | refine blk_alloc ?_ _ | refine blk_drewN ?_ _ | refine blk_drew ?_ | refine blk_put (cs := #[.int .i64 (0), .int .i64 0]) ?_ 1 _ rfl | refine blk_put (cs := #[.int .i64 0, .int .i64 0]) ?_ 0 _ rfl)) Try.underlying28 rfl (by kernel_rfl)) rfl ?_
  exact ⟨rfl, by repeat (first | exact Below.refl _ _ | exact Below.refl _ _ | apply below_alloc | apply pw_below_drewN | apply below_drew | refine below_set ?_ (by omega))⟩

theorem ratio_any (h a m o num den : Int) (w : World) : Calls Try.prog 41 #[.agg #[.int .i64 h, .int .i64 a, .int .i64 m, .int .i64 o], .int .i64 num, .int .i64 den] w fun e w' => e = .returned (.tuple #[.agg #[.int .i64 (ofR num den h a m o).1, .int .i64 (ofR num den h a m o).2.1], .int .i64 (ofR num den h a m o).2.2]) ∧ Below w.heap.size w w' := by
  by_cases h1 : inr h = true
  · obtain ⟨a0, b0⟩ := inr_yes h1
    by_cases h2 : inr a = true
    · obtain ⟨a1, b1⟩ := inr_yes h2
      by_cases h3 : inr m = true
      · obtain ⟨a2, b2⟩ := inr_yes h3
        by_cases h4 : inr o = true
        · obtain ⟨a3, b3⟩ := inr_yes h4
          rw [ofR_all _ _ _ _ _ _ h1 h2 h3 h4]
          by_cases hd : den = 0
          · rw [scR_zero hd]
            exact ratio_in0 h a m o num den w a0 b0 a1 b1 a2 b2 a3 b3 _ _ _ (beq_iff_eq.2 hd) rfl
          · rw [scR_some hd]
            exact ratio_in1 h a m o num den w a0 b0 a1 b1 a2 b2 a3 b3 _ _ _ (beq_eq_false_iff_ne.2 hd) rfl
        · have e : ofR num den h a m o = (0, 0, 1) := by simp [ofR, h1, h2, h3, h4]
          rw [e]
          rcases inr_no (Bool.eq_false_iff.2 h4) with hx | hx
          · exact ratio_lo3 h a m o num den w a0 b0 a1 b1 a2 b2 hx
          · exact ratio_hi3 h a m o num den w a0 b0 a1 b1 a2 b2 hx
      · have e : ofR num den h a m o = (0, 0, 1) := by simp [ofR, h1, h2, h3]
        rw [e]
        rcases inr_no (Bool.eq_false_iff.2 h3) with hx | hx
        · exact ratio_lo2 h a m o num den w a0 b0 a1 b1 hx
        · exact ratio_hi2 h a m o num den w a0 b0 a1 b1 hx
    · have e : ofR num den h a m o = (0, 0, 1) := by simp [ofR, h1, h2]
      rw [e]
      rcases inr_no (Bool.eq_false_iff.2 h2) with hx | hx
      · exact ratio_lo1 h a m o num den w a0 b0 hx
      · exact ratio_hi1 h a m o num den w a0 b0 hx
  · have e : ofR num den h a m o = (0, 0, 1) := by simp [ofR, h1]
    rw [e]
    rcases inr_no (Bool.eq_false_iff.2 h1) with hx | hx
    · exact ratio_lo0 h a m o num den w hx
    · exact ratio_hi0 h a m o num den w hx
end Go.Proofs.Ytbnjbdjjedndbaa.B
