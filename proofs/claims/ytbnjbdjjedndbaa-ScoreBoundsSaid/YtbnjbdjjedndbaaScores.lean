/- Detection, FalseAlarm, Threat and Heidke of the program and of the reference return the same, for any table. -/
import Derived.Test.YtbnjbdjjedndbaaRatio
namespace Go.Proofs.Ytbnjbdjjedndbaa.B
open Go.RowKit Go.Proofs.YtbnjbdjjedndbaaW.PrintWords Go.Proofs.YtbnjbdjjedndbaaW.PrintLast Go.Proofs.YtbnjbdjjedndbaaW.PrintMore
set_option linter.unusedVariables false
set_option linter.unusedSimpArgs false
def detR (h a m o : Int) : Int × Int × Int := ofR (h) (wrap64 (h + m)) h a m o
def falR (h a m o : Int) : Int × Int × Int := ofR (a) (wrap64 (h + a)) h a m o
def thrR (h a m o : Int) : Int × Int × Int := ofR (h) (wrap64 (wrap64 (h + a) + m)) h a m o
def heiR (h a m o : Int) : Int × Int × Int := ofR (wrap64 (2 * wrap64 (wrap64 (h * o) - wrap64 (a * m)))) (wrap64 (wrap64 (wrap64 (h + m) * wrap64 (m + o)) + wrap64 (wrap64 (h + a) * wrap64 (a + o)))) h a m o

set_option maxHeartbeats 1000000 in
theorem s11_is (h a m o r1 r2 r3 : Int) (hr : detR h a m o = (r1, r2, r3)) (w : World) : Calls Try.prog 11 #[.agg #[.int .i64 h, .int .i64 a, .int .i64 m, .int .i64 o]] w fun e w' => e = .returned (.tuple #[.agg #[.int .i64 r1, .int .i64 r2], .int .i64 r3]) ∧ Below w.heap.size w w' := by
  have HR := Aside0.mk (show ofR (h) (wrap64 (h + m)) h a m o = (r1, r2, r3) from hr)
  clear hr
  go_enter Try.func11, Try.ntmps11
  go_wp2_with (go_at_call 40; refine (of0_any h a m o _).mono ?_; rintro e w2 ⟨rfl, hb2⟩; have HB2 : Aside0 (Below w.heap.size w w2) := Aside0.mk (below_step (by repeat (first | exact Below.refl _ _ | exact Below.refl _ _ | apply below_alloc | apply pw_below_drewN | apply below_drew)) hb2); have HK2 : Aside0 (w2.heap[w.heap.size + 1]? = some (.cells #[.int .i64 0, .int .i64 0] 28 (0, 0))) := Aside0.mk (blk_below (by repeat (first | exact blk_second _ _ _ | refine blk_alloc ?_ _ | refine blk_drewN ?_ _ | refine blk_drew ?_)) hb2); clear hb2; have hz0_ : w2.cell? ⟨w.heap.size + 1, 0, none⟩ = some (.int .i64 0) := (blk_cell HK2.out 0).trans rfl; have hf0_ := blk_frozen HK2.out 0; have hz1_ : w2.cell? ⟨w.heap.size + 1, 1, none⟩ = some (.int .i64 0) := (blk_cell HK2.out 1).trans rfl; have hf1_ := blk_frozen HK2.out 1; rw [HR.out])
  refine bodyPost_ret (results_ct rfl _ _ (w.heap.size + 1) 28 #[.int .i64 (r1), .int .i64 (r2)] (0, 0) _ rfl (by repeat (first | exact HK2.out | refine blk_alloc ?_ _ | refine blk_drewN ?_ _ | refine blk_drew ?_ | refine blk_put (cs := #[.int .i64 (r1), .int .i64 0]) ?_ 1 _ rfl | refine blk_put (cs := #[.int .i64 0, .int .i64 0]) ?_ 0 _ rfl)) Try.underlying28 rfl (by kernel_rfl)) rfl ?_
  exact ⟨rfl, by repeat (first | exact HB2.out | exact Below.refl _ _ | apply below_alloc | apply pw_below_drewN | apply below_drew | refine below_set ?_ (by omega))⟩

set_option maxHeartbeats 1000000 in
theorem s12_is (h a m o r1 r2 r3 : Int) (hr : detR h a m o = (r1, r2, r3)) (w : World) : Calls Try.prog 12 #[.agg #[.int .i64 h, .int .i64 a, .int .i64 m, .int .i64 o]] w fun e w' => e = .returned (.tuple #[.agg #[.int .i64 r1, .int .i64 r2], .int .i64 r3]) ∧ Below w.heap.size w w' := by
  have HR := Aside0.mk (show ofR (h) (wrap64 (h + m)) h a m o = (r1, r2, r3) from hr)
  clear hr
  go_enter Try.func12, Try.ntmps12
  go_wp2_with (go_at_call 41; refine (ratio_any h a m o _ _ _).mono ?_; rintro e w2 ⟨rfl, hb2⟩; have HB2 : Aside0 (Below w.heap.size w w2) := Aside0.mk (below_step (by repeat (first | exact Below.refl _ _ | exact Below.refl _ _ | apply below_alloc | apply pw_below_drewN | apply below_drew)) hb2); have HK2 : Aside0 (w2.heap[w.heap.size + 1]? = some (.cells #[.int .i64 0, .int .i64 0] 28 (0, 0))) := Aside0.mk (blk_below (by repeat (first | exact blk_second _ _ _ | refine blk_alloc ?_ _ | refine blk_drewN ?_ _ | refine blk_drew ?_)) hb2); clear hb2; have hz0_ : w2.cell? ⟨w.heap.size + 1, 0, none⟩ = some (.int .i64 0) := (blk_cell HK2.out 0).trans rfl; have hf0_ := blk_frozen HK2.out 0; have hz1_ : w2.cell? ⟨w.heap.size + 1, 1, none⟩ = some (.int .i64 0) := (blk_cell HK2.out 1).trans rfl; have hf1_ := blk_frozen HK2.out 1; rw [HR.out])
  refine bodyPost_ret (results_ct rfl _ _ (w.heap.size + 1) 28 #[.int .i64 (r1), .int .i64 (r2)] (0, 0) _ rfl (by repeat (first | exact HK2.out | refine blk_alloc ?_ _ | refine blk_drewN ?_ _ | refine blk_drew ?_ | refine blk_put (cs := #[.int .i64 (r1), .int .i64 0]) ?_ 1 _ rfl | refine blk_put (cs := #[.int .i64 0, .int .i64 0]) ?_ 0 _ rfl)) Try.underlying28 rfl (by kernel_rfl)) rfl ?_
  exact ⟨rfl, by repeat (first | exact HB2.out | exact Below.refl _ _ | apply below_alloc | apply pw_below_drewN | apply below_drew | refine below_set ?_ (by omega))⟩

set_option maxHeartbeats 1000000 in
theorem s13_is (h a m o r1 r2 r3 : Int) (hr : falR h a m o = (r1, r2, r3)) (w : World) : Calls Try.prog 13 #[.agg #[.int .i64 h, .int .i64 a, .int .i64 m, .int .i64 o]] w fun e w' => e = .returned (.tuple #[.agg #[.int .i64 r1, .int .i64 r2], .int .i64 r3]) ∧ Below w.heap.size w w' := by
  have HR := Aside0.mk (show ofR (a) (wrap64 (h + a)) h a m o = (r1, r2, r3) from hr)
  clear hr
  go_enter Try.func13, Try.ntmps13
  go_wp2_with (go_at_call 40; refine (of1_any h a m o _).mono ?_; rintro e w2 ⟨rfl, hb2⟩; have HB2 : Aside0 (Below w.heap.size w w2) := Aside0.mk (below_step (by repeat (first | exact Below.refl _ _ | exact Below.refl _ _ | apply below_alloc | apply pw_below_drewN | apply below_drew)) hb2); have HK2 : Aside0 (w2.heap[w.heap.size + 1]? = some (.cells #[.int .i64 0, .int .i64 0] 28 (0, 0))) := Aside0.mk (blk_below (by repeat (first | exact blk_second _ _ _ | refine blk_alloc ?_ _ | refine blk_drewN ?_ _ | refine blk_drew ?_)) hb2); clear hb2; have hz0_ : w2.cell? ⟨w.heap.size + 1, 0, none⟩ = some (.int .i64 0) := (blk_cell HK2.out 0).trans rfl; have hf0_ := blk_frozen HK2.out 0; have hz1_ : w2.cell? ⟨w.heap.size + 1, 1, none⟩ = some (.int .i64 0) := (blk_cell HK2.out 1).trans rfl; have hf1_ := blk_frozen HK2.out 1; rw [HR.out])
  refine bodyPost_ret (results_ct rfl _ _ (w.heap.size + 1) 28 #[.int .i64 (r1), .int .i64 (r2)] (0, 0) _ rfl (by repeat (first | exact HK2.out | refine blk_alloc ?_ _ | refine blk_drewN ?_ _ | refine blk_drew ?_ | refine blk_put (cs := #[.int .i64 (r1), .int .i64 0]) ?_ 1 _ rfl | refine blk_put (cs := #[.int .i64 0, .int .i64 0]) ?_ 0 _ rfl)) Try.underlying28 rfl (by kernel_rfl)) rfl ?_
  exact ⟨rfl, by repeat (first | exact HB2.out | exact Below.refl _ _ | apply below_alloc | apply pw_below_drewN | apply below_drew | refine below_set ?_ (by omega))⟩

set_option maxHeartbeats 1000000 in
theorem s14_is (h a m o r1 r2 r3 : Int) (hr : falR h a m o = (r1, r2, r3)) (w : World) : Calls Try.prog 14 #[.agg #[.int .i64 h, .int .i64 a, .int .i64 m, .int .i64 o]] w fun e w' => e = .returned (.tuple #[.agg #[.int .i64 r1, .int .i64 r2], .int .i64 r3]) ∧ Below w.heap.size w w' := by
  have HR := Aside0.mk (show ofR (a) (wrap64 (h + a)) h a m o = (r1, r2, r3) from hr)
  clear hr
  go_enter Try.func14, Try.ntmps14
  go_wp2_with (go_at_call 41; refine (ratio_any h a m o _ _ _).mono ?_; rintro e w2 ⟨rfl, hb2⟩; have HB2 : Aside0 (Below w.heap.size w w2) := Aside0.mk (below_step (by repeat (first | exact Below.refl _ _ | exact Below.refl _ _ | apply below_alloc | apply pw_below_drewN | apply below_drew)) hb2); have HK2 : Aside0 (w2.heap[w.heap.size + 1]? = some (.cells #[.int .i64 0, .int .i64 0] 28 (0, 0))) := Aside0.mk (blk_below (by repeat (first | exact blk_second _ _ _ | refine blk_alloc ?_ _ | refine blk_drewN ?_ _ | refine blk_drew ?_)) hb2); clear hb2; have hz0_ : w2.cell? ⟨w.heap.size + 1, 0, none⟩ = some (.int .i64 0) := (blk_cell HK2.out 0).trans rfl; have hf0_ := blk_frozen HK2.out 0; have hz1_ : w2.cell? ⟨w.heap.size + 1, 1, none⟩ = some (.int .i64 0) := (blk_cell HK2.out 1).trans rfl; have hf1_ := blk_frozen HK2.out 1; rw [HR.out])
  refine bodyPost_ret (results_ct rfl _ _ (w.heap.size + 1) 28 #[.int .i64 (r1), .int .i64 (r2)] (0, 0) _ rfl (by repeat (first | exact HK2.out | refine blk_alloc ?_ _ | refine blk_drewN ?_ _ | refine blk_drew ?_ | refine blk_put (cs := #[.int .i64 (r1), .int .i64 0]) ?_ 1 _ rfl | refine blk_put (cs := #[.int .i64 0, .int .i64 0]) ?_ 0 _ rfl)) Try.underlying28 rfl (by kernel_rfl)) rfl ?_
  exact ⟨rfl, by repeat (first | exact HB2.out | exact Below.refl _ _ | apply below_alloc | apply pw_below_drewN | apply below_drew | refine below_set ?_ (by omega))⟩

set_option maxHeartbeats 1000000 in
theorem s15_is (h a m o r1 r2 r3 : Int) (hr : thrR h a m o = (r1, r2, r3)) (w : World) : Calls Try.prog 15 #[.agg #[.int .i64 h, .int .i64 a, .int .i64 m, .int .i64 o]] w fun e w' => e = .returned (.tuple #[.agg #[.int .i64 r1, .int .i64 r2], .int .i64 r3]) ∧ Below w.heap.size w w' := by
  have HR := Aside0.mk (show ofR (h) (wrap64 (wrap64 (h + a) + m)) h a m o = (r1, r2, r3) from hr)
  clear hr
  go_enter Try.func15, Try.ntmps15
  go_wp2_with (go_at_call 40; refine (of2_any h a m o _).mono ?_; rintro e w2 ⟨rfl, hb2⟩; have HB2 : Aside0 (Below w.heap.size w w2) := Aside0.mk (below_step (by repeat (first | exact Below.refl _ _ | exact Below.refl _ _ | apply below_alloc | apply pw_below_drewN | apply below_drew)) hb2); have HK2 : Aside0 (w2.heap[w.heap.size + 1]? = some (.cells #[.int .i64 0, .int .i64 0] 28 (0, 0))) := Aside0.mk (blk_below (by repeat (first | exact blk_second _ _ _ | refine blk_alloc ?_ _ | refine blk_drewN ?_ _ | refine blk_drew ?_)) hb2); clear hb2; have hz0_ : w2.cell? ⟨w.heap.size + 1, 0, none⟩ = some (.int .i64 0) := (blk_cell HK2.out 0).trans rfl; have hf0_ := blk_frozen HK2.out 0; have hz1_ : w2.cell? ⟨w.heap.size + 1, 1, none⟩ = some (.int .i64 0) := (blk_cell HK2.out 1).trans rfl; have hf1_ := blk_frozen HK2.out 1; rw [HR.out])
  refine bodyPost_ret (results_ct rfl _ _ (w.heap.size + 1) 28 #[.int .i64 (r1), .int .i64 (r2)] (0, 0) _ rfl (by repeat (first | exact HK2.out | refine blk_alloc ?_ _ | refine blk_drewN ?_ _ | refine blk_drew ?_ | refine blk_put (cs := #[.int .i64 (r1), .int .i64 0]) ?_ 1 _ rfl | refine blk_put (cs := #[.int .i64 0, .int .i64 0]) ?_ 0 _ rfl)) Try.underlying28 rfl (by kernel_rfl)) rfl ?_
  exact ⟨rfl, by repeat (first | exact HB2.out | exact Below.refl _ _ | apply below_alloc | apply pw_below_drewN | apply below_drew | refine below_set ?_ (by omega))⟩

set_option maxHeartbeats 1000000 in
theorem s16_is (h a m o r1 r2 r3 : Int) (hr : thrR h a m o = (r1, r2, r3)) (w : World) : Calls Try.prog 16 #[.agg #[.int .i64 h, .int .i64 a, .int .i64 m, .int .i64 o]] w fun e w' => e = .returned (.tuple #[.agg #[.int .i64 r1, .int .i64 r2], .int .i64 r3]) ∧ Below w.heap.size w w' := by
  have HR := Aside0.mk (show ofR (h) (wrap64 (wrap64 (h + a) + m)) h a m o = (r1, r2, r3) from hr)
  clear hr
  go_enter Try.func16, Try.ntmps16
  go_wp2_with (go_at_call 41; refine (ratio_any h a m o _ _ _).mono ?_; rintro e w2 ⟨rfl, hb2⟩; have HB2 : Aside0 (Below w.heap.size w w2) := Aside0.mk (below_step (by repeat (first | exact Below.refl _ _ | exact Below.refl _ _ | apply below_alloc | apply pw_below_drewN | apply below_drew)) hb2); have HK2 : Aside0 (w2.heap[w.heap.size + 1]? = some (.cells #[.int .i64 0, .int .i64 0] 28 (0, 0))) := Aside0.mk (blk_below (by repeat (first | exact blk_second _ _ _ | refine blk_alloc ?_ _ | refine blk_drewN ?_ _ | refine blk_drew ?_)) hb2); clear hb2; have hz0_ : w2.cell? ⟨w.heap.size + 1, 0, none⟩ = some (.int .i64 0) := (blk_cell HK2.out 0).trans rfl; have hf0_ := blk_frozen HK2.out 0; have hz1_ : w2.cell? ⟨w.heap.size + 1, 1, none⟩ = some (.int .i64 0) := (blk_cell HK2.out 1).trans rfl; have hf1_ := blk_frozen HK2.out 1; rw [HR.out])
  refine bodyPost_ret (results_ct rfl _ _ (w.heap.size + 1) 28 #[.int .i64 (r1), .int .i64 (r2)] (0, 0) _ rfl (by repeat (first | exact HK2.out | refine blk_alloc ?_ _ | refine blk_drewN ?_ _ | refine blk_drew ?_ | refine blk_put (cs := #[.int .i64 (r1), .int .i64 0]) ?_ 1 _ rfl | refine blk_put (cs := #[.int .i64 0, .int .i64 0]) ?_ 0 _ rfl)) Try.underlying28 rfl (by kernel_rfl)) rfl ?_
  exact ⟨rfl, by repeat (first | exact HB2.out | exact Below.refl _ _ | apply below_alloc | apply pw_below_drewN | apply below_drew | refine below_set ?_ (by omega))⟩

set_option maxHeartbeats 1000000 in
theorem s17_is (h a m o r1 r2 r3 : Int) (hr : heiR h a m o = (r1, r2, r3)) (w : World) : Calls Try.prog 17 #[.agg #[.int .i64 h, .int .i64 a, .int .i64 m, .int .i64 o]] w fun e w' => e = .returned (.tuple #[.agg #[.int .i64 r1, .int .i64 r2], .int .i64 r3]) ∧ Below w.heap.size w w' := by
  have HR := Aside0.mk (show ofR (wrap64 (2 * wrap64 (wrap64 (h * o) - wrap64 (a * m)))) (wrap64 (wrap64 (wrap64 (h + m) * wrap64 (m + o)) + wrap64 (wrap64 (h + a) * wrap64 (a + o)))) h a m o = (r1, r2, r3) from hr)
  clear hr
  go_enter Try.func17, Try.ntmps17
  go_wp2_with (go_at_call 40; refine (of3_any h a m o _).mono ?_; rintro e w2 ⟨rfl, hb2⟩; have HB2 : Aside0 (Below w.heap.size w w2) := Aside0.mk (below_step (by repeat (first | exact Below.refl _ _ | exact Below.refl _ _ | apply below_alloc | apply pw_below_drewN | apply below_drew)) hb2); have HK2 : Aside0 (w2.heap[w.heap.size + 1]? = some (.cells #[.int .i64 0, .int .i64 0] 28 (0, 0))) := Aside0.mk (blk_below (by repeat (first | exact blk_second _ _ _ | refine blk_alloc ?_ _ | refine blk_drewN ?_ _ | refine blk_drew ?_)) hb2); clear hb2; have hz0_ : w2.cell? ⟨w.heap.size + 1, 0, none⟩ = some (.int .i64 0) := (blk_cell HK2.out 0).trans rfl; have hf0_ := blk_frozen HK2.out 0; have hz1_ : w2.cell? ⟨w.heap.size + 1, 1, none⟩ = some (.int .i64 0) := (blk_cell HK2.out 1).trans rfl; have hf1_ := blk_frozen HK2.out 1; rw [HR.out])
  refine bodyPost_ret (results_ct rfl _ _ (w.heap.size + 1) 28 #[.int .i64 (r1), .int .i64 (r2)] (0, 0) _ rfl (by repeat (first | exact HK2.out | refine blk_alloc ?_ _ | refine blk_drewN ?_ _ | refine blk_drew ?_ | refine blk_put (cs := #[.int .i64 (r1), .int .i64 0]) ?_ 1 _ rfl | refine blk_put (cs := #[.int .i64 0, .int .i64 0]) ?_ 0 _ rfl)) Try.underlying28 rfl (by kernel_rfl)) rfl ?_
  exact ⟨rfl, by repeat (first | exact HB2.out | exact Below.refl _ _ | apply below_alloc | apply pw_below_drewN | apply below_drew | refine below_set ?_ (by omega))⟩

set_option maxHeartbeats 1000000 in
theorem s18_is (h a m o r1 r2 r3 : Int) (hr : heiR h a m o = (r1, r2, r3)) (w : World) : Calls Try.prog 18 #[.agg #[.int .i64 h, .int .i64 a, .int .i64 m, .int .i64 o]] w fun e w' => e = .returned (.tuple #[.agg #[.int .i64 r1, .int .i64 r2], .int .i64 r3]) ∧ Below w.heap.size w w' := by
  have HR := Aside0.mk (show ofR (wrap64 (2 * wrap64 (wrap64 (h * o) - wrap64 (a * m)))) (wrap64 (wrap64 (wrap64 (h + m) * wrap64 (m + o)) + wrap64 (wrap64 (h + a) * wrap64 (a + o)))) h a m o = (r1, r2, r3) from hr)
  clear hr
  go_enter Try.func18, Try.ntmps18
  go_wp2_with (go_at_call 41; refine (ratio_any h a m o _ _ _).mono ?_; rintro e w2 ⟨rfl, hb2⟩; have HB2 : Aside0 (Below w.heap.size w w2) := Aside0.mk (below_step (by repeat (first | exact Below.refl _ _ | exact Below.refl _ _ | apply below_alloc | apply pw_below_drewN | apply below_drew)) hb2); have HK2 : Aside0 (w2.heap[w.heap.size + 1]? = some (.cells #[.int .i64 0, .int .i64 0] 28 (0, 0))) := Aside0.mk (blk_below (by repeat (first | exact blk_second _ _ _ | refine blk_alloc ?_ _ | refine blk_drewN ?_ _ | refine blk_drew ?_)) hb2); clear hb2; have hz0_ : w2.cell? ⟨w.heap.size + 1, 0, none⟩ = some (.int .i64 0) := (blk_cell HK2.out 0).trans rfl; have hf0_ := blk_frozen HK2.out 0; have hz1_ : w2.cell? ⟨w.heap.size + 1, 1, none⟩ = some (.int .i64 0) := (blk_cell HK2.out 1).trans rfl; have hf1_ := blk_frozen HK2.out 1; rw [HR.out])
  refine bodyPost_ret (results_ct rfl _ _ (w.heap.size + 1) 28 #[.int .i64 (r1), .int .i64 (r2)] (0, 0) _ rfl (by repeat (first | exact HK2.out | refine blk_alloc ?_ _ | refine blk_drewN ?_ _ | refine blk_drew ?_ | refine blk_put (cs := #[.int .i64 (r1), .int .i64 0]) ?_ 1 _ rfl | refine blk_put (cs := #[.int .i64 0, .int .i64 0]) ?_ 0 _ rfl)) Try.underlying28 rfl (by kernel_rfl)) rfl ?_
  exact ⟨rfl, by repeat (first | exact HB2.out | exact Below.refl _ _ | apply below_alloc | apply pw_below_drewN | apply below_drew | refine below_set ?_ (by omega))⟩
end Go.Proofs.Ytbnjbdjjedndbaa.B
