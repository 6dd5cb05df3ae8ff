/- The scores of a table, as the program computes them: a field out of range gives ErrRange, the denominator 0 ErrNone, else the reduced fraction. -/
import Derived.Test.YtbnjbdjjedndbaaSc
import Derived.LoopN
import Derived.Deep.RegionWith
namespace Go.Proofs.Ytbnjbdjjedndbaa.B
open Go.RowKit Go.Proofs.YtbnjbdjjedndbaaW.PrintWords Go.Proofs.YtbnjbdjjedndbaaW.PrintLast Go.Proofs.YtbnjbdjjedndbaaW.PrintMore
set_option linter.unusedVariables false
set_option linter.unusedSimpArgs false

/-- A field of a table is from 0 to 10000. -/
def inr (x : Int) : Bool := decide (0 ≤ x ∧ x ≤ 10000)
/-- A score: the fraction and the error. -/
def ofR (num den h a m o : Int) : Int × Int × Int := if inr h = true then if inr a = true then if inr m = true then if inr o = true then if den = 0 then (0, 0, 9) else red num den else (0, 0, 1) else (0, 0, 1) else (0, 0, 1) else (0, 0, 1)
/-- The fraction of a numerator and a denominator, and the error. -/
def scR (num den : Int) : Int × Int × Int := if den = 0 then (0, 0, 9) else red num den
theorem scR_zero {num den : Int} (h : den = 0) : scR num den = (0, 0, 9) := if_pos h
theorem scR_some {num den : Int} (h : den ≠ 0) : scR num den = red num den := if_neg h
theorem ofR_all (num den h a m o : Int) (h1 : inr h = true) (h2 : inr a = true) (h3 : inr m = true) (h4 : inr o = true) : ofR num den h a m o = scR num den := by simp [ofR, scR, h1, h2, h3, h4]
theorem Reduce_is (a b r1 r2 r3 : Int) (h : red a b = (r1, r2, r3)) (w : World) : Calls Try.prog 36 #[.int .i64 a, .int .i64 b] w fun e w' => e = .returned (.tuple #[.agg #[.int .i64 r1, .int .i64 r2], .int .i64 r3]) ∧ Below w.heap.size w w' := by
  have := Reduce_any a b w
  rwa [h] at this
theorem within_any (x : Int) (w : World) : Calls Try.prog 46 #[.int .i64 x, .int .i64 0, .int .i64 10000] w fun e w' => e = .returned (.bool (inr x)) ∧ Drawn0 w w' :=
  score_within.calls x 0 10000 _ w (within_eq x 0 10000)
theorem blk_second (w : World) (A B : Obj) : ((w.alloc A).alloc B).heap[w.heap.size + 1]? = some B := by
  have := blk_new (w.alloc A) B
  simpa using this

set_option maxHeartbeats 2000000 in
theorem of0_in (h a m o : Int) (w : World) (h1 : inr h = true) (h2 : inr a = true) (h3 : inr m = true) (h4 : inr o = true) (num den r1 r2 r3 : Int) (hnum : num = h) (hden : den = wrap64 (h + m)) (hr : scR num den = (r1, r2, r3)) :
    Calls Try.prog 40 #[.int .i64 0, .agg #[.int .i64 h, .int .i64 a, .int .i64 m, .int .i64 o]] w fun e w' => e = .returned (.tuple #[.agg #[.int .i64 r1, .int .i64 r2], .int .i64 r3]) ∧ Below w.heap.size w w' := by
  have HR := Aside0.mk hr
  clear hr
  have hsc : ∀ W : World, Calls Try.prog 65 #[.agg #[.int .i64 h, .int .i64 a, .int .i64 m, .int .i64 o]] W fun e w' => e = .returned (.tuple #[.int .i64 num, .int .i64 den]) ∧ Below W.heap.size W w' := by
    intro W
    rw [hnum, hden]
    exact sc65 h a m o W
  have HSC := Aside0.mk hsc
  clear hsc hnum hden
  go_enter Try.func40, Try.ntmps40
  go_wp2_with fail
  refine wp_loop_rounds 5 ?_
  iterate 4 (rw [rounds_succ]; go_wp2_with (go_at_call 46; refine (within_any _ _).mono ?_; rintro e w' ⟨rfl, ⟨nd, rfl⟩⟩))
  rw [rounds_succ]
  go_upto_region 7 with (fail)
  go_cut [8, 9] (fun v8 v9 wc => v8 = .int .i64 num ∧ v9 = .int .i64 den ∧ Aside0 (Below w.heap.size w wc) ∧ Aside0 (wc.heap[w.heap.size + 1]? = some (.cells #[.int .i64 0, .int .i64 0] 28 (0, 0))))
  case first =>
    go_region_with (first | (go_at_call 58; refine (sc58 _).mono ?_; rintro e w' ⟨rfl, rfl⟩) | (go_at_call 65; refine (HSC.out _).mono ?_; rintro e w' ⟨rfl, hb⟩))
    all_goals
      (try go_wp2_with fail)
      go_meet
      case rel =>
        exact ⟨rfl, rfl, ⟨below_step (by repeat (first | exact Below.refl _ _ | exact Below.refl _ _ | apply below_alloc | apply pw_below_drewN | apply below_drew)) hb⟩, ⟨blk_below (by repeat (first | exact blk_second _ _ _ | refine blk_alloc ?_ _ | refine blk_drewN ?_ _ | refine blk_drew ?_)) hb⟩⟩
  case rest =>
    obtain ⟨rfl, rfl, HB, HK⟩ := hcut
    by_cases hd : den = 0
    · have hd1 : (den == 0) = true := beq_iff_eq.2 hd
      have hq := (scR_zero hd).symm.trans HR.out
      simp only [Prod.mk.injEq] at hq
      obtain ⟨rfl, rfl, rfl⟩ := hq
      clear hd
      have hz0_ : wc.cell? ⟨w.heap.size + 1, 0, none⟩ = some (.int .i64 0) := (blk_cell HK.out 0).trans rfl; have hf0_ := blk_frozen HK.out 0; have hz1_ : wc.cell? ⟨w.heap.size + 1, 1, none⟩ = some (.int .i64 0) := (blk_cell HK.out 1).trans rfl; have hf1_ := blk_frozen HK.out 1
      go_wp2_with fail
      refine bodyPost_ret (results_ct rfl _ _ (w.heap.size + 1) 28 #[.int .i64 (0), .int .i64 (0)] (0, 0) _ rfl (by repeat (first | exact HK.out | refine blk_alloc ?_ _ | refine blk_drewN ?_ _ | refine blk_drew ?_ | refine blk_put (cs := #[.int .i64 (0), .int .i64 0]) ?_ 1 _ rfl | refine blk_put (cs := #[.int .i64 0, .int .i64 0]) ?_ 0 _ rfl)) Try.underlying28 rfl (by kernel_rfl)) rfl ?_
      exact ⟨rfl, by repeat (first | exact HB.out | exact Below.refl _ _ | apply below_alloc | apply pw_below_drewN | apply below_drew | refine below_set ?_ (by omega))⟩
    · have hd1 : (den == 0) = false := beq_eq_false_iff_ne.2 hd
      have HQ := Aside0.mk ((scR_some hd).symm.trans HR.out)
      clear hd
      go_wp2_with (go_at_call 36; refine (Reduce_is _ _ _ _ _ HQ.out _).mono ?_; rintro e w2 ⟨rfl, hb2⟩; have HB2 := Aside0.mk (below_step (by repeat (first | exact HB.out | exact Below.refl _ _ | apply below_alloc | apply pw_below_drewN | apply below_drew)) hb2); have HK2 := Aside0.mk (blk_below (by repeat (first | exact HK.out | refine blk_alloc ?_ _ | refine blk_drewN ?_ _ | refine blk_drew ?_)) hb2); clear HB HK hb2; have hz0_ : w2.cell? ⟨w.heap.size + 1, 0, none⟩ = some (.int .i64 0) := (blk_cell HK2.out 0).trans rfl; have hf0_ := blk_frozen HK2.out 0; have hz1_ : w2.cell? ⟨w.heap.size + 1, 1, none⟩ = some (.int .i64 0) := (blk_cell HK2.out 1).trans rfl; have hf1_ := blk_frozen HK2.out 1)
      refine bodyPost_ret (results_ct rfl _ _ (w.heap.size + 1) 28 #[.int .i64 (r1), .int .i64 (r2)] (0, 0) _ rfl (by repeat (first | exact HK2.out | refine blk_alloc ?_ _ | refine blk_drewN ?_ _ | refine blk_drew ?_ | refine blk_put (cs := #[.int .i64 (r1), .int .i64 0]) ?_ 1 _ rfl | refine blk_put (cs := #[.int .i64 0, .int .i64 0]) ?_ 0 _ rfl)) Try.underlying28 rfl (by kernel_rfl)) rfl ?_
      exact ⟨rfl, by repeat (first | exact HB2.out | exact Below.refl _ _ | apply below_alloc | apply pw_below_drewN | apply below_drew | refine below_set ?_ (by omega))⟩

set_option maxHeartbeats 2000000 in
theorem of1_in (h a m o : Int) (w : World) (h1 : inr h = true) (h2 : inr a = true) (h3 : inr m = true) (h4 : inr o = true) (num den r1 r2 r3 : Int) (hnum : num = a) (hden : den = wrap64 (h + a)) (hr : scR num den = (r1, r2, r3)) :
    Calls Try.prog 40 #[.int .i64 1, .agg #[.int .i64 h, .int .i64 a, .int .i64 m, .int .i64 o]] w fun e w' => e = .returned (.tuple #[.agg #[.int .i64 r1, .int .i64 r2], .int .i64 r3]) ∧ Below w.heap.size w w' := by
  have HR := Aside0.mk hr
  clear hr
  have hsc : ∀ W : World, Calls Try.prog 66 #[.agg #[.int .i64 h, .int .i64 a, .int .i64 m, .int .i64 o]] W fun e w' => e = .returned (.tuple #[.int .i64 num, .int .i64 den]) ∧ Below W.heap.size W w' := by
    intro W
    rw [hnum, hden]
    exact sc66 h a m o W
  have HSC := Aside0.mk hsc
  clear hsc hnum hden
  go_enter Try.func40, Try.ntmps40
  go_wp2_with fail
  refine wp_loop_rounds 5 ?_
  iterate 4 (rw [rounds_succ]; go_wp2_with (go_at_call 46; refine (within_any _ _).mono ?_; rintro e w' ⟨rfl, ⟨nd, rfl⟩⟩))
  rw [rounds_succ]
  go_upto_region 7 with (fail)
  go_cut [8, 9] (fun v8 v9 wc => v8 = .int .i64 num ∧ v9 = .int .i64 den ∧ Aside0 (Below w.heap.size w wc) ∧ Aside0 (wc.heap[w.heap.size + 1]? = some (.cells #[.int .i64 0, .int .i64 0] 28 (0, 0))))
  case first =>
    go_region_with (first | (go_at_call 58; refine (sc58 _).mono ?_; rintro e w' ⟨rfl, rfl⟩) | (go_at_call 66; refine (HSC.out _).mono ?_; rintro e w' ⟨rfl, hb⟩))
    all_goals
      (try go_wp2_with fail)
      go_meet
      case rel =>
        exact ⟨rfl, rfl, ⟨below_step (by repeat (first | exact Below.refl _ _ | exact Below.refl _ _ | apply below_alloc | apply pw_below_drewN | apply below_drew)) hb⟩, ⟨blk_below (by repeat (first | exact blk_second _ _ _ | refine blk_alloc ?_ _ | refine blk_drewN ?_ _ | refine blk_drew ?_)) hb⟩⟩
  case rest =>
    obtain ⟨rfl, rfl, HB, HK⟩ := hcut
    by_cases hd : den = 0
    · have hd1 : (den == 0) = true := beq_iff_eq.2 hd
      have hq := (scR_zero hd).symm.trans HR.out
      simp only [Prod.mk.injEq] at hq
      obtain ⟨rfl, rfl, rfl⟩ := hq
      clear hd
      have hz0_ : wc.cell? ⟨w.heap.size + 1, 0, none⟩ = some (.int .i64 0) := (blk_cell HK.out 0).trans rfl; have hf0_ := blk_frozen HK.out 0; have hz1_ : wc.cell? ⟨w.heap.size + 1, 1, none⟩ = some (.int .i64 0) := (blk_cell HK.out 1).trans rfl; have hf1_ := blk_frozen HK.out 1
      go_wp2_with fail
      refine bodyPost_ret (results_ct rfl _ _ (w.heap.size + 1) 28 #[.int .i64 (0), .int .i64 (0)] (0, 0) _ rfl (by repeat (first | exact HK.out | refine blk_alloc ?_ _ | refine blk_drewN ?_ _ | refine blk_drew ?_ | refine blk_put (cs := #[.int .i64 (0), .int .i64 0]) ?_ 1 _ rfl | refine blk_put (cs := #[.int .i64 0, .int .i64 0]) ?_ 0 _ rfl)) Try.underlying28 rfl (by kernel_rfl)) rfl ?_
      exact ⟨rfl, by repeat (first | exact HB.out | exact Below.refl _ _ | apply below_alloc | apply pw_below_drewN | apply below_drew | refine below_set ?_ (by omega))⟩
    · have hd1 : (den == 0) = false := beq_eq_false_iff_ne.2 hd
      have HQ := Aside0.mk ((scR_some hd).symm.trans HR.out)
      clear hd
      go_wp2_with (go_at_call 36; refine (Reduce_is _ _ _ _ _ HQ.out _).mono ?_; rintro e w2 ⟨rfl, hb2⟩; have HB2 := Aside0.mk (below_step (by repeat (first | exact HB.out | exact Below.refl _ _ | apply below_alloc | apply pw_below_drewN | apply below_drew)) hb2); have HK2 := Aside0.mk (blk_below (by repeat (first | exact HK.out | refine blk_alloc ?_ _ | refine blk_drewN ?_ _ | refine blk_drew ?_)) hb2); clear HB HK hb2; have hz0_ : w2.cell? ⟨w.heap.size + 1, 0, none⟩ = some (.int .i64 0) := (blk_cell HK2.out 0).trans rfl; have hf0_ := blk_frozen HK2.out 0; have hz1_ : w2.cell? ⟨w.heap.size + 1, 1, none⟩ = some (.int .i64 0) := (blk_cell HK2.out 1).trans rfl; have hf1_ := blk_frozen HK2.out 1)
      refine bodyPost_ret (results_ct rfl _ _ (w.heap.size + 1) 28 #[.int .i64 (r1), .int .i64 (r2)] (0, 0) _ rfl (by repeat (first | exact HK2.out | refine blk_alloc ?_ _ | refine blk_drewN ?_ _ | refine blk_drew ?_ | refine blk_put (cs := #[.int .i64 (r1), .int .i64 0]) ?_ 1 _ rfl | refine blk_put (cs := #[.int .i64 0, .int .i64 0]) ?_ 0 _ rfl)) Try.underlying28 rfl (by kernel_rfl)) rfl ?_
      exact ⟨rfl, by repeat (first | exact HB2.out | exact Below.refl _ _ | apply below_alloc | apply pw_below_drewN | apply below_drew | refine below_set ?_ (by omega))⟩

set_option maxHeartbeats 2000000 in
theorem of2_in (h a m o : Int) (w : World) (h1 : inr h = true) (h2 : inr a = true) (h3 : inr m = true) (h4 : inr o = true) (num den r1 r2 r3 : Int) (hnum : num = h) (hden : den = wrap64 (wrap64 (h + a) + m)) (hr : scR num den = (r1, r2, r3)) :
    Calls Try.prog 40 #[.int .i64 2, .agg #[.int .i64 h, .int .i64 a, .int .i64 m, .int .i64 o]] w fun e w' => e = .returned (.tuple #[.agg #[.int .i64 r1, .int .i64 r2], .int .i64 r3]) ∧ Below w.heap.size w w' := by
  have HR := Aside0.mk hr
  clear hr
  have hsc : ∀ W : World, Calls Try.prog 67 #[.agg #[.int .i64 h, .int .i64 a, .int .i64 m, .int .i64 o]] W fun e w' => e = .returned (.tuple #[.int .i64 num, .int .i64 den]) ∧ Below W.heap.size W w' := by
    intro W
    rw [hnum, hden]
    exact sc67 h a m o W
  have HSC := Aside0.mk hsc
  clear hsc hnum hden
  go_enter Try.func40, Try.ntmps40
  go_wp2_with fail
  refine wp_loop_rounds 5 ?_
  iterate 4 (rw [rounds_succ]; go_wp2_with (go_at_call 46; refine (within_any _ _).mono ?_; rintro e w' ⟨rfl, ⟨nd, rfl⟩⟩))
  rw [rounds_succ]
  go_upto_region 7 with (fail)
  go_cut [8, 9] (fun v8 v9 wc => v8 = .int .i64 num ∧ v9 = .int .i64 den ∧ Aside0 (Below w.heap.size w wc) ∧ Aside0 (wc.heap[w.heap.size + 1]? = some (.cells #[.int .i64 0, .int .i64 0] 28 (0, 0))))
  case first =>
    go_region_with (first | (go_at_call 58; refine (sc58 _).mono ?_; rintro e w' ⟨rfl, rfl⟩) | (go_at_call 67; refine (HSC.out _).mono ?_; rintro e w' ⟨rfl, hb⟩))
    all_goals
      (try go_wp2_with fail)
      go_meet
      case rel =>
        exact ⟨rfl, rfl, ⟨below_step (by repeat (first | exact Below.refl _ _ | exact Below.refl _ _ | apply below_alloc | apply pw_below_drewN | apply below_drew)) hb⟩, ⟨blk_below (by repeat (first | exact blk_second _ _ _ | refine blk_alloc ?_ _ | refine blk_drewN ?_ _ | refine blk_drew ?_)) hb⟩⟩
  case rest =>
    obtain ⟨rfl, rfl, HB, HK⟩ := hcut
    by_cases hd : den = 0
    · have hd1 : (den == 0) = true := beq_iff_eq.2 hd
      have hq := (scR_zero hd).symm.trans HR.out
      simp only [Prod.mk.injEq] at hq
      obtain ⟨rfl, rfl, rfl⟩ := hq
      clear hd
      have hz0_ : wc.cell? ⟨w.heap.size + 1, 0, none⟩ = some (.int .i64 0) := (blk_cell HK.out 0).trans rfl; have hf0_ := blk_frozen HK.out 0; have hz1_ : wc.cell? ⟨w.heap.size + 1, 1, none⟩ = some (.int .i64 0) := (blk_cell HK.out 1).trans rfl; have hf1_ := blk_frozen HK.out 1
      go_wp2_with fail
      refine bodyPost_ret (results_ct rfl _ _ (w.heap.size + 1) 28 #[.int .i64 (0), .int .i64 (0)] (0, 0) _ rfl (by repeat (first | exact HK.out | refine blk_alloc ?_ _ | refine blk_drewN ?_ _ | refine blk_drew ?_ | refine blk_put (cs := #[.int .i64 (0), .int .i64 0]) ?_ 1 _ rfl | refine blk_put (cs := #[.int .i64 0, .int .i64 0]) ?_ 0 _ rfl)) Try.underlying28 rfl (by kernel_rfl)) rfl ?_
      exact ⟨rfl, by repeat (first | exact HB.out | exact Below.refl _ _ | apply below_alloc | apply pw_below_drewN | apply below_drew | refine below_set ?_ (by omega))⟩
    · have hd1 : (den == 0) = false := beq_eq_false_iff_ne.2 hd
      have HQ := Aside0.mk ((scR_some hd).symm.trans HR.out)
      clear hd
      go_wp2_with (go_at_call 36; refine (Reduce_is _ _ _ _ _ HQ.out _).mono ?_; rintro e w2 ⟨rfl, hb2⟩; have HB2 := Aside0.mk (below_step (by repeat (first | exact HB.out | exact Below.refl _ _ | apply below_alloc | apply pw_below_drewN | apply below_drew)) hb2); have HK2 := Aside0.mk (blk_below (by repeat (first | exact HK.out | refine blk_alloc ?_ _ | refine blk_drewN ?_ _ | refine blk_drew ?_)) hb2); clear HB HK hb2; have hz0_ : w2.cell? ⟨w.heap.size + 1, 0, none⟩ = some (.int .i64 0) := (blk_cell HK2.out 0).trans rfl; have hf0_ := blk_frozen HK2.out 0; have hz1_ : w2.cell? ⟨w.heap.size + 1, 1, none⟩ = some (.int .i64 0) := (blk_cell HK2.out 1).trans rfl; have hf1_ := blk_frozen HK2.out 1)
      refine bodyPost_ret (results_ct rfl _ _ (w.heap.size + 1) 28 #[.int .i64 (r1), .int .i64 (r2)] (0, 0) _ rfl (by repeat (first | exact HK2.out | refine blk_alloc ?_ _ | refine blk_drewN ?_ _ | refine blk_drew ?_ | refine blk_put (cs := #[.int .i64 (r1), .int .i64 0]) ?_ 1 _ rfl | refine blk_put (cs := #[.int .i64 0, .int .i64 0]) ?_ 0 _ rfl)) Try.underlying28 rfl (by kernel_rfl)) rfl ?_
      exact ⟨rfl, by repeat (first | exact HB2.out | exact Below.refl _ _ | apply below_alloc | apply pw_below_drewN | apply below_drew | refine below_set ?_ (by omega))⟩

set_option maxHeartbeats 2000000 in
theorem of3_in (h a m o : Int) (w : World) (h1 : inr h = true) (h2 : inr a = true) (h3 : inr m = true) (h4 : inr o = true) (num den r1 r2 r3 : Int) (hnum : num = wrap64 (2 * wrap64 (wrap64 (h * o) - wrap64 (a * m)))) (hden : den = wrap64 (wrap64 (wrap64 (h + m) * wrap64 (m + o)) + wrap64 (wrap64 (h + a) * wrap64 (a + o)))) (hr : scR num den = (r1, r2, r3)) :
    Calls Try.prog 40 #[.int .i64 3, .agg #[.int .i64 h, .int .i64 a, .int .i64 m, .int .i64 o]] w fun e w' => e = .returned (.tuple #[.agg #[.int .i64 r1, .int .i64 r2], .int .i64 r3]) ∧ Below w.heap.size w w' := by
  have HR := Aside0.mk hr
  clear hr
  have hsc : ∀ W : World, Calls Try.prog 68 #[.agg #[.int .i64 h, .int .i64 a, .int .i64 m, .int .i64 o]] W fun e w' => e = .returned (.tuple #[.int .i64 num, .int .i64 den]) ∧ Below W.heap.size W w' := by
    intro W
    rw [hnum, hden]
    exact sc68 h a m o W
  have HSC := Aside0.mk hsc
  clear hsc hnum hden
  go_enter Try.func40, Try.ntmps40
  go_wp2_with fail
  refine wp_loop_rounds 5 ?_
  iterate 4 (rw [rounds_succ]; go_wp2_with (go_at_call 46; refine (within_any _ _).mono ?_; rintro e w' ⟨rfl, ⟨nd, rfl⟩⟩))
  rw [rounds_succ]
  go_upto_region 7 with (fail)
  go_cut [8, 9] (fun v8 v9 wc => v8 = .int .i64 num ∧ v9 = .int .i64 den ∧ Aside0 (Below w.heap.size w wc) ∧ Aside0 (wc.heap[w.heap.size + 1]? = some (.cells #[.int .i64 0, .int .i64 0] 28 (0, 0))))
  case first =>
    go_region_with (first | (go_at_call 58; refine (sc58 _).mono ?_; rintro e w' ⟨rfl, rfl⟩) | (go_at_call 68; refine (HSC.out _).mono ?_; rintro e w' ⟨rfl, hb⟩))
    all_goals
      (try go_wp2_with fail)
      go_meet
      case rel =>
        exact ⟨rfl, rfl, ⟨below_step (by repeat (first | exact Below.refl _ _ | exact Below.refl _ _ | apply below_alloc | apply pw_below_drewN | apply below_drew)) hb⟩, ⟨blk_below (by repeat (first | exact blk_second _ _ _ | refine blk_alloc ?_ _ | refine blk_drewN ?_ _ | refine blk_drew ?_)) hb⟩⟩
  case rest =>
    obtain ⟨rfl, rfl, HB, HK⟩ := hcut
    by_cases hd : den = 0
    · have hd1 : (den == 0) = true := beq_iff_eq.2 hd
      have hq := (scR_zero hd).symm.trans HR.out
      simp only [Prod.mk.injEq] at hq
      obtain ⟨rfl, rfl, rfl⟩ := hq
      clear hd
      have hz0_ : wc.cell? ⟨w.heap.size + 1, 0, none⟩ = some (.int .i64 0) := (blk_cell HK.out 0).trans rfl; have hf0_ := blk_frozen HK.out 0; have hz1_ : wc.cell? ⟨w.heap.size + 1, 1, none⟩ = some (.int .i64 0) := (blk_cell HK.out 1).trans rfl; have hf1_ := blk_frozen HK.out 1
      go_wp2_with fail
      refine bodyPost_ret (results_ct rfl _ _ (w.heap.size + 1) 28 #[.int .i64 (0), .int .i64 (0)] (0, 0) _ rfl (by repeat (first | exact HK.out | refine blk_alloc ?_ _ | refine blk_drewN ?_ _ | refine blk_drew ?_ | refine blk_put (cs := #[.int .i64 (0), .int .i64 0]) ?_ 1 _ rfl | refine blk_put (cs := #[.int .i64 0, .int .i64 0]) ?_ 0 _ rfl)) Try.underlying28 rfl (by kernel_rfl)) rfl ?_
      exact ⟨rfl, by repeat (first | exact HB.out | exact Below.refl _ _ | apply below_alloc | apply pw_below_drewN | apply below_drew | refine below_set ?_ (by omega))⟩
    · have hd1 : (den == 0) = false := beq_eq_false_iff_ne.2 hd
      have HQ := Aside0.mk ((scR_some hd).symm.trans HR.out)
      clear hd
      go_wp2_with (go_at_call 36; refine (Reduce_is _ _ _ _ _ HQ.out _).mono ?_; rintro e w2 ⟨rfl, hb2⟩; have HB2 := Aside0.mk (below_step (by repeat (first | exact HB.out | exact Below.refl _ _ | apply below_alloc | apply pw_below_drewN | apply below_drew)) hb2); have HK2 := Aside0.mk (blk_below (by repeat (first | exact HK.out | refine blk_alloc ?_ _ | refine blk_drewN ?_ _ | refine blk_drew ?_)) hb2); clear HB HK hb2; have hz0_ : w2.cell? ⟨w.heap.size + 1, 0, none⟩ = some (.int .i64 0) := (blk_cell HK2.out 0).trans rfl; have hf0_ := blk_frozen HK2.out 0; have hz1_ : w2.cell? ⟨w.heap.size + 1, 1, none⟩ = some (.int .i64 0) := (blk_cell HK2.out 1).trans rfl; have hf1_ := blk_frozen HK2.out 1)
      refine bodyPost_ret (results_ct rfl _ _ (w.heap.size + 1) 28 #[.int .i64 (r1), .int .i64 (r2)] (0, 0) _ rfl (by repeat (first | exact HK2.out | refine blk_alloc ?_ _ | refine blk_drewN ?_ _ | refine blk_drew ?_ | refine blk_put (cs := #[.int .i64 (r1), .int .i64 0]) ?_ 1 _ rfl | refine blk_put (cs := #[.int .i64 0, .int .i64 0]) ?_ 0 _ rfl)) Try.underlying28 rfl (by kernel_rfl)) rfl ?_
      exact ⟨rfl, by repeat (first | exact HB2.out | exact Below.refl _ _ | apply below_alloc | apply pw_below_drewN | apply below_drew | refine below_set ?_ (by omega))⟩

set_option maxHeartbeats 1000000 in
theorem of_out0 (j h a m o : Int) (w : World)  (h0 : inr h = false) :
    Calls Try.prog 40 #[.int .i64 j, .agg #[.int .i64 h, .int .i64 a, .int .i64 m, .int .i64 o]] w fun e w' => e = .returned (.tuple #[.agg #[.int .i64 0, .int .i64 0], .int .i64 1]) ∧ Below w.heap.size w w' := by
  have hk := blk_second (w.alloc (.cells #[.int .i64 h, .int .i64 a, .int .i64 m, .int .i64 o] 23)) (.cells #[.int .i64 0, .int .i64 0] 28)
  clear hk
  go_enter Try.func40, Try.ntmps40
  go_wp2_with fail
  refine wp_loop_rounds 5 ?_
  iterate 1 (rw [rounds_succ]; go_wp2_with (go_at_call 46; refine (within_any _ _).mono ?_; rintro e w' ⟨rfl, ⟨nd, rfl⟩⟩))
  refine bodyPost_ret (results_ct rfl _ _ (w.heap.size + 1) 28 #[.int .i64 (0), .int .i64 (0)] (0, 0) _ rfl (by repeat (first | exact blk_second _ _ _ | refine blk_alloc ?_ _ | refine blk_drewN ?_ _ | refine blk_drew ?_ | refine blk_put (cs := #[.int .i64 (0), .int .i64 0]) ?_ 1 _ rfl | refine blk_put (cs := #[.int .i64 0, .int .i64 0]) ?_ 0 _ rfl)) Try.underlying28 rfl (by kernel_rfl)) rfl ?_
  exact ⟨rfl, by repeat (first | exact Below.refl _ _ | exact Below.refl _ _ | apply below_alloc | apply pw_below_drewN | apply below_drew | refine below_set ?_ (by omega))⟩

set_option maxHeartbeats 1000000 in
theorem of_out1 (j h a m o : Int) (w : World) (h0 : inr h = true) (h1 : inr a = false) :
    Calls Try.prog 40 #[.int .i64 j, .agg #[.int .i64 h, .int .i64 a, .int .i64 m, .int .i64 o]] w fun e w' => e = .returned (.tuple #[.agg #[.int .i64 0, .int .i64 0], .int .i64 1]) ∧ Below w.heap.size w w' := by
  have hk := blk_second (w.alloc (.cells #[.int .i64 h, .int .i64 a, .int .i64 m, .int .i64 o] 23)) (.cells #[.int .i64 0, .int .i64 0] 28)
  clear hk
  go_enter Try.func40, Try.ntmps40
  go_wp2_with fail
  refine wp_loop_rounds 5 ?_
  iterate 2 (rw [rounds_succ]; go_wp2_with (go_at_call 46; refine (within_any _ _).mono ?_; rintro e w' ⟨rfl, ⟨nd, rfl⟩⟩))
  refine bodyPost_ret (results_ct rfl _ _ (w.heap.size + 1) 28 #[.int .i64 (0), .int .i64 (0)] (0, 0) _ rfl (by repeat (first | exact blk_second _ _ _ | refine blk_alloc ?_ _ | refine blk_drewN ?_ _ | refine blk_drew ?_ | refine blk_put (cs := #[.int .i64 (0), .int .i64 0]) ?_ 1 _ rfl | refine blk_put (cs := #[.int .i64 0, .int .i64 0]) ?_ 0 _ rfl)) Try.underlying28 rfl (by kernel_rfl)) rfl ?_
  exact ⟨rfl, by repeat (first | exact Below.refl _ _ | exact Below.refl _ _ | apply below_alloc | apply pw_below_drewN | apply below_drew | refine below_set ?_ (by omega))⟩

set_option maxHeartbeats 1000000 in
theorem of_out2 (j h a m o : Int) (w : World) (h0 : inr h = true) (h1 : inr a = true) (h2 : inr m = false) :
    Calls Try.prog 40 #[.int .i64 j, .agg #[.int .i64 h, .int .i64 a, .int .i64 m, .int .i64 o]] w fun e w' => e = .returned (.tuple #[.agg #[.int .i64 0, .int .i64 0], .int .i64 1]) ∧ Below w.heap.size w w' := by
  have hk := blk_second (w.alloc (.cells #[.int .i64 h, .int .i64 a, .int .i64 m, .int .i64 o] 23)) (.cells #[.int .i64 0, .int .i64 0] 28)
  clear hk
  go_enter Try.func40, Try.ntmps40
  go_wp2_with fail
  refine wp_loop_rounds 5 ?_
  iterate 3 (rw [rounds_succ]; go_wp2_with (go_at_call 46; refine (within_any _ _).mono ?_; rintro e w' ⟨rfl, ⟨nd, rfl⟩⟩))
  refine bodyPost_ret (results_ct rfl _ _ (w.heap.size + 1) 28 #[.int .i64 (0), .int .i64 (0)] (0, 0) _ rfl (by repeat (first | exact blk_second _ _ _ | refine blk_alloc ?_ _ | refine blk_drewN ?_ _ | refine blk_drew ?_ | refine blk_put (cs := #[.int .i64 (0), .int .i64 0]) ?_ 1 _ rfl | refine blk_put (cs := #[.int .i64 0, .int .i64 0]) ?_ 0 _ rfl)) Try.underlying28 rfl (by kernel_rfl)) rfl ?_
  exact ⟨rfl, by repeat (first | exact Below.refl _ _ | exact Below.refl _ _ | apply below_alloc | apply pw_below_drewN | apply below_drew | refine below_set ?_ (by omega))⟩

set_option maxHeartbeats 1000000 in
theorem of_out3 (j h a m o : Int) (w : World) (h0 : inr h = true) (h1 : inr a = true) (h2 : inr m = true) (h3 : inr o = false) :
    Calls Try.prog 40 #[.int .i64 j, .agg #[.int .i64 h, .int .i64 a, .int .i64 m, .int .i64 o]] w fun e w' => e = .returned (.tuple #[.agg #[.int .i64 0, .int .i64 0], .int .i64 1]) ∧ Below w.heap.size w w' := by
  have hk := blk_second (w.alloc (.cells #[.int .i64 h, .int .i64 a, .int .i64 m, .int .i64 o] 23)) (.cells #[.int .i64 0, .int .i64 0] 28)
  clear hk
  go_enter Try.func40, Try.ntmps40
  go_wp2_with fail
  refine wp_loop_rounds 5 ?_
  iterate 4 (rw [rounds_succ]; go_wp2_with (go_at_call 46; refine (within_any _ _).mono ?_; rintro e w' ⟨rfl, ⟨nd, rfl⟩⟩))
  refine bodyPost_ret (results_ct rfl _ _ (w.heap.size + 1) 28 #[.int .i64 (0), .int .i64 (0)] (0, 0) _ rfl (by repeat (first | exact blk_second _ _ _ | refine blk_alloc ?_ _ | refine blk_drewN ?_ _ | refine blk_drew ?_ | refine blk_put (cs := #[.int .i64 (0), .int .i64 0]) ?_ 1 _ rfl | refine blk_put (cs := #[.int .i64 0, .int .i64 0]) ?_ 0 _ rfl)) Try.underlying28 rfl (by kernel_rfl)) rfl ?_
  exact ⟨rfl, by repeat (first | exact Below.refl _ _ | exact Below.refl _ _ | apply below_alloc | apply pw_below_drewN | apply below_drew | refine below_set ?_ (by omega))⟩

theorem of0_any (h a m o : Int) (w : World) : Calls Try.prog 40 #[.int .i64 0, .agg #[.int .i64 h, .int .i64 a, .int .i64 m, .int .i64 o]] w fun e w' => e = .returned (.tuple #[.agg #[.int .i64 (ofR (h) (wrap64 (h + m)) h a m o).1, .int .i64 (ofR (h) (wrap64 (h + m)) h a m o).2.1], .int .i64 (ofR (h) (wrap64 (h + m)) h a m o).2.2]) ∧ Below w.heap.size w w' := by
  by_cases h1 : inr h = true
  · by_cases h2 : inr a = true
    · by_cases h3 : inr m = true
      · by_cases h4 : inr o = true
        · rw [ofR_all _ _ _ _ _ _ h1 h2 h3 h4]
          exact of0_in h a m o w h1 h2 h3 h4 _ _ _ _ _ rfl rfl rfl
        · have e : ofR (h) (wrap64 (h + m)) h a m o = (0, 0, 1) := by simp [ofR, h1, h2, h3, h4]
          rw [e]
          exact of_out3 0 h a m o w h1 h2 h3 (by simpa using h4)
      · have e : ofR (h) (wrap64 (h + m)) h a m o = (0, 0, 1) := by simp [ofR, h1, h2, h3]
        rw [e]
        exact of_out2 0 h a m o w h1 h2 (by simpa using h3)
    · have e : ofR (h) (wrap64 (h + m)) h a m o = (0, 0, 1) := by simp [ofR, h1, h2]
      rw [e]
      exact of_out1 0 h a m o w h1 (by simpa using h2)
  · have e : ofR (h) (wrap64 (h + m)) h a m o = (0, 0, 1) := by simp [ofR, h1]
    rw [e]
    exact of_out0 0 h a m o w (by simpa using h1)

theorem of1_any (h a m o : Int) (w : World) : Calls Try.prog 40 #[.int .i64 1, .agg #[.int .i64 h, .int .i64 a, .int .i64 m, .int .i64 o]] w fun e w' => e = .returned (.tuple #[.agg #[.int .i64 (ofR (a) (wrap64 (h + a)) h a m o).1, .int .i64 (ofR (a) (wrap64 (h + a)) h a m o).2.1], .int .i64 (ofR (a) (wrap64 (h + a)) h a m o).2.2]) ∧ Below w.heap.size w w' := by
  by_cases h1 : inr h = true
  · by_cases h2 : inr a = true
    · by_cases h3 : inr m = true
      · by_cases h4 : inr o = true
        · rw [ofR_all _ _ _ _ _ _ h1 h2 h3 h4]
          exact of1_in h a m o w h1 h2 h3 h4 _ _ _ _ _ rfl rfl rfl
        · have e : ofR (a) (wrap64 (h + a)) h a m o = (0, 0, 1) := by simp [ofR, h1, h2, h3, h4]
          rw [e]
          exact of_out3 1 h a m o w h1 h2 h3 (by simpa using h4)
      · have e : ofR (a) (wrap64 (h + a)) h a m o = (0, 0, 1) := by simp [ofR, h1, h2, h3]
        rw [e]
        exact of_out2 1 h a m o w h1 h2 (by simpa using h3)
    · have e : ofR (a) (wrap64 (h + a)) h a m o = (0, 0, 1) := by simp [ofR, h1, h2]
      rw [e]
      exact of_out1 1 h a m o w h1 (by simpa using h2)
  · have e : ofR (a) (wrap64 (h + a)) h a m o = (0, 0, 1) := by simp [ofR, h1]
    rw [e]
    exact of_out0 1 h a m o w (by simpa using h1)

theorem of2_any (h a m o : Int) (w : World) : Calls Try.prog 40 #[.int .i64 2, .agg #[.int .i64 h, .int .i64 a, .int .i64 m, .int .i64 o]] w fun e w' => e = .returned (.tuple #[.agg #[.int .i64 (ofR (h) (wrap64 (wrap64 (h + a) + m)) h a m o).1, .int .i64 (ofR (h) (wrap64 (wrap64 (h + a) + m)) h a m o).2.1], .int .i64 (ofR (h) (wrap64 (wrap64 (h + a) + m)) h a m o).2.2]) ∧ Below w.heap.size w w' := by
  by_cases h1 : inr h = true
  · by_cases h2 : inr a = true
    · by_cases h3 : inr m = true
      · by_cases h4 : inr o = true
        · rw [ofR_all _ _ _ _ _ _ h1 h2 h3 h4]
          exact of2_in h a m o w h1 h2 h3 h4 _ _ _ _ _ rfl rfl rfl
        · have e : ofR (h) (wrap64 (wrap64 (h + a) + m)) h a m o = (0, 0, 1) := by simp [ofR, h1, h2, h3, h4]
          rw [e]
          exact of_out3 2 h a m o w h1 h2 h3 (by simpa using h4)
      · have e : ofR (h) (wrap64 (wrap64 (h + a) + m)) h a m o = (0, 0, 1) := by simp [ofR, h1, h2, h3]
        rw [e]
        exact of_out2 2 h a m o w h1 h2 (by simpa using h3)
    · have e : ofR (h) (wrap64 (wrap64 (h + a) + m)) h a m o = (0, 0, 1) := by simp [ofR, h1, h2]
      rw [e]
      exact of_out1 2 h a m o w h1 (by simpa using h2)
  · have e : ofR (h) (wrap64 (wrap64 (h + a) + m)) h a m o = (0, 0, 1) := by simp [ofR, h1]
    rw [e]
    exact of_out0 2 h a m o w (by simpa using h1)

theorem of3_any (h a m o : Int) (w : World) : Calls Try.prog 40 #[.int .i64 3, .agg #[.int .i64 h, .int .i64 a, .int .i64 m, .int .i64 o]] w fun e w' => e = .returned (.tuple #[.agg #[.int .i64 (ofR (wrap64 (2 * wrap64 (wrap64 (h * o) - wrap64 (a * m)))) (wrap64 (wrap64 (wrap64 (h + m) * wrap64 (m + o)) + wrap64 (wrap64 (h + a) * wrap64 (a + o)))) h a m o).1, .int .i64 (ofR (wrap64 (2 * wrap64 (wrap64 (h * o) - wrap64 (a * m)))) (wrap64 (wrap64 (wrap64 (h + m) * wrap64 (m + o)) + wrap64 (wrap64 (h + a) * wrap64 (a + o)))) h a m o).2.1], .int .i64 (ofR (wrap64 (2 * wrap64 (wrap64 (h * o) - wrap64 (a * m)))) (wrap64 (wrap64 (wrap64 (h + m) * wrap64 (m + o)) + wrap64 (wrap64 (h + a) * wrap64 (a + o)))) h a m o).2.2]) ∧ Below w.heap.size w w' := by
  by_cases h1 : inr h = true
  · by_cases h2 : inr a = true
    · by_cases h3 : inr m = true
      · by_cases h4 : inr o = true
        · rw [ofR_all _ _ _ _ _ _ h1 h2 h3 h4]
          exact of3_in h a m o w h1 h2 h3 h4 _ _ _ _ _ rfl rfl rfl
        · have e : ofR (wrap64 (2 * wrap64 (wrap64 (h * o) - wrap64 (a * m)))) (wrap64 (wrap64 (wrap64 (h + m) * wrap64 (m + o)) + wrap64 (wrap64 (h + a) * wrap64 (a + o)))) h a m o = (0, 0, 1) := by simp [ofR, h1, h2, h3, h4]
          rw [e]
          exact of_out3 3 h a m o w h1 h2 h3 (by simpa using h4)
      · have e : ofR (wrap64 (2 * wrap64 (wrap64 (h * o) - wrap64 (a * m)))) (wrap64 (wrap64 (wrap64 (h + m) * wrap64 (m + o)) + wrap64 (wrap64 (h + a) * wrap64 (a + o)))) h a m o = (0, 0, 1) := by simp [ofR, h1, h2, h3]
        rw [e]
        exact of_out2 3 h a m o w h1 h2 (by simpa using h3)
    · have e : ofR (wrap64 (2 * wrap64 (wrap64 (h * o) - wrap64 (a * m)))) (wrap64 (wrap64 (wrap64 (h + m) * wrap64 (m + o)) + wrap64 (wrap64 (h + a) * wrap64 (a + o)))) h a m o = (0, 0, 1) := by simp [ofR, h1, h2]
      rw [e]
      exact of_out1 3 h a m o w h1 (by simpa using h2)
  · have e : ofR (wrap64 (2 * wrap64 (wrap64 (h * o) - wrap64 (a * m)))) (wrap64 (wrap64 (wrap64 (h + m) * wrap64 (m + o)) + wrap64 (wrap64 (h + a) * wrap64 (a + o)))) h a m o = (0, 0, 1) := by simp [ofR, h1]
    rw [e]
    exact of_out0 3 h a m o w (by simpa using h1)
end Go.Proofs.Ytbnjbdjjedndbaa.B
