/- Made by our program mkbase.py out of the printed functions of this seat: LNarrow. -/
import Derived.Test.YtbnkcajdgmbidaaDoorB1
import Derived.Test.YtbnkcajdgmbidaaDoorBA
namespace Go.Proofs.YtbnkcajdgmbidaaDoor.B
open Go.RowKit Go.Proofs.YtbnkcajdgmbidaaDoorW.PrintWords Go.Proofs.YtbnkcajdgmbidaaDoorW.PrintLast Go.Proofs.YtbnkcajdgmbidaaDoorW.PrintMore
attribute [local go_sem] max2_int min2_int max_two min_two max_three min_three max_four min_four   -- for this text's walks alone
set_option linter.unusedVariables false
set_option linter.unusedSimpArgs false

/-! ### synopticlaw14_LimitsNarrow: function 4 -/
mutual
def synopticlaw14_LimitsNarrow.l0 : Nat → Int → Int → Int → Int → Int → ByteArray → Int → Int → Int → Option (Bool)
  | 0, _, _, _, _, _, _, _, _, _ => none
  | k + 1, x1, x5, x8, x9, x10, x141000, x141001, x141002, x141003 => if x10 ≤ (wrap64 (x141002 + 1)) then ((limits_Gross.f x5 x10).bind fun t141 => (if t141 = true then (synopticlaw14_LimitsNarrow.l0 k x1 x5 (mn x8 x10) (mx x9 x10) (wrap64 (x10 + 1)) x141000 x141001 x141002 x141003) else (synopticlaw14_LimitsNarrow.l0 k x1 x5 x8 x9 (wrap64 (x10 + 1)) x141000 x141001 x141002 x141003))) else (if x8 > x9 then (none) else (if x8 < x141001 then (none) else (if x9 > x141002 then (none) else (synopticlaw14_LimitsNarrow.j1 k x1 x5 x8 x9 false))))
def synopticlaw14_LimitsNarrow.j1 : Nat → Int → Int → Int → Int → Bool → Option (Bool)
  | 0, _, _, _, _, _ => none
  | k + 1, x1, x5, x8, x9, x59 => if x59 = true then (none) else ((limits_Gross.f x5 x1).bind fun t142 => (if x1 ≥ x8 then (if (t142 == (decide (x1 ≤ x9))) = true then ((synopticlaw14_awake.f k).bind fun t143 => (some t143)) else (none)) else (if (t142 == false) = true then ((synopticlaw14_awake.f k).bind fun t144 => (some t144)) else (none))))
end
def synopticlaw14_LimitsNarrow.f (k : Nat) (a0 : Int) (a1 : Int) : Option (Bool) := (synoptickeep_Mod.f a0 11).bind fun t134 => ((synopticref04_Describe.f (wrap64 (1 + t134))).bind fun bt135 => (synopticlaw14_LimitsNarrow.l0 k a1 (wrap64 (1 + t134)) (wrap64 (bt135.2.2.1 + 1)) (wrap64 (bt135.2.1 - 1)) (wrap64 (bt135.2.1 - 1)) bt135.1 bt135.2.1 bt135.2.2.1 bt135.2.2.2.1))
theorem synopticlaw14_LimitsNarrow.mono_l : ∀ k, (∀ y0 y1 y2 y3 y4 y5 y6 y7 y8, LeO (synopticlaw14_LimitsNarrow.l0 k y0 y1 y2 y3 y4 y5 y6 y7 y8) (synopticlaw14_LimitsNarrow.l0 (k + 1) y0 y1 y2 y3 y4 y5 y6 y7 y8)) ∧ (∀ y0 y1 y2 y3 y4, LeO (synopticlaw14_LimitsNarrow.j1 k y0 y1 y2 y3 y4) (synopticlaw14_LimitsNarrow.j1 (k + 1) y0 y1 y2 y3 y4))
  | 0 => ⟨fun _ _ _ _ _ _ _ _ _ r h => by simp [synopticlaw14_LimitsNarrow.l0] at h, fun _ _ _ _ _ r h => by simp [synopticlaw14_LimitsNarrow.j1] at h⟩
  | k + 1 => by
    obtain ⟨ih0, ih1⟩ := synopticlaw14_LimitsNarrow.mono_l k
    refine ⟨?_, ?_⟩
    · intro y0 y1 y2 y3 y4 y5 y6 y7 y8
      unfold synopticlaw14_LimitsNarrow.l0
      repeat' first
      | (with_reducible exact ih0 _ _ _ _ _ _ _ _ _)
      | (with_reducible exact ih1 _ _ _ _ _)
      | (with_reducible exact synopticlaw14_awake.mono _)
      | (with_reducible exact LeO.refl _)
      | (with_reducible exact LeO.none _)
      | (with_reducible refine LeO.ite ?_ ?_)
      | (with_reducible refine LeO.bind ?_ (fun _ => ?_))
      | exact ih0 _ _ _ _ _ _ _ _ _
      | exact ih1 _ _ _ _ _
      | exact synopticlaw14_awake.mono _
      | exact LeO.none _
      | refine LeO.ite ?_ ?_
      | refine LeO.bind ?_ (fun _ => ?_)
    · intro y0 y1 y2 y3 y4
      unfold synopticlaw14_LimitsNarrow.j1
      repeat' first
      | (with_reducible exact ih0 _ _ _ _ _ _ _ _ _)
      | (with_reducible exact ih1 _ _ _ _ _)
      | (with_reducible exact synopticlaw14_awake.mono _)
      | (with_reducible exact LeO.refl _)
      | (with_reducible exact LeO.none _)
      | (with_reducible refine LeO.ite ?_ ?_)
      | (with_reducible refine LeO.bind ?_ (fun _ => ?_))
      | exact ih0 _ _ _ _ _ _ _ _ _
      | exact ih1 _ _ _ _ _
      | exact synopticlaw14_awake.mono _
      | exact LeO.none _
      | refine LeO.ite ?_ ?_
      | refine LeO.bind ?_ (fun _ => ?_)
theorem synopticlaw14_LimitsNarrow.mono : ∀ a0 a1 k, LeO (synopticlaw14_LimitsNarrow.f k a0 a1) (synopticlaw14_LimitsNarrow.f (k + 1) a0 a1) := by
  intro a0 a1 k
  obtain ⟨ih0, ih1⟩ := synopticlaw14_LimitsNarrow.mono_l k
  unfold synopticlaw14_LimitsNarrow.f
  repeat' first
      | (with_reducible exact ih0 _ _ _ _ _ _ _ _ _)
      | (with_reducible exact ih1 _ _ _ _ _)
      | (with_reducible exact synopticlaw14_awake.mono _)
      | (with_reducible exact LeO.refl _)
      | (with_reducible exact LeO.none _)
      | (with_reducible refine LeO.ite ?_ ?_)
      | (with_reducible refine LeO.bind ?_ (fun _ => ?_))
      | exact ih0 _ _ _ _ _ _ _ _ _
      | exact ih1 _ _ _ _ _
      | exact synopticlaw14_awake.mono _
      | exact LeO.none _
      | refine LeO.ite ?_ ?_
      | refine LeO.bind ?_ (fun _ => ?_)
set_option maxHeartbeats 8000000 in
set_option maxRecDepth 100000 in
theorem synopticlaw14_LimitsNarrow.calls (k : Nat) (a0 : Int) (a1 : Int) (r : Bool) (w : World) (hL : Laid w) (h : synopticlaw14_LimitsNarrow.f k a0 a1 = some r) :
    Calls Tryd.prog 4 #[.int .i64 a0, .int .i64 a1] w fun e w' => e = .returned (.bool r) ∧ Below w.heap.size w w' := by
  have HL := Aside0.mk hL
  clear hL
  have hu39 := Tryd.underlying39
  have hu30 := Tryd.underlying30
  have HB := Aside0.mk (Below.refl w.heap.size w)
  have H : ((synoptickeep_Mod.f a0 11).bind fun t134 => ((synopticref04_Describe.f (wrap64 (1 + t134))).bind fun bt135 => (synopticlaw14_LimitsNarrow.l0 k a1 (wrap64 (1 + t134)) (wrap64 (bt135.2.2.1 + 1)) (wrap64 (bt135.2.1 - 1)) (wrap64 (bt135.2.1 - 1)) bt135.1 bt135.2.1 bt135.2.2.1 bt135.2.2.2.1))) = some r := h
  clear h
  replace H := Option.bind_eq_some_iff.mp H
  obtain ⟨t134, A30, H⟩ := H
  replace H : ((synopticref04_Describe.f (wrap64 (1 + t134))).bind fun bt135 => (synopticlaw14_LimitsNarrow.l0 k a1 (wrap64 (1 + t134)) (wrap64 (bt135.2.2.1 + 1)) (wrap64 (bt135.2.1 - 1)) (wrap64 (bt135.2.1 - 1)) bt135.1 bt135.2.1 bt135.2.2.1 bt135.2.2.2.1)) = some r := H
  have A3 := Aside0.mk A30
  clear A30
  replace H := Option.bind_eq_some_iff.mp H
  obtain ⟨⟨t135, t136, t137, t138, t139⟩, A40, H⟩ := H
  replace H : (synopticlaw14_LimitsNarrow.l0 k a1 (wrap64 (1 + t134)) (wrap64 (t137 + 1)) (wrap64 (t136 - 1)) (wrap64 (t136 - 1)) t135 t136 t137 t138) = some r := H
  have A4 := Aside0.mk A40
  clear A40
  have H' := Aside0.mk H
  clear H
  go_enter Tryd.func4, Tryd.ntmps4
  go_wp2_with (first | (go_at_call 14; (with_reducible refine (synoptickeep_Mod.calls a0 11 t134 _ A3.out).mono ?_); rintro e w' ⟨rfl, ⟨nd, rfl⟩⟩; (try first | exact ⟨rfl, _, World.drewN_drewN _ _ _⟩ | exact ⟨rfl, _, Eq.trans (World.drewN_drewN _ _ _) (congrArg (World.drewN _) (Nat.add_assoc _ _ _))⟩)) | (go_at_call 15; (with_reducible refine (synopticref04_Describe.calls (wrap64 (1 + t134)) t135 t136 t137 t138 t139 _ A4.out).mono ?_); rintro e w5 ⟨rfl, hb⟩; have n0_ := Aside0.mk (below_step (by repeat (first | (with_reducible first | exact HB.out | apply below_alloc | apply pw_below_drewN | apply below_drew1) | exact HB.out)) hb); clear HB; have HB := n0_; clear n0_; (try clear hb); (try clear hb2); (try clear hk); (try clear hi)) | ((with_reducible refine gate_dst (N := 6) rfl ?_); refine box_event ?hg (N := 6) ?hd (cs := #[.string (⟨#[]⟩ : ByteArray), .int .i64 0, .int .i64 0, .int .i64 0]) (t := 39) ?hr ?_; (case hd => rfl); (case hg => rfl); (case hr => first | (go_simp; done) | (go_simp; rfl)); intro gb140 hg w6 hbox hb; have n0_ := Aside0.mk (below_step (by repeat (first | (with_reducible first | exact HB.out | apply below_alloc | apply pw_below_drewN | apply below_drew1) | exact HB.out)) hb); have n1_ := Aside0.mk (hbox); have n2_ := Aside0.mk ((by rw [hg]; exact (below_size (by repeat (first | (with_reducible first | exact HB.out | apply below_alloc | apply pw_below_drewN | apply below_drew1) | exact HB.out))) : w.heap.size ≤ gb140)); have n3_ := Aside0.mk ((by rw [hg]; exact (below_size (by repeat (first | (with_reducible first | exact HB.out | apply below_alloc | apply pw_below_drewN | apply below_drew1) | exact HB.out))) : w.heap.size ≤ gb140)); clear HB; have HB := n0_; have BK140 := n1_; have GW140 := n2_; have GE140 := n3_; clear n0_ n1_ n2_ n3_; clear hb hbox hg; have hcz7_0 : w6.cell? ⟨gb140, 0, none⟩ = some (.string (⟨#[]⟩ : ByteArray)) := (blk_cell BK140.out 0).trans rfl; have hcz7_1 : w6.cell? ⟨gb140, 1, none⟩ = some (.int .i64 0) := (blk_cell BK140.out 1).trans rfl; have hcz7_2 : w6.cell? ⟨gb140, 2, none⟩ = some (.int .i64 0) := (blk_cell BK140.out 2).trans rfl; have hcz7_3 : w6.cell? ⟨gb140, 3, none⟩ = some (.int .i64 0) := (blk_cell BK140.out 3).trans rfl; have hfz7_0 := blk_frozen BK140.out 0; have hfz7_1 := blk_frozen BK140.out 1; have hfz7_2 := blk_frozen BK140.out 2; have hfz7_3 := blk_frozen BK140.out 3) | ((with_reducible refine gate_store (t := 39) (p := 6) rfl ?_); (try (rw [drewN_self w6]; generalize hq_ : World.drewN w6 _ = w6; have n0_ := Aside0.mk (blk_at hq_ BK140.out); have n1_ := Aside0.mk (below_at hq_ HB.out); clear hq_ BK140 HB; have BK140 := n0_; have HB := n1_; clear n0_ n1_)); refine store_event (t := 39) (p := 6) (v := ?vo_w8) (w1 := ((((w6.setCell ⟨gb140, 0, none⟩ (.string t135)).setCell ⟨gb140, 1, none⟩ (.int .i64 t136)).setCell ⟨gb140, 2, none⟩ (.int .i64 t137)).setCell ⟨gb140, 3, none⟩ (.int .i64 t138))) ?hg ?ho ?hn ?hr ?_; (case ho => rfl); (case hg => rfl); (case hn => rfl); (case hr => first | (go_simp; done) | (go_simp; rfl)); intro w8 hw; have n0_ : Aside0 (w8.heap[gb140]? = some (.cells #[.string t135, .int .i64 t136, .int .i64 t137, .int .i64 t138] 39 (0, 0))) := ⟨(by rw [hw]; exact (by (with_reducible repeat (first | refine blk_drewN ?_ _ | refine blk_drew ?_ | refine blk_alloc ?_ _)); refine blk_put (cs := #[.string t135, .int .i64 t136, .int .i64 t137, .int .i64 0]) ?_ 3 _ rfl; (with_reducible repeat (first | refine blk_drewN ?_ _ | refine blk_drew ?_ | refine blk_alloc ?_ _)); refine blk_put (cs := #[.string t135, .int .i64 t136, .int .i64 0, .int .i64 0]) ?_ 2 _ rfl; (with_reducible repeat (first | refine blk_drewN ?_ _ | refine blk_drew ?_ | refine blk_alloc ?_ _)); refine blk_put (cs := #[.string t135, .int .i64 0, .int .i64 0, .int .i64 0]) ?_ 1 _ rfl; (with_reducible repeat (first | refine blk_drewN ?_ _ | refine blk_drew ?_ | refine blk_alloc ?_ _)); refine blk_put (cs := #[.string (⟨#[]⟩ : ByteArray), .int .i64 0, .int .i64 0, .int .i64 0]) ?_ 0 _ rfl; (with_reducible repeat (first | refine blk_drewN ?_ _ | refine blk_drew ?_ | refine blk_alloc ?_ _)); exact BK140.out))⟩; have n1_ : Aside0 (Below w.heap.size w w8) := ⟨(by rw [hw]; exact (by repeat (first | (with_reducible first | exact HB.out | apply below_alloc | apply pw_below_drewN | apply below_drew1 | refine below_set ?_ GE140.out) | exact HB.out)))⟩; clear hw; clear BK140; clear HB; have BK140 := n0_; have HB := n1_; clear n0_ n1_; have hcz9_0 : w8.cell? ⟨gb140, 0, none⟩ = some (.string t135) := (blk_cell BK140.out 0).trans rfl; have hcz9_1 : w8.cell? ⟨gb140, 1, none⟩ = some (.int .i64 t136) := (blk_cell BK140.out 1).trans rfl; have hcz9_2 : w8.cell? ⟨gb140, 2, none⟩ = some (.int .i64 t137) := (blk_cell BK140.out 2).trans rfl; have hcz9_3 : w8.cell? ⟨gb140, 3, none⟩ = some (.int .i64 t138) := (blk_cell BK140.out 3).trans rfl; have hfz9_0 := blk_frozen BK140.out 0; have hfz9_1 := blk_frozen BK140.out 1; have hfz9_2 := blk_frozen BK140.out 2; have hfz9_3 := blk_frozen BK140.out 3))
  repeat (go_quiet (first | (go_at_call 14; (with_reducible refine (synoptickeep_Mod.calls a0 11 t134 _ A3.out).mono ?_); rintro e w' ⟨rfl, ⟨nd, rfl⟩⟩; (try first | exact ⟨rfl, _, World.drewN_drewN _ _ _⟩ | exact ⟨rfl, _, Eq.trans (World.drewN_drewN _ _ _) (congrArg (World.drewN _) (Nat.add_assoc _ _ _))⟩)) | (go_at_call 15; (with_reducible refine (synopticref04_Describe.calls (wrap64 (1 + t134)) t135 t136 t137 t138 t139 _ A4.out).mono ?_); rintro e w5 ⟨rfl, hb⟩; have n0_ := Aside0.mk (below_step (by repeat (first | (with_reducible first | exact HB.out | apply below_alloc | apply pw_below_drewN | apply below_drew1) | exact HB.out)) hb); clear HB; have HB := n0_; clear n0_; (try clear hb); (try clear hb2); (try clear hk); (try clear hi)) | ((with_reducible refine gate_dst (N := 6) rfl ?_); refine box_event ?hg (N := 6) ?hd (cs := #[.string (⟨#[]⟩ : ByteArray), .int .i64 0, .int .i64 0, .int .i64 0]) (t := 39) ?hr ?_; (case hd => rfl); (case hg => rfl); (case hr => first | (go_simp; done) | (go_simp; rfl)); intro gb140 hg w6 hbox hb; have n0_ := Aside0.mk (below_step (by repeat (first | (with_reducible first | exact HB.out | apply below_alloc | apply pw_below_drewN | apply below_drew1) | exact HB.out)) hb); have n1_ := Aside0.mk (hbox); have n2_ := Aside0.mk ((by rw [hg]; exact (below_size (by repeat (first | (with_reducible first | exact HB.out | apply below_alloc | apply pw_below_drewN | apply below_drew1) | exact HB.out))) : w.heap.size ≤ gb140)); have n3_ := Aside0.mk ((by rw [hg]; exact (below_size (by repeat (first | (with_reducible first | exact HB.out | apply below_alloc | apply pw_below_drewN | apply below_drew1) | exact HB.out))) : w.heap.size ≤ gb140)); clear HB; have HB := n0_; have BK140 := n1_; have GW140 := n2_; have GE140 := n3_; clear n0_ n1_ n2_ n3_; clear hb hbox hg; have hcz7_0 : w6.cell? ⟨gb140, 0, none⟩ = some (.string (⟨#[]⟩ : ByteArray)) := (blk_cell BK140.out 0).trans rfl; have hcz7_1 : w6.cell? ⟨gb140, 1, none⟩ = some (.int .i64 0) := (blk_cell BK140.out 1).trans rfl; have hcz7_2 : w6.cell? ⟨gb140, 2, none⟩ = some (.int .i64 0) := (blk_cell BK140.out 2).trans rfl; have hcz7_3 : w6.cell? ⟨gb140, 3, none⟩ = some (.int .i64 0) := (blk_cell BK140.out 3).trans rfl; have hfz7_0 := blk_frozen BK140.out 0; have hfz7_1 := blk_frozen BK140.out 1; have hfz7_2 := blk_frozen BK140.out 2; have hfz7_3 := blk_frozen BK140.out 3) | ((with_reducible refine gate_store (t := 39) (p := 6) rfl ?_); (try (rw [drewN_self w6]; generalize hq_ : World.drewN w6 _ = w6; have n0_ := Aside0.mk (blk_at hq_ BK140.out); have n1_ := Aside0.mk (below_at hq_ HB.out); clear hq_ BK140 HB; have BK140 := n0_; have HB := n1_; clear n0_ n1_)); refine store_event (t := 39) (p := 6) (v := ?vo_w8) (w1 := ((((w6.setCell ⟨gb140, 0, none⟩ (.string t135)).setCell ⟨gb140, 1, none⟩ (.int .i64 t136)).setCell ⟨gb140, 2, none⟩ (.int .i64 t137)).setCell ⟨gb140, 3, none⟩ (.int .i64 t138))) ?hg ?ho ?hn ?hr ?_; (case ho => rfl); (case hg => rfl); (case hn => rfl); (case hr => first | (go_simp; done) | (go_simp; rfl)); intro w8 hw; have n0_ : Aside0 (w8.heap[gb140]? = some (.cells #[.string t135, .int .i64 t136, .int .i64 t137, .int .i64 t138] 39 (0, 0))) := ⟨(by rw [hw]; exact (by (with_reducible repeat (first | refine blk_drewN ?_ _ | refine blk_drew ?_ | refine blk_alloc ?_ _)); refine blk_put (cs := #[.string t135, .int .i64 t136, .int .i64 t137, .int .i64 0]) ?_ 3 _ rfl; (with_reducible repeat (first | refine blk_drewN ?_ _ | refine blk_drew ?_ | refine blk_alloc ?_ _)); refine blk_put (cs := #[.string t135, .int .i64 t136, .int .i64 0, .int .i64 0]) ?_ 2 _ rfl; (with_reducible repeat (first | refine blk_drewN ?_ _ | refine blk_drew ?_ | refine blk_alloc ?_ _)); refine blk_put (cs := #[.string t135, .int .i64 0, .int .i64 0, .int .i64 0]) ?_ 1 _ rfl; (with_reducible repeat (first | refine blk_drewN ?_ _ | refine blk_drew ?_ | refine blk_alloc ?_ _)); refine blk_put (cs := #[.string (⟨#[]⟩ : ByteArray), .int .i64 0, .int .i64 0, .int .i64 0]) ?_ 0 _ rfl; (with_reducible repeat (first | refine blk_drewN ?_ _ | refine blk_drew ?_ | refine blk_alloc ?_ _)); exact BK140.out))⟩; have n1_ : Aside0 (Below w.heap.size w w8) := ⟨(by rw [hw]; exact (by repeat (first | (with_reducible first | exact HB.out | apply below_alloc | apply pw_below_drewN | apply below_drew1 | refine below_set ?_ GE140.out) | exact HB.out)))⟩; clear hw; clear BK140; clear HB; have BK140 := n0_; have HB := n1_; clear n0_ n1_; have hcz9_0 : w8.cell? ⟨gb140, 0, none⟩ = some (.string t135) := (blk_cell BK140.out 0).trans rfl; have hcz9_1 : w8.cell? ⟨gb140, 1, none⟩ = some (.int .i64 t136) := (blk_cell BK140.out 1).trans rfl; have hcz9_2 : w8.cell? ⟨gb140, 2, none⟩ = some (.int .i64 t137) := (blk_cell BK140.out 2).trans rfl; have hcz9_3 : w8.cell? ⟨gb140, 3, none⟩ = some (.int .i64 t138) := (blk_cell BK140.out 3).trans rfl; have hfz9_0 := blk_frozen BK140.out 0; have hfz9_1 := blk_frozen BK140.out 1; have hfz9_2 := blk_frozen BK140.out 2; have hfz9_3 := blk_frozen BK140.out 3)); try go_wp2_with (first | (go_at_call 14; (with_reducible refine (synoptickeep_Mod.calls a0 11 t134 _ A3.out).mono ?_); rintro e w' ⟨rfl, ⟨nd, rfl⟩⟩; (try first | exact ⟨rfl, _, World.drewN_drewN _ _ _⟩ | exact ⟨rfl, _, Eq.trans (World.drewN_drewN _ _ _) (congrArg (World.drewN _) (Nat.add_assoc _ _ _))⟩)) | (go_at_call 15; (with_reducible refine (synopticref04_Describe.calls (wrap64 (1 + t134)) t135 t136 t137 t138 t139 _ A4.out).mono ?_); rintro e w5 ⟨rfl, hb⟩; have n0_ := Aside0.mk (below_step (by repeat (first | (with_reducible first | exact HB.out | apply below_alloc | apply pw_below_drewN | apply below_drew1) | exact HB.out)) hb); clear HB; have HB := n0_; clear n0_; (try clear hb); (try clear hb2); (try clear hk); (try clear hi)) | ((with_reducible refine gate_dst (N := 6) rfl ?_); refine box_event ?hg (N := 6) ?hd (cs := #[.string (⟨#[]⟩ : ByteArray), .int .i64 0, .int .i64 0, .int .i64 0]) (t := 39) ?hr ?_; (case hd => rfl); (case hg => rfl); (case hr => first | (go_simp; done) | (go_simp; rfl)); intro gb140 hg w6 hbox hb; have n0_ := Aside0.mk (below_step (by repeat (first | (with_reducible first | exact HB.out | apply below_alloc | apply pw_below_drewN | apply below_drew1) | exact HB.out)) hb); have n1_ := Aside0.mk (hbox); have n2_ := Aside0.mk ((by rw [hg]; exact (below_size (by repeat (first | (with_reducible first | exact HB.out | apply below_alloc | apply pw_below_drewN | apply below_drew1) | exact HB.out))) : w.heap.size ≤ gb140)); have n3_ := Aside0.mk ((by rw [hg]; exact (below_size (by repeat (first | (with_reducible first | exact HB.out | apply below_alloc | apply pw_below_drewN | apply below_drew1) | exact HB.out))) : w.heap.size ≤ gb140)); clear HB; have HB := n0_; have BK140 := n1_; have GW140 := n2_; have GE140 := n3_; clear n0_ n1_ n2_ n3_; clear hb hbox hg; have hcz7_0 : w6.cell? ⟨gb140, 0, none⟩ = some (.string (⟨#[]⟩ : ByteArray)) := (blk_cell BK140.out 0).trans rfl; have hcz7_1 : w6.cell? ⟨gb140, 1, none⟩ = some (.int .i64 0) := (blk_cell BK140.out 1).trans rfl; have hcz7_2 : w6.cell? ⟨gb140, 2, none⟩ = some (.int .i64 0) := (blk_cell BK140.out 2).trans rfl; have hcz7_3 : w6.cell? ⟨gb140, 3, none⟩ = some (.int .i64 0) := (blk_cell BK140.out 3).trans rfl; have hfz7_0 := blk_frozen BK140.out 0; have hfz7_1 := blk_frozen BK140.out 1; have hfz7_2 := blk_frozen BK140.out 2; have hfz7_3 := blk_frozen BK140.out 3) | ((with_reducible refine gate_store (t := 39) (p := 6) rfl ?_); (try (rw [drewN_self w6]; generalize hq_ : World.drewN w6 _ = w6; have n0_ := Aside0.mk (blk_at hq_ BK140.out); have n1_ := Aside0.mk (below_at hq_ HB.out); clear hq_ BK140 HB; have BK140 := n0_; have HB := n1_; clear n0_ n1_)); refine store_event (t := 39) (p := 6) (v := ?vo_w8) (w1 := ((((w6.setCell ⟨gb140, 0, none⟩ (.string t135)).setCell ⟨gb140, 1, none⟩ (.int .i64 t136)).setCell ⟨gb140, 2, none⟩ (.int .i64 t137)).setCell ⟨gb140, 3, none⟩ (.int .i64 t138))) ?hg ?ho ?hn ?hr ?_; (case ho => rfl); (case hg => rfl); (case hn => rfl); (case hr => first | (go_simp; done) | (go_simp; rfl)); intro w8 hw; have n0_ : Aside0 (w8.heap[gb140]? = some (.cells #[.string t135, .int .i64 t136, .int .i64 t137, .int .i64 t138] 39 (0, 0))) := ⟨(by rw [hw]; exact (by (with_reducible repeat (first | refine blk_drewN ?_ _ | refine blk_drew ?_ | refine blk_alloc ?_ _)); refine blk_put (cs := #[.string t135, .int .i64 t136, .int .i64 t137, .int .i64 0]) ?_ 3 _ rfl; (with_reducible repeat (first | refine blk_drewN ?_ _ | refine blk_drew ?_ | refine blk_alloc ?_ _)); refine blk_put (cs := #[.string t135, .int .i64 t136, .int .i64 0, .int .i64 0]) ?_ 2 _ rfl; (with_reducible repeat (first | refine blk_drewN ?_ _ | refine blk_drew ?_ | refine blk_alloc ?_ _)); refine blk_put (cs := #[.string t135, .int .i64 0, .int .i64 0, .int .i64 0]) ?_ 1 _ rfl; (with_reducible repeat (first | refine blk_drewN ?_ _ | refine blk_drew ?_ | refine blk_alloc ?_ _)); refine blk_put (cs := #[.string (⟨#[]⟩ : ByteArray), .int .i64 0, .int .i64 0, .int .i64 0]) ?_ 0 _ rfl; (with_reducible repeat (first | refine blk_drewN ?_ _ | refine blk_drew ?_ | refine blk_alloc ?_ _)); exact BK140.out))⟩; have n1_ : Aside0 (Below w.heap.size w w8) := ⟨(by rw [hw]; exact (by repeat (first | (with_reducible first | exact HB.out | apply below_alloc | apply pw_below_drewN | apply below_drew1 | refine below_set ?_ GE140.out) | exact HB.out)))⟩; clear hw; clear BK140; clear HB; have BK140 := n0_; have HB := n1_; clear n0_ n1_; have hcz9_0 : w8.cell? ⟨gb140, 0, none⟩ = some (.string t135) := (blk_cell BK140.out 0).trans rfl; have hcz9_1 : w8.cell? ⟨gb140, 1, none⟩ = some (.int .i64 t136) := (blk_cell BK140.out 1).trans rfl; have hcz9_2 : w8.cell? ⟨gb140, 2, none⟩ = some (.int .i64 t137) := (blk_cell BK140.out 2).trans rfl; have hcz9_3 : w8.cell? ⟨gb140, 3, none⟩ = some (.int .i64 t138) := (blk_cell BK140.out 3).trans rfl; have hfz9_0 := blk_frozen BK140.out 0; have hfz9_1 := blk_frozen BK140.out 1; have hfz9_2 := blk_frozen BK140.out 2; have hfz9_3 := blk_frozen BK140.out 3)))
  go_loopg [8, 9, 10] k (fun kq v8 v9 v10 w' => ∃ (x8_1 : Int) (x9_1 : Int) (x10_1 : Int), v8 = .int .i64 x8_1 ∧ v9 = .int .i64 x9_1 ∧ v10 = .int .i64 x10_1 ∧ Aside0 (synopticlaw14_LimitsNarrow.l0 kq a1 (wrap64 (1 + t134)) x8_1 x9_1 x10_1 t135 t136 t137 t138 = some r) ∧ Aside0 (kq ≤ k) ∧ Aside0 (w'.heap[gb140]? = some (.cells #[.string t135, .int .i64 t136, .int .i64 t137, .int .i64 t138] 39 (0, 0))) ∧ Aside0 (Below w.heap.size w w'))
  case atStart => exact ⟨(wrap64 (t137 + 1)), (wrap64 (t136 - 1)), (wrap64 (t136 - 1)), (by first | rfl | (simp; done) | (simp [*]; done)), (by first | rfl | (simp; done) | (simp [*]; done)), (by first | rfl | (simp; done) | (simp [*]; done)), H', ⟨Nat.le_refl _⟩, ⟨by (with_reducible repeat (first | refine blk_drewN ?_ _ | refine blk_drew ?_ | refine blk_alloc ?_ _)); exact BK140.out⟩, ⟨by repeat (first | (with_reducible first | exact HB.out | apply below_alloc | apply pw_below_drewN | apply below_drew1 | refine below_set ?_ GE140.out) | exact HB.out)⟩⟩
  case round =>
    clear H'
    try clear p2
    try clear c4
    try clear p6
    try clear hcz7_0
    try clear hcz7_1
    try clear hcz7_2
    try clear hcz7_3
    try clear hcz9_0
    try clear hcz9_1
    try clear hcz9_2
    try clear hcz9_3
    try clear hfz7_0
    try clear hfz7_1
    try clear hfz7_2
    try clear hfz7_3
    try clear hfz9_0
    try clear hfz9_1
    try clear hfz9_2
    try clear hfz9_3
    obtain ⟨x8_1, x9_1, x10_1, rfl, rfl, rfl, HA, HK1, BK140, HB⟩ := hrel
    cases gk with
    | zero => exact absurd HA.out (by simp [synopticlaw14_LimitsNarrow.l0])
    | succ k1 =>
      have H := HA.out
      clear HA
      simp only [synopticlaw14_LimitsNarrow.l0] at H
      by_cases c10 : x10_1 ≤ (wrap64 (t137 + 1))
      · rw [if_pos c10] at H
        have c10b0 : decide (x10_1 ≤ (wrap64 (t137 + 1))) = true := decide_eq_true c10
        clear c10
        replace H := Option.bind_eq_some_iff.mp H
        obtain ⟨t141, A110, H⟩ := H
        replace H : (if t141 = true then (synopticlaw14_LimitsNarrow.l0 k1 a1 (wrap64 (1 + t134)) (mn x8_1 x10_1) (mx x9_1 x10_1) (wrap64 (x10_1 + 1)) t135 t136 t137 t138) else (synopticlaw14_LimitsNarrow.l0 k1 a1 (wrap64 (1 + t134)) x8_1 x9_1 (wrap64 (x10_1 + 1)) t135 t136 t137 t138)) = some r := H
        have A11 := Aside0.mk A110
        clear A110
        by_cases c12 : t141 = true
        · subst c12
          have H1 : (synopticlaw14_LimitsNarrow.l0 k1 a1 (wrap64 (1 + t134)) (mn x8_1 x10_1) (mx x9_1 x10_1) (wrap64 (x10_1 + 1)) t135 t136 t137 t138) = some r := by rw [if_pos rfl] at H; exact H
          clear H
          have H := H1
          clear H1
          obtain ⟨ji13, hji13⟩ : ∃ j_ : Int, (mn x8_1 x10_1) = j_ := ⟨_, rfl⟩
          replace H : (synopticlaw14_LimitsNarrow.l0 k1 a1 (wrap64 (1 + t134)) ji13 (mx x9_1 x10_1) (wrap64 (x10_1 + 1)) t135 t136 t137 t138) = some r := by first | (rw [hji13] at H; exact H) | (simp only [hji13] at H ⊢; exact H)
          (try rw [hji13] at A11)
          have hji13_ : (if x10_1 < x8_1 then x10_1 else x8_1) = ji13 := hji13
          obtain ⟨ji14, hji14⟩ : ∃ j_ : Int, (mx x9_1 x10_1) = j_ := ⟨_, rfl⟩
          replace H : (synopticlaw14_LimitsNarrow.l0 k1 a1 (wrap64 (1 + t134)) ji13 ji14 (wrap64 (x10_1 + 1)) t135 t136 t137 t138) = some r := by first | (rw [hji14] at H; exact H) | (simp only [hji14] at H ⊢; exact H)
          (try rw [hji14] at A11)
          have hji14_ : (if x9_1 < x10_1 then x10_1 else x9_1) = ji14 := hji14
          have H' := Aside0.mk H
          clear H
          have hcz15_0 : wr.cell? ⟨gb140, 0, none⟩ = some (.string t135) := (blk_cell BK140.out 0).trans rfl
          have hcz15_1 : wr.cell? ⟨gb140, 1, none⟩ = some (.int .i64 t136) := (blk_cell BK140.out 1).trans rfl
          have hcz15_2 : wr.cell? ⟨gb140, 2, none⟩ = some (.int .i64 t137) := (blk_cell BK140.out 2).trans rfl
          have hcz15_3 : wr.cell? ⟨gb140, 3, none⟩ = some (.int .i64 t138) := (blk_cell BK140.out 3).trans rfl
          have hfz15_0 := blk_frozen BK140.out 0
          have hfz15_1 := blk_frozen BK140.out 1
          have hfz15_2 := blk_frozen BK140.out 2
          have hfz15_3 := blk_frozen BK140.out 3
          go_wp2_with (first | (go_at_call 16; (with_reducible refine (limits_Gross.calls (wrap64 (1 + t134)) x10_1 true _ (laid_below HL.out (by repeat (first | (with_reducible first | exact HB.out | apply below_alloc | apply pw_below_drewN | apply below_drew1 | refine below_set ?_ GE140.out) | exact HB.out))) A11.out).mono ?_); rintro e w16 ⟨rfl, hb⟩; have n0_ := Aside0.mk (blk_below (g := gb140) (o := .cells #[.string t135, .int .i64 t136, .int .i64 t137, .int .i64 t138] 39 (0, 0)) (by (with_reducible repeat (first | refine blk_drewN ?_ _ | refine blk_drew ?_ | refine blk_alloc ?_ _)); exact BK140.out) hb); have n1_ := Aside0.mk (below_step (by repeat (first | (with_reducible first | exact HB.out | apply below_alloc | apply pw_below_drewN | apply below_drew1 | refine below_set ?_ GE140.out) | exact HB.out)) hb); clear BK140; clear HB; have BK140 := n0_; have HB := n1_; clear n0_ n1_; (try clear hb); (try clear hb2); (try clear hk); (try clear hi)))
          repeat (go_quiet (first | (go_at_call 16; (with_reducible refine (limits_Gross.calls (wrap64 (1 + t134)) x10_1 true _ (laid_below HL.out (by repeat (first | (with_reducible first | exact HB.out | apply below_alloc | apply pw_below_drewN | apply below_drew1 | refine below_set ?_ GE140.out) | exact HB.out))) A11.out).mono ?_); rintro e w16 ⟨rfl, hb⟩; have n0_ := Aside0.mk (blk_below (g := gb140) (o := .cells #[.string t135, .int .i64 t136, .int .i64 t137, .int .i64 t138] 39 (0, 0)) (by (with_reducible repeat (first | refine blk_drewN ?_ _ | refine blk_drew ?_ | refine blk_alloc ?_ _)); exact BK140.out) hb); have n1_ := Aside0.mk (below_step (by repeat (first | (with_reducible first | exact HB.out | apply below_alloc | apply pw_below_drewN | apply below_drew1 | refine below_set ?_ GE140.out) | exact HB.out)) hb); clear BK140; clear HB; have BK140 := n0_; have HB := n1_; clear n0_ n1_; (try clear hb); (try clear hb2); (try clear hk); (try clear hi))); try go_wp2_with (first | (go_at_call 16; (with_reducible refine (limits_Gross.calls (wrap64 (1 + t134)) x10_1 true _ (laid_below HL.out (by repeat (first | (with_reducible first | exact HB.out | apply below_alloc | apply pw_below_drewN | apply below_drew1 | refine below_set ?_ GE140.out) | exact HB.out))) A11.out).mono ?_); rintro e w16 ⟨rfl, hb⟩; have n0_ := Aside0.mk (blk_below (g := gb140) (o := .cells #[.string t135, .int .i64 t136, .int .i64 t137, .int .i64 t138] 39 (0, 0)) (by (with_reducible repeat (first | refine blk_drewN ?_ _ | refine blk_drew ?_ | refine blk_alloc ?_ _)); exact BK140.out) hb); have n1_ := Aside0.mk (below_step (by repeat (first | (with_reducible first | exact HB.out | apply below_alloc | apply pw_below_drewN | apply below_drew1 | refine below_set ?_ GE140.out) | exact HB.out)) hb); clear BK140; clear HB; have BK140 := n0_; have HB := n1_; clear n0_ n1_; (try clear hb); (try clear hb2); (try clear hk); (try clear hi))))
          go_roundg k1
          case measure => have := HK1.out; omega
          case rel => exact ⟨(ji13), (ji14), (wrap64 (x10_1 + 1)), (by first | rfl | (simp; done) | (simp only [← hji13] <;> (first | rfl | simp)) | (simp [*]; done)), (by first | rfl | (simp; done) | (simp only [← hji14] <;> (first | rfl | simp)) | (simp [*]; done)), (by first | rfl | (simp; done) | (simp [*]; done)), H', ⟨by have := HK1.out; omega⟩, ⟨by (with_reducible repeat (first | refine blk_drewN ?_ _ | refine blk_drew ?_ | refine blk_alloc ?_ _)); exact BK140.out⟩, ⟨by repeat (first | (with_reducible first | exact HB.out | apply below_alloc | apply pw_below_drewN | apply below_drew1 | refine below_set ?_ GE140.out) | exact HB.out)⟩⟩
        · replace c12 := Bool.eq_false_iff.mpr c12
          subst c12
          have H1 : (synopticlaw14_LimitsNarrow.l0 k1 a1 (wrap64 (1 + t134)) x8_1 x9_1 (wrap64 (x10_1 + 1)) t135 t136 t137 t138) = some r := by rw [if_neg (show ¬ (false = true) by decide)] at H; exact H
          clear H
          have H := H1
          clear H1
          have H' := Aside0.mk H
          clear H
          have hcz17_0 : wr.cell? ⟨gb140, 0, none⟩ = some (.string t135) := (blk_cell BK140.out 0).trans rfl
          have hcz17_1 : wr.cell? ⟨gb140, 1, none⟩ = some (.int .i64 t136) := (blk_cell BK140.out 1).trans rfl
          have hcz17_2 : wr.cell? ⟨gb140, 2, none⟩ = some (.int .i64 t137) := (blk_cell BK140.out 2).trans rfl
          have hcz17_3 : wr.cell? ⟨gb140, 3, none⟩ = some (.int .i64 t138) := (blk_cell BK140.out 3).trans rfl
          have hfz17_0 := blk_frozen BK140.out 0
          have hfz17_1 := blk_frozen BK140.out 1
          have hfz17_2 := blk_frozen BK140.out 2
          have hfz17_3 := blk_frozen BK140.out 3
          go_wp2_with (first | (go_at_call 16; (with_reducible refine (limits_Gross.calls (wrap64 (1 + t134)) x10_1 false _ (laid_below HL.out (by repeat (first | (with_reducible first | exact HB.out | apply below_alloc | apply pw_below_drewN | apply below_drew1 | refine below_set ?_ GE140.out) | exact HB.out))) A11.out).mono ?_); rintro e w18 ⟨rfl, hb⟩; have n0_ := Aside0.mk (blk_below (g := gb140) (o := .cells #[.string t135, .int .i64 t136, .int .i64 t137, .int .i64 t138] 39 (0, 0)) (by (with_reducible repeat (first | refine blk_drewN ?_ _ | refine blk_drew ?_ | refine blk_alloc ?_ _)); exact BK140.out) hb); have n1_ := Aside0.mk (below_step (by repeat (first | (with_reducible first | exact HB.out | apply below_alloc | apply pw_below_drewN | apply below_drew1 | refine below_set ?_ GE140.out) | exact HB.out)) hb); clear BK140; clear HB; have BK140 := n0_; have HB := n1_; clear n0_ n1_; (try clear hb); (try clear hb2); (try clear hk); (try clear hi)))
          repeat (go_quiet (first | (go_at_call 16; (with_reducible refine (limits_Gross.calls (wrap64 (1 + t134)) x10_1 false _ (laid_below HL.out (by repeat (first | (with_reducible first | exact HB.out | apply below_alloc | apply pw_below_drewN | apply below_drew1 | refine below_set ?_ GE140.out) | exact HB.out))) A11.out).mono ?_); rintro e w18 ⟨rfl, hb⟩; have n0_ := Aside0.mk (blk_below (g := gb140) (o := .cells #[.string t135, .int .i64 t136, .int .i64 t137, .int .i64 t138] 39 (0, 0)) (by (with_reducible repeat (first | refine blk_drewN ?_ _ | refine blk_drew ?_ | refine blk_alloc ?_ _)); exact BK140.out) hb); have n1_ := Aside0.mk (below_step (by repeat (first | (with_reducible first | exact HB.out | apply below_alloc | apply pw_below_drewN | apply below_drew1 | refine below_set ?_ GE140.out) | exact HB.out)) hb); clear BK140; clear HB; have BK140 := n0_; have HB := n1_; clear n0_ n1_; (try clear hb); (try clear hb2); (try clear hk); (try clear hi))); try go_wp2_with (first | (go_at_call 16; (with_reducible refine (limits_Gross.calls (wrap64 (1 + t134)) x10_1 false _ (laid_below HL.out (by repeat (first | (with_reducible first | exact HB.out | apply below_alloc | apply pw_below_drewN | apply below_drew1 | refine below_set ?_ GE140.out) | exact HB.out))) A11.out).mono ?_); rintro e w18 ⟨rfl, hb⟩; have n0_ := Aside0.mk (blk_below (g := gb140) (o := .cells #[.string t135, .int .i64 t136, .int .i64 t137, .int .i64 t138] 39 (0, 0)) (by (with_reducible repeat (first | refine blk_drewN ?_ _ | refine blk_drew ?_ | refine blk_alloc ?_ _)); exact BK140.out) hb); have n1_ := Aside0.mk (below_step (by repeat (first | (with_reducible first | exact HB.out | apply below_alloc | apply pw_below_drewN | apply below_drew1 | refine below_set ?_ GE140.out) | exact HB.out)) hb); clear BK140; clear HB; have BK140 := n0_; have HB := n1_; clear n0_ n1_; (try clear hb); (try clear hb2); (try clear hk); (try clear hi))))
          go_roundg k1
          case measure => have := HK1.out; omega
          case rel => exact ⟨(x8_1), (x9_1), (wrap64 (x10_1 + 1)), (by first | rfl | (simp; done) | (simp [*]; done)), (by first | rfl | (simp; done) | (simp [*]; done)), (by first | rfl | (simp; done) | (simp [*]; done)), H', ⟨by have := HK1.out; omega⟩, ⟨by (with_reducible repeat (first | refine blk_drewN ?_ _ | refine blk_drew ?_ | refine blk_alloc ?_ _)); exact BK140.out⟩, ⟨by repeat (first | (with_reducible first | exact HB.out | apply below_alloc | apply pw_below_drewN | apply below_drew1 | refine below_set ?_ GE140.out) | exact HB.out)⟩⟩
      · rw [if_neg c10] at H
        have c10b0 : decide (x10_1 ≤ (wrap64 (t137 + 1))) = false := decide_eq_false c10
        clear c10
        have HC19 := Aside0.mk H
        clear H
        have hcz20_0 : wr.cell? ⟨gb140, 0, none⟩ = some (.string t135) := (blk_cell BK140.out 0).trans rfl
        have hcz20_1 : wr.cell? ⟨gb140, 1, none⟩ = some (.int .i64 t136) := (blk_cell BK140.out 1).trans rfl
        have hcz20_2 : wr.cell? ⟨gb140, 2, none⟩ = some (.int .i64 t137) := (blk_cell BK140.out 2).trans rfl
        have hcz20_3 : wr.cell? ⟨gb140, 3, none⟩ = some (.int .i64 t138) := (blk_cell BK140.out 3).trans rfl
        have hfz20_0 := blk_frozen BK140.out 0
        have hfz20_1 := blk_frozen BK140.out 1
        have hfz20_2 := blk_frozen BK140.out 2
        have hfz20_3 := blk_frozen BK140.out 3
        go_upto_region 9 with (fail)
        repeat (go_quiet (fail); go_upto_region 9 with (fail))
        go_cut [59] (fun v59 wc => ∃ (kq : Nat) (x59_18 : Bool), v59 = .bool x59_18 ∧ Aside0 (synopticlaw14_LimitsNarrow.j1 kq a1 (wrap64 (1 + t134)) x8_1 x9_1 x59_18 = some r) ∧ Aside0 (kq ≤ k1) ∧ Aside0 (wc.heap[gb140]? = some (.cells #[.string t135, .int .i64 t136, .int .i64 t137, .int .i64 t138] 39 (0, 0))) ∧ Aside0 (Below w.heap.size w wc))
        case first =>
          have H := HC19.out
          clear HC19
          by_cases c21 : x8_1 > x9_1
          · rw [if_pos c21] at H
            exact absurd H (by simp)
          · rw [if_neg c21] at H
            have c21b0 : decide (x9_1 < x8_1) = false := decide_eq_false c21
            clear c21
            (first | rw [c21b0] | (simp only [i64_w, i32_w]; rw [c21b0]) | skip)
            by_cases c22 : x8_1 < t136
            · rw [if_pos c22] at H
              exact absurd H (by simp)
            · rw [if_neg c22] at H
              have c22b0 : decide (x8_1 < t136) = false := decide_eq_false c22
              clear c22
              by_cases c23 : x9_1 > t137
              · rw [if_pos c23] at H
                exact absurd H (by simp)
              · rw [if_neg c23] at H
                have c23b0 : decide (t137 < x9_1) = false := decide_eq_false c23
                clear c23
                have H' := Aside0.mk H
                clear H
                have hcz24_0 : wr.cell? ⟨gb140, 0, none⟩ = some (.string t135) := (blk_cell BK140.out 0).trans rfl
                have hcz24_1 : wr.cell? ⟨gb140, 1, none⟩ = some (.int .i64 t136) := (blk_cell BK140.out 1).trans rfl
                have hcz24_2 : wr.cell? ⟨gb140, 2, none⟩ = some (.int .i64 t137) := (blk_cell BK140.out 2).trans rfl
                have hcz24_3 : wr.cell? ⟨gb140, 3, none⟩ = some (.int .i64 t138) := (blk_cell BK140.out 3).trans rfl
                have hfz24_0 := blk_frozen BK140.out 0
                have hfz24_1 := blk_frozen BK140.out 1
                have hfz24_2 := blk_frozen BK140.out 2
                have hfz24_3 := blk_frozen BK140.out 3
                go_wp2
                repeat (go_quiet (fail); try go_wp2)
                go_meet
                case rel => exact ⟨_, (false), (by first | rfl | (simp; done) | (simp [*]; done)), H', ⟨by have := HK1.out; first | omega | exact Nat.le_refl _⟩, ⟨by (with_reducible repeat (first | refine blk_drewN ?_ _ | refine blk_drew ?_ | refine blk_alloc ?_ _)); exact BK140.out⟩, ⟨by repeat (first | (with_reducible first | exact HB.out | apply below_alloc | apply pw_below_drewN | apply below_drew1 | refine below_set ?_ GE140.out) | exact HB.out)⟩⟩
        case rest =>
          clear HC19
          try clear c1
          try clear c2
          try clear p2
          try clear c4
          try clear p6
          try clear c10
          try clear c10b0
          try clear c12
          try clear c21
          try clear c21b0
          try clear c22
          try clear c22b0
          try clear c23
          try clear c23b0
          try clear hcz15_0
          try clear hcz15_1
          try clear hcz15_2
          try clear hcz15_3
          try clear hcz17_0
          try clear hcz17_1
          try clear hcz17_2
          try clear hcz17_3
          try clear hcz20_0
          try clear hcz20_1
          try clear hcz20_2
          try clear hcz20_3
          try clear hcz24_0
          try clear hcz24_1
          try clear hcz24_2
          try clear hcz24_3
          try clear hcz7_0
          try clear hcz7_1
          try clear hcz7_2
          try clear hcz7_3
          try clear hcz9_0
          try clear hcz9_1
          try clear hcz9_2
          try clear hcz9_3
          try clear hfz15_0
          try clear hfz15_1
          try clear hfz15_2
          try clear hfz15_3
          try clear hfz17_0
          try clear hfz17_1
          try clear hfz17_2
          try clear hfz17_3
          try clear hfz20_0
          try clear hfz20_1
          try clear hfz20_2
          try clear hfz20_3
          try clear hfz24_0
          try clear hfz24_1
          try clear hfz24_2
          try clear hfz24_3
          try clear hfz7_0
          try clear hfz7_1
          try clear hfz7_2
          try clear hfz7_3
          try clear hfz9_0
          try clear hfz9_1
          try clear hfz9_2
          try clear hfz9_3
          try clear p2
          try clear p6
          obtain ⟨kq, x59_18, rfl, HA, HJ18, BK140, HB⟩ := hcut
          cases kq with
          | zero => exact absurd HA.out (by simp [synopticlaw14_LimitsNarrow.j1])
          | succ kj18 =>
            have H := HA.out
            clear HA
            simp only [synopticlaw14_LimitsNarrow.j1] at H
            by_cases c25 : x59_18 = true
            · subst c25
              have H1 : (none) = some r := by rw [if_pos rfl] at H; exact H
              clear H
              have H := H1
              clear H1
              exact absurd H (by simp)
            · replace c25 := Bool.eq_false_iff.mpr c25
              subst c25
              have H1 : ((limits_Gross.f (wrap64 (1 + t134)) a1).bind fun t142 => (if a1 ≥ x8_1 then (if (t142 == (decide (a1 ≤ x9_1))) = true then ((synopticlaw14_awake.f kj18).bind fun t143 => (some t143)) else (none)) else (if (t142 == false) = true then ((synopticlaw14_awake.f kj18).bind fun t144 => (some t144)) else (none)))) = some r := by rw [if_neg (show ¬ (false = true) by decide)] at H; exact H
              clear H
              have H := H1
              clear H1
              replace H := Option.bind_eq_some_iff.mp H
              obtain ⟨t142, A260, H⟩ := H
              replace H : (if a1 ≥ x8_1 then (if (t142 == (decide (a1 ≤ x9_1))) = true then ((synopticlaw14_awake.f kj18).bind fun t143 => (some t143)) else (none)) else (if (t142 == false) = true then ((synopticlaw14_awake.f kj18).bind fun t144 => (some t144)) else (none))) = some r := H
              have A26 := Aside0.mk A260
              clear A260
              by_cases c27 : a1 ≥ x8_1
              · rw [if_pos c27] at H
                have c27b0 : decide (x8_1 ≤ a1) = true := decide_eq_true c27
                clear c27
                by_cases c28 : (t142 == (decide (a1 ≤ x9_1))) = true
                · rw [if_pos c28] at H
                  have c28b0 : (t142 == (decide (a1 ≤ x9_1))) = true := c28
                  (try (have c28b1 : decide (t142 = (decide (a1 ≤ x9_1))) = true := by simpa using c28))
                  (try (have c28b2 : (t142 == (decide (a1 ≤ x9_1))) = true := by simpa using c28))
                  clear c28
                  replace H := Option.bind_eq_some_iff.mp H
                  obtain ⟨t143, A290, H⟩ := H
                  replace H : (some t143) = some r := H
                  have A29 := Aside0.mk A290
                  clear A290
                  obtain rfl := Option.some.inj H
                  go_wp2_with (first | (go_at_call 16; (with_reducible refine (limits_Gross.calls (wrap64 (1 + t134)) a1 t142 _ (laid_below HL.out (by repeat (first | (with_reducible first | exact HB.out | apply below_alloc | apply pw_below_drewN | apply below_drew1 | refine below_set ?_ GE140.out) | exact HB.out))) A26.out).mono ?_); rintro e w30 ⟨rfl, hb⟩; have n0_ := Aside0.mk (blk_below (g := gb140) (o := .cells #[.string t135, .int .i64 t136, .int .i64 t137, .int .i64 t138] 39 (0, 0)) (by (with_reducible repeat (first | refine blk_drewN ?_ _ | refine blk_drew ?_ | refine blk_alloc ?_ _)); exact BK140.out) hb); have n1_ := Aside0.mk (below_step (by repeat (first | (with_reducible first | exact HB.out | apply below_alloc | apply pw_below_drewN | apply below_drew1 | refine below_set ?_ GE140.out) | exact HB.out)) hb); clear BK140; clear HB; have BK140 := n0_; have HB := n1_; clear n0_ n1_; (try clear hb); (try clear hb2); (try clear hk); (try clear hi)) | (go_at_call 13; (with_reducible refine (synopticlaw14_awake.calls kj18  t143 _ (laid_below HL.out (by repeat (first | (with_reducible first | exact HB.out | apply below_alloc | apply pw_below_drewN | apply below_drew1 | refine below_set ?_ GE140.out) | exact HB.out))) A29.out).mono ?_); rintro e w31 ⟨rfl, hb⟩; have n0_ := Aside0.mk (blk_below (g := gb140) (o := .cells #[.string t135, .int .i64 t136, .int .i64 t137, .int .i64 t138] 39 (0, 0)) (by (with_reducible repeat (first | refine blk_drewN ?_ _ | refine blk_drew ?_ | refine blk_alloc ?_ _)); exact BK140.out) hb); have n1_ := Aside0.mk (below_step (by repeat (first | (with_reducible first | exact HB.out | apply below_alloc | apply pw_below_drewN | apply below_drew1 | refine below_set ?_ GE140.out) | exact HB.out)) hb); clear BK140; clear HB; have BK140 := n0_; have HB := n1_; clear n0_ n1_; (try clear hb); (try clear hb2); (try clear hk); (try clear hi)))
                  repeat (go_quiet (first | (go_at_call 16; (with_reducible refine (limits_Gross.calls (wrap64 (1 + t134)) a1 t142 _ (laid_below HL.out (by repeat (first | (with_reducible first | exact HB.out | apply below_alloc | apply pw_below_drewN | apply below_drew1 | refine below_set ?_ GE140.out) | exact HB.out))) A26.out).mono ?_); rintro e w30 ⟨rfl, hb⟩; have n0_ := Aside0.mk (blk_below (g := gb140) (o := .cells #[.string t135, .int .i64 t136, .int .i64 t137, .int .i64 t138] 39 (0, 0)) (by (with_reducible repeat (first | refine blk_drewN ?_ _ | refine blk_drew ?_ | refine blk_alloc ?_ _)); exact BK140.out) hb); have n1_ := Aside0.mk (below_step (by repeat (first | (with_reducible first | exact HB.out | apply below_alloc | apply pw_below_drewN | apply below_drew1 | refine below_set ?_ GE140.out) | exact HB.out)) hb); clear BK140; clear HB; have BK140 := n0_; have HB := n1_; clear n0_ n1_; (try clear hb); (try clear hb2); (try clear hk); (try clear hi)) | (go_at_call 13; (with_reducible refine (synopticlaw14_awake.calls kj18  t143 _ (laid_below HL.out (by repeat (first | (with_reducible first | exact HB.out | apply below_alloc | apply pw_below_drewN | apply below_drew1 | refine below_set ?_ GE140.out) | exact HB.out))) A29.out).mono ?_); rintro e w31 ⟨rfl, hb⟩; have n0_ := Aside0.mk (blk_below (g := gb140) (o := .cells #[.string t135, .int .i64 t136, .int .i64 t137, .int .i64 t138] 39 (0, 0)) (by (with_reducible repeat (first | refine blk_drewN ?_ _ | refine blk_drew ?_ | refine blk_alloc ?_ _)); exact BK140.out) hb); have n1_ := Aside0.mk (below_step (by repeat (first | (with_reducible first | exact HB.out | apply below_alloc | apply pw_below_drewN | apply below_drew1 | refine below_set ?_ GE140.out) | exact HB.out)) hb); clear BK140; clear HB; have BK140 := n0_; have HB := n1_; clear n0_ n1_; (try clear hb); (try clear hb2); (try clear hk); (try clear hi))); try go_wp2_with (first | (go_at_call 16; (with_reducible refine (limits_Gross.calls (wrap64 (1 + t134)) a1 t142 _ (laid_below HL.out (by repeat (first | (with_reducible first | exact HB.out | apply below_alloc | apply pw_below_drewN | apply below_drew1 | refine below_set ?_ GE140.out) | exact HB.out))) A26.out).mono ?_); rintro e w30 ⟨rfl, hb⟩; have n0_ := Aside0.mk (blk_below (g := gb140) (o := .cells #[.string t135, .int .i64 t136, .int .i64 t137, .int .i64 t138] 39 (0, 0)) (by (with_reducible repeat (first | refine blk_drewN ?_ _ | refine blk_drew ?_ | refine blk_alloc ?_ _)); exact BK140.out) hb); have n1_ := Aside0.mk (below_step (by repeat (first | (with_reducible first | exact HB.out | apply below_alloc | apply pw_below_drewN | apply below_drew1 | refine below_set ?_ GE140.out) | exact HB.out)) hb); clear BK140; clear HB; have BK140 := n0_; have HB := n1_; clear n0_ n1_; (try clear hb); (try clear hb2); (try clear hk); (try clear hi)) | (go_at_call 13; (with_reducible refine (synopticlaw14_awake.calls kj18  t143 _ (laid_below HL.out (by repeat (first | (with_reducible first | exact HB.out | apply below_alloc | apply pw_below_drewN | apply below_drew1 | refine below_set ?_ GE140.out) | exact HB.out))) A29.out).mono ?_); rintro e w31 ⟨rfl, hb⟩; have n0_ := Aside0.mk (blk_below (g := gb140) (o := .cells #[.string t135, .int .i64 t136, .int .i64 t137, .int .i64 t138] 39 (0, 0)) (by (with_reducible repeat (first | refine blk_drewN ?_ _ | refine blk_drew ?_ | refine blk_alloc ?_ _)); exact BK140.out) hb); have n1_ := Aside0.mk (below_step (by repeat (first | (with_reducible first | exact HB.out | apply below_alloc | apply pw_below_drewN | apply below_drew1 | refine below_set ?_ GE140.out) | exact HB.out)) hb); clear BK140; clear HB; have BK140 := n0_; have HB := n1_; clear n0_ n1_; (try clear hb); (try clear hb2); (try clear hk); (try clear hi))))
                  go_ret
                  exact ⟨by first | rfl | (simp [errW_none, errW_some] <;> rfl) | (simp [*, errW_none, errW_some] <;> rfl), by repeat (first | (with_reducible first | exact HB.out | apply below_alloc | apply pw_below_drewN | apply below_drew1 | refine below_set ?_ GE140.out) | exact HB.out)⟩
                · rw [if_neg c28] at H
                  exact absurd H (by simp)
              · rw [if_neg c27] at H
                have c27b0 : decide (x8_1 ≤ a1) = false := decide_eq_false c27
                clear c27
                by_cases c32 : (t142 == false) = true
                · rw [if_pos c32] at H
                  have c32b0 : (t142 == false) = true := c32
                  (try (have c32b1 : decide (t142 = false) = true := by simpa using c32))
                  (try (have c32b2 : (t142 == false) = true := by simpa using c32))
                  clear c32
                  replace H := Option.bind_eq_some_iff.mp H
                  obtain ⟨t144, A330, H⟩ := H
                  replace H : (some t144) = some r := H
                  have A33 := Aside0.mk A330
                  clear A330
                  obtain rfl := Option.some.inj H
                  go_wp2_with (first | (go_at_call 16; (with_reducible refine (limits_Gross.calls (wrap64 (1 + t134)) a1 t142 _ (laid_below HL.out (by repeat (first | (with_reducible first | exact HB.out | apply below_alloc | apply pw_below_drewN | apply below_drew1 | refine below_set ?_ GE140.out) | exact HB.out))) A26.out).mono ?_); rintro e w34 ⟨rfl, hb⟩; have n0_ := Aside0.mk (blk_below (g := gb140) (o := .cells #[.string t135, .int .i64 t136, .int .i64 t137, .int .i64 t138] 39 (0, 0)) (by (with_reducible repeat (first | refine blk_drewN ?_ _ | refine blk_drew ?_ | refine blk_alloc ?_ _)); exact BK140.out) hb); have n1_ := Aside0.mk (below_step (by repeat (first | (with_reducible first | exact HB.out | apply below_alloc | apply pw_below_drewN | apply below_drew1 | refine below_set ?_ GE140.out) | exact HB.out)) hb); clear BK140; clear HB; have BK140 := n0_; have HB := n1_; clear n0_ n1_; (try clear hb); (try clear hb2); (try clear hk); (try clear hi)) | (go_at_call 13; (with_reducible refine (synopticlaw14_awake.calls kj18  t144 _ (laid_below HL.out (by repeat (first | (with_reducible first | exact HB.out | apply below_alloc | apply pw_below_drewN | apply below_drew1 | refine below_set ?_ GE140.out) | exact HB.out))) A33.out).mono ?_); rintro e w35 ⟨rfl, hb⟩; have n0_ := Aside0.mk (blk_below (g := gb140) (o := .cells #[.string t135, .int .i64 t136, .int .i64 t137, .int .i64 t138] 39 (0, 0)) (by (with_reducible repeat (first | refine blk_drewN ?_ _ | refine blk_drew ?_ | refine blk_alloc ?_ _)); exact BK140.out) hb); have n1_ := Aside0.mk (below_step (by repeat (first | (with_reducible first | exact HB.out | apply below_alloc | apply pw_below_drewN | apply below_drew1 | refine below_set ?_ GE140.out) | exact HB.out)) hb); clear BK140; clear HB; have BK140 := n0_; have HB := n1_; clear n0_ n1_; (try clear hb); (try clear hb2); (try clear hk); (try clear hi)))
                  repeat (go_quiet (first | (go_at_call 16; (with_reducible refine (limits_Gross.calls (wrap64 (1 + t134)) a1 t142 _ (laid_below HL.out (by repeat (first | (with_reducible first | exact HB.out | apply below_alloc | apply pw_below_drewN | apply below_drew1 | refine below_set ?_ GE140.out) | exact HB.out))) A26.out).mono ?_); rintro e w34 ⟨rfl, hb⟩; have n0_ := Aside0.mk (blk_below (g := gb140) (o := .cells #[.string t135, .int .i64 t136, .int .i64 t137, .int .i64 t138] 39 (0, 0)) (by (with_reducible repeat (first | refine blk_drewN ?_ _ | refine blk_drew ?_ | refine blk_alloc ?_ _)); exact BK140.out) hb); have n1_ := Aside0.mk (below_step (by repeat (first | (with_reducible first | exact HB.out | apply below_alloc | apply pw_below_drewN | apply below_drew1 | refine below_set ?_ GE140.out) | exact HB.out)) hb); clear BK140; clear HB; have BK140 := n0_; have HB := n1_; clear n0_ n1_; (try clear hb); (try clear hb2); (try clear hk); (try clear hi)) | (go_at_call 13; (with_reducible refine (synopticlaw14_awake.calls kj18  t144 _ (laid_below HL.out (by repeat (first | (with_reducible first | exact HB.out | apply below_alloc | apply pw_below_drewN | apply below_drew1 | refine below_set ?_ GE140.out) | exact HB.out))) A33.out).mono ?_); rintro e w35 ⟨rfl, hb⟩; have n0_ := Aside0.mk (blk_below (g := gb140) (o := .cells #[.string t135, .int .i64 t136, .int .i64 t137, .int .i64 t138] 39 (0, 0)) (by (with_reducible repeat (first | refine blk_drewN ?_ _ | refine blk_drew ?_ | refine blk_alloc ?_ _)); exact BK140.out) hb); have n1_ := Aside0.mk (below_step (by repeat (first | (with_reducible first | exact HB.out | apply below_alloc | apply pw_below_drewN | apply below_drew1 | refine below_set ?_ GE140.out) | exact HB.out)) hb); clear BK140; clear HB; have BK140 := n0_; have HB := n1_; clear n0_ n1_; (try clear hb); (try clear hb2); (try clear hk); (try clear hi))); try go_wp2_with (first | (go_at_call 16; (with_reducible refine (limits_Gross.calls (wrap64 (1 + t134)) a1 t142 _ (laid_below HL.out (by repeat (first | (with_reducible first | exact HB.out | apply below_alloc | apply pw_below_drewN | apply below_drew1 | refine below_set ?_ GE140.out) | exact HB.out))) A26.out).mono ?_); rintro e w34 ⟨rfl, hb⟩; have n0_ := Aside0.mk (blk_below (g := gb140) (o := .cells #[.string t135, .int .i64 t136, .int .i64 t137, .int .i64 t138] 39 (0, 0)) (by (with_reducible repeat (first | refine blk_drewN ?_ _ | refine blk_drew ?_ | refine blk_alloc ?_ _)); exact BK140.out) hb); have n1_ := Aside0.mk (below_step (by repeat (first | (with_reducible first | exact HB.out | apply below_alloc | apply pw_below_drewN | apply below_drew1 | refine below_set ?_ GE140.out) | exact HB.out)) hb); clear BK140; clear HB; have BK140 := n0_; have HB := n1_; clear n0_ n1_; (try clear hb); (try clear hb2); (try clear hk); (try clear hi)) | (go_at_call 13; (with_reducible refine (synopticlaw14_awake.calls kj18  t144 _ (laid_below HL.out (by repeat (first | (with_reducible first | exact HB.out | apply below_alloc | apply pw_below_drewN | apply below_drew1 | refine below_set ?_ GE140.out) | exact HB.out))) A33.out).mono ?_); rintro e w35 ⟨rfl, hb⟩; have n0_ := Aside0.mk (blk_below (g := gb140) (o := .cells #[.string t135, .int .i64 t136, .int .i64 t137, .int .i64 t138] 39 (0, 0)) (by (with_reducible repeat (first | refine blk_drewN ?_ _ | refine blk_drew ?_ | refine blk_alloc ?_ _)); exact BK140.out) hb); have n1_ := Aside0.mk (below_step (by repeat (first | (with_reducible first | exact HB.out | apply below_alloc | apply pw_below_drewN | apply below_drew1 | refine below_set ?_ GE140.out) | exact HB.out)) hb); clear BK140; clear HB; have BK140 := n0_; have HB := n1_; clear n0_ n1_; (try clear hb); (try clear hb2); (try clear hk); (try clear hi))))
                  go_ret
                  exact ⟨by first | rfl | (simp [errW_none, errW_some] <;> rfl) | (simp [*, errW_none, errW_some] <;> rfl), by repeat (first | (with_reducible first | exact HB.out | apply below_alloc | apply pw_below_drewN | apply below_drew1 | refine below_set ?_ GE140.out) | exact HB.out)⟩
                · rw [if_neg c32] at H
                  exact absurd H (by simp)

/-- THE ONE PURE STATEMENT of synopticlaw14_LimitsNarrow: yours. -/
def synopticlaw14_LimitsNarrow.Pure : Prop := ∀ (a0 : Int) (a1 : Int), (Lit.int .i64 a0).wf = true → (Lit.int .i64 a1).wf = true → ∃ k, synopticlaw14_LimitsNarrow.f k a0 a1 = some true
theorem synopticlaw14_LimitsNarrow.walk (P : synopticlaw14_LimitsNarrow.Pure) (a0 : Int) (a1 : Int) (w : World) (hL : Laid w) (w0 : (Lit.int .i64 a0).wf = true) (w1 : (Lit.int .i64 a1).wf = true) :
    Calls Tryd.prog 4 #[.int .i64 a0, .int .i64 a1] w fun e w' => e = .returned (.bool true) ∧ Below w.heap.size w w' := by
  obtain ⟨k, h⟩ := P a0 a1 w0 w1
  refine (synopticlaw14_LimitsNarrow.calls k a0 a1 true w hL h).mono ?_
  rintro e w' ⟨rfl, hd⟩
  exact ⟨rfl, hd⟩

end Go.Proofs.YtbnkcajdgmbidaaDoor.B
