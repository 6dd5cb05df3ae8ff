/- Made by our program mkbase.py out of the printed functions of this seat: BK. -/
import Derived.Test.YtbnkcajdgmbidaaDoorB1
import Derived.Test.YtbnkcajdgmbidaaDoorBT
namespace Go.Proofs.YtbnkcajdgmbidaaDoor.B
open Go.RowKit Go.Proofs.YtbnkcajdgmbidaaDoorW.PrintWords Go.Proofs.YtbnkcajdgmbidaaDoorW.PrintLast Go.Proofs.YtbnkcajdgmbidaaDoorW.PrintMore
attribute [local go_sem] max2_int min2_int max_two min_two max_three min_three max_four min_four   -- for this text's walks alone
set_option linter.unusedVariables false
set_option linter.unusedSimpArgs false

/-! ### synoptickeep_Ints: function 22 -/
def synoptickeep_Ints.l0 : Nat → List Int → List Int → Int → Option (Bool)
  | 0, _, _, _ => none
  | k + 1, x0, x1, x5 => if x5 < (x0.length : Int) then (if 0 ≤ x5 then (if x5 < (x1.length : Int) then (if (rd x0 x5) = (rd x1 x5) then (synoptickeep_Ints.l0 k x0 x1 (wrap64 (x5 + 1))) else (some false)) else (none)) else (none)) else (some true)
def synoptickeep_Ints.f (k : Nat) (l0 : List Int) (l1 : List Int) : Option (Bool) := if (l0.length : Int) = (l1.length : Int) then (synoptickeep_Ints.l0 k l0 l1 0) else (some false)
theorem synoptickeep_Ints.mono_l : ∀ k, (∀ y0 y1 y2, LeO (synoptickeep_Ints.l0 k y0 y1 y2) (synoptickeep_Ints.l0 (k + 1) y0 y1 y2))
  | 0 => fun _ _ _ r h => by simp [synoptickeep_Ints.l0] at h
  | k + 1 => by
    have ih0 := synoptickeep_Ints.mono_l k
    · intro y0 y1 y2
      unfold synoptickeep_Ints.l0
      repeat' first
      | (with_reducible exact ih0 _ _ _)
      | (with_reducible exact LeO.refl _)
      | (with_reducible exact LeO.none _)
      | (with_reducible refine LeO.ite ?_ ?_)
      | (with_reducible refine LeO.bind ?_ (fun _ => ?_))
      | exact ih0 _ _ _
      | exact LeO.none _
      | refine LeO.ite ?_ ?_
      | refine LeO.bind ?_ (fun _ => ?_)
theorem synoptickeep_Ints.mono : ∀ a0 a1 k, LeO (synoptickeep_Ints.f k a0 a1) (synoptickeep_Ints.f (k + 1) a0 a1) := by
  intro a0 a1 k
  have ih0 := synoptickeep_Ints.mono_l k
  unfold synoptickeep_Ints.f
  repeat' first
      | (with_reducible exact ih0 _ _ _)
      | (with_reducible exact LeO.refl _)
      | (with_reducible exact LeO.none _)
      | (with_reducible refine LeO.ite ?_ ?_)
      | (with_reducible refine LeO.bind ?_ (fun _ => ?_))
      | exact ih0 _ _ _
      | exact LeO.none _
      | refine LeO.ite ?_ ?_
      | refine LeO.bind ?_ (fun _ => ?_)
set_option maxHeartbeats 8000000 in
set_option maxRecDepth 100000 in
theorem synoptickeep_Ints.calls (k : Nat) (A0 : Option Addr) (c0 : Nat) (l0 : List Int) (A1 : Option Addr) (c1 : Nat) (l1 : List Int) (r : Bool) (w : World) (hr0 : Kd.C (Kd.int .i64) w A0 l0.length l0) (hc0 : l0.length ≤ c0) (hr1 : Kd.C (Kd.int .i64) w A1 l1.length l1) (hc1 : l1.length ≤ c1) (h : synoptickeep_Ints.f k l0 l1 = some r) :
    Calls Tryd.prog 22 #[.slice A0 l0.length c0, .slice A1 l1.length c1] w fun e w' => e = .returned (.bool r) ∧ Drawn0 w w' := by
  have HR0 := Aside0.mk hr0
  have HC0 := Aside0.mk hc0
  clear hr0 hc0
  have HR1 := Aside0.mk hr1
  have HC1 := Aside0.mk hc1
  clear hr1 hc1
  have H : (if (l0.length : Int) = (l1.length : Int) then (synoptickeep_Ints.l0 k l0 l1 0) else (some false)) = some r := h
  clear h
  by_cases c3 : (l0.length : Int) = (l1.length : Int)
  · rw [if_pos c3] at H
    have c3b0 : ((l0.length : Int) == (l1.length : Int)) = true := beq_iff_eq.mpr c3
    have c3b1 : ((l0.length : Int) != (l1.length : Int)) = false := bne_eq_false_iff_eq.mpr c3
    have c3b2 : (l0.length == l1.length) = true := by first | simpa using c3 | (simp at c3 ⊢; omega)
    clear c3
    have H' := Aside0.mk H
    clear H
    go_enter Tryd.func22, Tryd.ntmps22
    go_wp2
    repeat (go_quiet (fail); try go_wp2)
    go_loopg [5] k (fun kq v5 w' => ∃ (x5_1 : Int), v5 = .int .i64 x5_1 ∧ Aside0 (synoptickeep_Ints.l0 kq l0 l1 x5_1 = some r) ∧ Aside0 (kq ≤ k) ∧ Drawn0 w w')
    case atStart => exact ⟨(0), (by first | rfl | (simp; done) | (simp [*]; done)), H', ⟨Nat.le_refl _⟩, by repeat (first | exact Drawn0.refl _ | apply Drawn0.step)⟩
    case round =>
      clear H'
      try clear c1
      try clear c2
      try clear p2
      try clear c3
      try clear c3b0
      try clear c3b1
      try clear c3b2
      obtain ⟨x5_1, rfl, HA, HK1, ⟨m1, rfl⟩⟩ := hrel
      cases gk with
      | zero => exact absurd HA.out (by simp [synoptickeep_Ints.l0])
      | succ k1 =>
        have H := HA.out
        clear HA
        simp only [synoptickeep_Ints.l0] at H
        by_cases c4 : x5_1 < (l0.length : Int)
        · rw [if_pos c4] at H
          have c4b0 : decide (x5_1 < (l0.length : Int)) = true := decide_eq_true c4
          clear c4
          by_cases c5 : 0 ≤ x5_1
          · rw [if_pos c5] at H
            have c5b0 : decide (0 ≤ x5_1) = true := decide_eq_true c5
            clear c5
            by_cases c6 : x5_1 < (l1.length : Int)
            · rw [if_pos c6] at H
              have c6b0 : decide (x5_1 < (l1.length : Int)) = true := decide_eq_true c6
              clear c6
              by_cases c7 : (rd l0 x5_1) = (rd l1 x5_1)
              · rw [if_pos c7] at H
                have c7b0 : ((rd l0 x5_1) == (rd l1 x5_1)) = true := beq_iff_eq.mpr c7
                have c7b1 : ((rd l0 x5_1) != (rd l1 x5_1)) = false := bne_eq_false_iff_eq.mpr c7
                clear c7
                have H' := Aside0.mk H
                clear H
                have p101 : 0 ≤ (x5_1 : Int) := of_decide_eq_true (by first | (with_reducible assumption) | assumption)
                have q101 : x5_1 < (l0.length : Int) := of_decide_eq_true (by first | (with_reducible assumption) | assumption)
                obtain ⟨ad101, e101, hx101_0⟩ := Kd.at_int HR0.out x5_1 p101 q101
                cases e101
                replace p101 := eq_true p101
                replace q101 := eq_true q101
                have p102 : 0 ≤ (x5_1 : Int) := of_decide_eq_true (by first | (with_reducible assumption) | assumption)
                have q102 : x5_1 < (l1.length : Int) := of_decide_eq_true (by first | (with_reducible assumption) | assumption)
                obtain ⟨ad102, e102, hx102_0⟩ := Kd.at_int HR1.out x5_1 p102 q102
                cases e102
                replace p102 := eq_true p102
                replace q102 := eq_true q102
                go_wp2
                repeat (go_quiet (fail); try go_wp2)
                go_roundg k1
                case measure => have := HK1.out; omega
                case rel => exact ⟨(wrap64 (x5_1 + 1)), (by first | rfl | (simp; done) | (simp [*]; done)), H', ⟨by have := HK1.out; omega⟩, by repeat (first | exact Drawn0.refl _ | apply Drawn0.step)⟩
              · rw [if_neg c7] at H
                have c7b0 : ((rd l0 x5_1) == (rd l1 x5_1)) = false := beq_eq_false_iff_ne.mpr c7
                have c7b1 : ((rd l0 x5_1) != (rd l1 x5_1)) = true := bne_iff_ne.mpr c7
                obtain rfl := Option.some.inj H
                have p101 : 0 ≤ (x5_1 : Int) := of_decide_eq_true (by first | (with_reducible assumption) | assumption)
                have q101 : x5_1 < (l0.length : Int) := of_decide_eq_true (by first | (with_reducible assumption) | assumption)
                obtain ⟨ad101, e101, hx101_0⟩ := Kd.at_int HR0.out x5_1 p101 q101
                cases e101
                replace p101 := eq_true p101
                replace q101 := eq_true q101
                have p102 : 0 ≤ (x5_1 : Int) := of_decide_eq_true (by first | (with_reducible assumption) | assumption)
                have q102 : x5_1 < (l1.length : Int) := of_decide_eq_true (by first | (with_reducible assumption) | assumption)
                obtain ⟨ad102, e102, hx102_0⟩ := Kd.at_int HR1.out x5_1 p102 q102
                cases e102
                replace p102 := eq_true p102
                replace q102 := eq_true q102
                go_wp2
                repeat (go_quiet (fail); try go_wp2)
                go_ret
                exact ⟨by first | rfl | (simp; done) | (simp [*]; done), by repeat (first | exact Drawn0.refl _ | apply Drawn0.step)⟩
            · rw [if_neg c6] at H
              exact absurd H (by simp)
          · rw [if_neg c5] at H
            exact absurd H (by simp)
        · rw [if_neg c4] at H
          have c4b0 : decide (x5_1 < (l0.length : Int)) = false := decide_eq_false c4
          clear c4
          obtain rfl := Option.some.inj H
          go_wp2
          repeat (go_quiet (fail); try go_wp2)
          go_ret
          exact ⟨by first | rfl | (simp; done) | (simp [*]; done), by repeat (first | exact Drawn0.refl _ | apply Drawn0.step)⟩
  · rw [if_neg c3] at H
    have c3b0 : ((l0.length : Int) == (l1.length : Int)) = false := beq_eq_false_iff_ne.mpr c3
    have c3b1 : ((l0.length : Int) != (l1.length : Int)) = true := bne_iff_ne.mpr c3
    have c3b2 : (l0.length == l1.length) = false := by first | simpa using c3 | (simp at c3 ⊢; omega)
    obtain rfl := Option.some.inj H
    go_enter Tryd.func22, Tryd.ntmps22
    go_wp2
    repeat (go_quiet (fail); try go_wp2)
    go_ret
    exact ⟨by first | rfl | (simp; done) | (simp [*]; done), by repeat (first | exact Drawn0.refl _ | apply Drawn0.step)⟩

/-! ### synoptickeep_Mod: function 14 -/
def synoptickeep_Mod.f (a0 : Int) (a1 : Int) : Option (Int) := if a1 < 1 then (some 0) else (if a1 = 0 then (none) else (if (Int.tmod a0 a1) < 0 then (some (wrap64 ((Int.tmod a0 a1) + a1))) else (some (Int.tmod a0 a1))))
set_option maxHeartbeats 8000000 in
set_option maxRecDepth 100000 in
theorem synoptickeep_Mod.calls (a0 : Int) (a1 : Int) (r : Int) (w : World) (h : synoptickeep_Mod.f a0 a1 = some r) :
    Calls Tryd.prog 14 #[.int .i64 a0, .int .i64 a1] w fun e w' => e = .returned (.int .i64 r) ∧ Drawn0 w w' := by
  have H : (if a1 < 1 then (some 0) else (if a1 = 0 then (none) else (if (Int.tmod a0 a1) < 0 then (some (wrap64 ((Int.tmod a0 a1) + a1))) else (some (Int.tmod a0 a1))))) = some r := h
  clear h
  by_cases c3 : a1 < 1
  · rw [if_pos c3] at H
    have c3b0 : decide (a1 < 1) = true := decide_eq_true c3
    clear c3
    obtain rfl := Option.some.inj H
    go_enter Tryd.func14, Tryd.ntmps14
    go_wp2
    go_ret
    exact ⟨by first | rfl | (simp; done) | (simp [*]; done), by repeat (first | exact Drawn0.refl _ | apply Drawn0.step)⟩
  · rw [if_neg c3] at H
    have c3b0 : decide (a1 < 1) = false := decide_eq_false c3
    clear c3
    by_cases c4 : a1 = 0
    · rw [if_pos c4] at H
      exact absurd H (by simp)
    · rw [if_neg c4] at H
      have c4b0 : (a1 == 0) = false := beq_eq_false_iff_ne.mpr c4
      have c4b1 : (a1 != 0) = true := bne_iff_ne.mpr c4
      by_cases c5 : (Int.tmod a0 a1) < 0
      · rw [if_pos c5] at H
        have c5b0 : decide ((Int.tmod a0 a1) < 0) = true := decide_eq_true c5
        clear c5
        obtain rfl := Option.some.inj H
        go_enter Tryd.func14, Tryd.ntmps14
        go_wp2
        go_ret
        exact ⟨by first | rfl | (simp; done) | (simp [*]; done), by repeat (first | exact Drawn0.refl _ | apply Drawn0.step)⟩
      · rw [if_neg c5] at H
        have c5b0 : decide ((Int.tmod a0 a1) < 0) = false := decide_eq_false c5
        clear c5
        obtain rfl := Option.some.inj H
        go_enter Tryd.func14, Tryd.ntmps14
        go_wp2
        go_ret
        exact ⟨by first | rfl | (simp; done) | (simp [*]; done), by repeat (first | exact Drawn0.refl _ | apply Drawn0.step)⟩

/-! ### synopticref04_Describe: function 15 -/
def synopticref04_Describe.f (a0 : Int) : Option (ByteArray × Int × Int × Int × Int) := if a0 < 1 then (some ((⟨#[]⟩ : ByteArray), 0, 0, 0, 4)) else (if a0 > 11 then (some ((⟨#[]⟩ : ByteArray), 0, 0, 0, 4)) else ((some (([(⟨(⟨#[80]⟩ : ByteArray), 8000, 11000, 5⟩ : S39), (⟨(⟨#[84]⟩ : ByteArray), 1800, 3300, 4⟩ : S39), (⟨(⟨#[68]⟩ : ByteArray), 1800, 3300, 4⟩ : S39), (⟨(⟨#[69]⟩ : ByteArray), (-1000), 1000, 4⟩ : S39), (⟨(⟨#[78]⟩ : ByteArray), (-1000), 1000, 4⟩ : S39), (⟨(⟨#[65]⟩ : ByteArray), 900, 1700, 4⟩ : S39), (⟨(⟨#[66]⟩ : ByteArray), 2000, 3200, 4⟩ : S39), (⟨(⟨#[70]⟩ : ByteArray), 2400, 3400, 4⟩ : S39), (⟨(⟨#[71]⟩ : ByteArray), 2000, 3000, 4⟩ : S39), (⟨(⟨#[74]⟩ : ByteArray), 4400, 6200, 4⟩ : S39), (⟨(⟨#[75]⟩ : ByteArray), 2000, 2900, 4⟩ : S39)] : List (S39)) : List (S39))).bind fun y130 => (if 0 ≤ (wrap64 (a0 - 1)) then (if (wrap64 (a0 - 1)) < (y130.length : Int) then (some ((rd_T39 y130 (wrap64 (a0 - 1))).f0, (rd_T39 y130 (wrap64 (a0 - 1))).f1, (rd_T39 y130 (wrap64 (a0 - 1))).f2, (rd_T39 y130 (wrap64 (a0 - 1))).f3, 0)) else (none)) else (none))))
set_option maxHeartbeats 8000000 in
set_option maxRecDepth 100000 in
theorem synopticref04_Describe.calls (a0 : Int) (r1 : ByteArray) (r2 : Int) (r3 : Int) (r4 : Int) (r5 : Int) (w : World) (h : synopticref04_Describe.f a0 = some (r1, r2, r3, r4, r5)) :
    Calls Tryd.prog 15 #[.int .i64 a0] w fun e w' => e = .returned (.tuple #[.agg #[.string r1, .int .i64 r2, .int .i64 r3, .int .i64 r4], .int .i64 r5]) ∧ Below w.heap.size w w' := by
  have hu39 := Tryd.underlying39
  have HB := Aside0.mk (Below.refl w.heap.size w)
  have H : (if a0 < 1 then (some ((⟨#[]⟩ : ByteArray), 0, 0, 0, 4)) else (if a0 > 11 then (some ((⟨#[]⟩ : ByteArray), 0, 0, 0, 4)) else ((some (([(⟨(⟨#[80]⟩ : ByteArray), 8000, 11000, 5⟩ : S39), (⟨(⟨#[84]⟩ : ByteArray), 1800, 3300, 4⟩ : S39), (⟨(⟨#[68]⟩ : ByteArray), 1800, 3300, 4⟩ : S39), (⟨(⟨#[69]⟩ : ByteArray), (-1000), 1000, 4⟩ : S39), (⟨(⟨#[78]⟩ : ByteArray), (-1000), 1000, 4⟩ : S39), (⟨(⟨#[65]⟩ : ByteArray), 900, 1700, 4⟩ : S39), (⟨(⟨#[66]⟩ : ByteArray), 2000, 3200, 4⟩ : S39), (⟨(⟨#[70]⟩ : ByteArray), 2400, 3400, 4⟩ : S39), (⟨(⟨#[71]⟩ : ByteArray), 2000, 3000, 4⟩ : S39), (⟨(⟨#[74]⟩ : ByteArray), 4400, 6200, 4⟩ : S39), (⟨(⟨#[75]⟩ : ByteArray), 2000, 2900, 4⟩ : S39)] : List (S39)) : List (S39))).bind fun y130 => (if 0 ≤ (wrap64 (a0 - 1)) then (if (wrap64 (a0 - 1)) < (y130.length : Int) then (some ((rd_T39 y130 (wrap64 (a0 - 1))).f0, (rd_T39 y130 (wrap64 (a0 - 1))).f1, (rd_T39 y130 (wrap64 (a0 - 1))).f2, (rd_T39 y130 (wrap64 (a0 - 1))).f3, 0)) else (none)) else (none))))) = some (r1, r2, r3, r4, r5) := h
  clear h
  by_cases c2 : a0 < 1
  · rw [if_pos c2] at H
    have c2b0 : decide (a0 < 1) = true := decide_eq_true c2
    clear c2
    simp only [Option.some.injEq, Prod.mk.injEq] at H
    obtain ⟨rfl, rfl, rfl, rfl, rfl⟩ := H
    go_enter Tryd.func15, Tryd.ntmps15
    go_wp2_with (first | ((with_reducible refine gate_dst (N := 2) rfl ?_); refine box_event ?hg (N := 2) ?hd (cs := #[.string (⟨#[]⟩ : ByteArray), .int .i64 0, .int .i64 0, .int .i64 0]) (t := 39) ?hr ?_; (case hd => rfl); (case hg => rfl); (case hr => first | (go_simp; done) | (go_simp; rfl)); intro gb129 hg w3 hbox hb; have n0_ := Aside0.mk (below_step (by repeat (first | (with_reducible first | exact HB.out | apply below_alloc | apply pw_below_drewN | apply below_drew1) | exact HB.out)) hb); have n1_ := Aside0.mk (hbox); have n2_ := Aside0.mk ((by rw [hg]; exact (below_size (by repeat (first | (with_reducible first | exact HB.out | apply below_alloc | apply pw_below_drewN | apply below_drew1) | exact HB.out))) : w.heap.size ≤ gb129)); have n3_ := Aside0.mk ((by rw [hg]; exact (below_size (by repeat (first | (with_reducible first | exact HB.out | apply below_alloc | apply pw_below_drewN | apply below_drew1) | exact HB.out))) : w.heap.size ≤ gb129)); clear HB; have HB := n0_; have BK129 := n1_; have GW129 := n2_; have GE129 := n3_; clear n0_ n1_ n2_ n3_; clear hb hbox hg; have hcz4_0 : w3.cell? ⟨gb129, 0, none⟩ = some (.string (⟨#[]⟩ : ByteArray)) := (blk_cell BK129.out 0).trans rfl; have hcz4_1 : w3.cell? ⟨gb129, 1, none⟩ = some (.int .i64 0) := (blk_cell BK129.out 1).trans rfl; have hcz4_2 : w3.cell? ⟨gb129, 2, none⟩ = some (.int .i64 0) := (blk_cell BK129.out 2).trans rfl; have hcz4_3 : w3.cell? ⟨gb129, 3, none⟩ = some (.int .i64 0) := (blk_cell BK129.out 3).trans rfl; have hfz4_0 := blk_frozen BK129.out 0; have hfz4_1 := blk_frozen BK129.out 1; have hfz4_2 := blk_frozen BK129.out 2; have hfz4_3 := blk_frozen BK129.out 3) | ((with_reducible refine gate_store (t := 39) (p := 2) rfl ?_); refine store_event (t := 39) (p := 2) (v := ?vo_w5) (w1 := ((((w3.setCell ⟨gb129, 0, none⟩ (.string (⟨#[]⟩ : ByteArray))).setCell ⟨gb129, 1, none⟩ (.int .i64 0)).setCell ⟨gb129, 2, none⟩ (.int .i64 0)).setCell ⟨gb129, 3, none⟩ (.int .i64 0))) ?hg ?ho ?hn ?hr ?_; (case ho => rfl); (case hg => rfl); (case hn => rfl); (case hr => first | (go_simp; done) | (go_simp; rfl)); intro w5 hw; have n0_ : Aside0 (w5.heap[gb129]? = some (.cells #[.string (⟨#[]⟩ : ByteArray), .int .i64 0, .int .i64 0, .int .i64 0] 39 (0, 0))) := ⟨(by rw [hw]; exact (by (with_reducible repeat (first | refine blk_drewN ?_ _ | refine blk_drew ?_ | refine blk_alloc ?_ _)); refine blk_put (cs := #[.string (⟨#[]⟩ : ByteArray), .int .i64 0, .int .i64 0, .int .i64 0]) ?_ 3 _ rfl; (with_reducible repeat (first | refine blk_drewN ?_ _ | refine blk_drew ?_ | refine blk_alloc ?_ _)); refine blk_put (cs := #[.string (⟨#[]⟩ : ByteArray), .int .i64 0, .int .i64 0, .int .i64 0]) ?_ 2 _ rfl; (with_reducible repeat (first | refine blk_drewN ?_ _ | refine blk_drew ?_ | refine blk_alloc ?_ _)); refine blk_put (cs := #[.string (⟨#[]⟩ : ByteArray), .int .i64 0, .int .i64 0, .int .i64 0]) ?_ 1 _ rfl; (with_reducible repeat (first | refine blk_drewN ?_ _ | refine blk_drew ?_ | refine blk_alloc ?_ _)); refine blk_put (cs := #[.string (⟨#[]⟩ : ByteArray), .int .i64 0, .int .i64 0, .int .i64 0]) ?_ 0 _ rfl; (with_reducible repeat (first | refine blk_drewN ?_ _ | refine blk_drew ?_ | refine blk_alloc ?_ _)); exact BK129.out))⟩; have n1_ : Aside0 (Below w.heap.size w w5) := ⟨(by rw [hw]; exact (by repeat (first | (with_reducible first | exact HB.out | apply below_alloc | apply pw_below_drewN | apply below_drew1 | refine below_set ?_ GE129.out) | exact HB.out)))⟩; clear hw; clear BK129; clear HB; have BK129 := n0_; have HB := n1_; clear n0_ n1_))
    refine bodyPost_ret (results_ct rfl _ _ gb129 39 #[.string (⟨#[]⟩ : ByteArray), .int .i64 0, .int .i64 0, .int .i64 0] (0, 0) _ rfl (by (with_reducible repeat (first | refine blk_drewN ?_ _ | refine blk_drew ?_ | refine blk_alloc ?_ _)); exact BK129.out) Tryd.underlying39 rfl (by kernel_rfl)) rfl ?_
    exact ⟨by first | rfl | (simp [errW_none, errW_some] <;> rfl) | (simp [*, errW_none, errW_some] <;> rfl), by repeat (first | (with_reducible first | exact HB.out | apply below_alloc | apply pw_below_drewN | apply below_drew1 | refine below_set ?_ GE129.out) | exact HB.out)⟩
  · rw [if_neg c2] at H
    have c2b0 : decide (a0 < 1) = false := decide_eq_false c2
    clear c2
    by_cases c6 : a0 > 11
    · rw [if_pos c6] at H
      have c6b0 : decide (11 < a0) = true := decide_eq_true c6
      clear c6
      simp only [Option.some.injEq, Prod.mk.injEq] at H
      obtain ⟨rfl, rfl, rfl, rfl, rfl⟩ := H
      go_enter Tryd.func15, Tryd.ntmps15
      go_wp2_with (first | ((with_reducible refine gate_dst (N := 2) rfl ?_); refine box_event ?hg (N := 2) ?hd (cs := #[.string (⟨#[]⟩ : ByteArray), .int .i64 0, .int .i64 0, .int .i64 0]) (t := 39) ?hr ?_; (case hd => rfl); (case hg => rfl); (case hr => first | (go_simp; done) | (go_simp; rfl)); intro gb129 hg w7 hbox hb; have n0_ := Aside0.mk (below_step (by repeat (first | (with_reducible first | exact HB.out | apply below_alloc | apply pw_below_drewN | apply below_drew1) | exact HB.out)) hb); have n1_ := Aside0.mk (hbox); have n2_ := Aside0.mk ((by rw [hg]; exact (below_size (by repeat (first | (with_reducible first | exact HB.out | apply below_alloc | apply pw_below_drewN | apply below_drew1) | exact HB.out))) : w.heap.size ≤ gb129)); have n3_ := Aside0.mk ((by rw [hg]; exact (below_size (by repeat (first | (with_reducible first | exact HB.out | apply below_alloc | apply pw_below_drewN | apply below_drew1) | exact HB.out))) : w.heap.size ≤ gb129)); clear HB; have HB := n0_; have BK129 := n1_; have GW129 := n2_; have GE129 := n3_; clear n0_ n1_ n2_ n3_; clear hb hbox hg; have hcz8_0 : w7.cell? ⟨gb129, 0, none⟩ = some (.string (⟨#[]⟩ : ByteArray)) := (blk_cell BK129.out 0).trans rfl; have hcz8_1 : w7.cell? ⟨gb129, 1, none⟩ = some (.int .i64 0) := (blk_cell BK129.out 1).trans rfl; have hcz8_2 : w7.cell? ⟨gb129, 2, none⟩ = some (.int .i64 0) := (blk_cell BK129.out 2).trans rfl; have hcz8_3 : w7.cell? ⟨gb129, 3, none⟩ = some (.int .i64 0) := (blk_cell BK129.out 3).trans rfl; have hfz8_0 := blk_frozen BK129.out 0; have hfz8_1 := blk_frozen BK129.out 1; have hfz8_2 := blk_frozen BK129.out 2; have hfz8_3 := blk_frozen BK129.out 3) | ((with_reducible refine gate_store (t := 39) (p := 2) rfl ?_); refine store_event (t := 39) (p := 2) (v := ?vo_w9) (w1 := ((((w7.setCell ⟨gb129, 0, none⟩ (.string (⟨#[]⟩ : ByteArray))).setCell ⟨gb129, 1, none⟩ (.int .i64 0)).setCell ⟨gb129, 2, none⟩ (.int .i64 0)).setCell ⟨gb129, 3, none⟩ (.int .i64 0))) ?hg ?ho ?hn ?hr ?_; (case ho => rfl); (case hg => rfl); (case hn => rfl); (case hr => first | (go_simp; done) | (go_simp; rfl)); intro w9 hw; have n0_ : Aside0 (w9.heap[gb129]? = some (.cells #[.string (⟨#[]⟩ : ByteArray), .int .i64 0, .int .i64 0, .int .i64 0] 39 (0, 0))) := ⟨(by rw [hw]; exact (by (with_reducible repeat (first | refine blk_drewN ?_ _ | refine blk_drew ?_ | refine blk_alloc ?_ _)); refine blk_put (cs := #[.string (⟨#[]⟩ : ByteArray), .int .i64 0, .int .i64 0, .int .i64 0]) ?_ 3 _ rfl; (with_reducible repeat (first | refine blk_drewN ?_ _ | refine blk_drew ?_ | refine blk_alloc ?_ _)); refine blk_put (cs := #[.string (⟨#[]⟩ : ByteArray), .int .i64 0, .int .i64 0, .int .i64 0]) ?_ 2 _ rfl; (with_reducible repeat (first | refine blk_drewN ?_ _ | refine blk_drew ?_ | refine blk_alloc ?_ _)); refine blk_put (cs := #[.string (⟨#[]⟩ : ByteArray), .int .i64 0, .int .i64 0, .int .i64 0]) ?_ 1 _ rfl; (with_reducible repeat (first | refine blk_drewN ?_ _ | refine blk_drew ?_ | refine blk_alloc ?_ _)); refine blk_put (cs := #[.string (⟨#[]⟩ : ByteArray), .int .i64 0, .int .i64 0, .int .i64 0]) ?_ 0 _ rfl; (with_reducible repeat (first | refine blk_drewN ?_ _ | refine blk_drew ?_ | refine blk_alloc ?_ _)); exact BK129.out))⟩; have n1_ : Aside0 (Below w.heap.size w w9) := ⟨(by rw [hw]; exact (by repeat (first | (with_reducible first | exact HB.out | apply below_alloc | apply pw_below_drewN | apply below_drew1 | refine below_set ?_ GE129.out) | exact HB.out)))⟩; clear hw; clear BK129; clear HB; have BK129 := n0_; have HB := n1_; clear n0_ n1_))
      refine bodyPost_ret (results_ct rfl _ _ gb129 39 #[.string (⟨#[]⟩ : ByteArray), .int .i64 0, .int .i64 0, .int .i64 0] (0, 0) _ rfl (by (with_reducible repeat (first | refine blk_drewN ?_ _ | refine blk_drew ?_ | refine blk_alloc ?_ _)); exact BK129.out) Tryd.underlying39 rfl (by kernel_rfl)) rfl ?_
      exact ⟨by first | rfl | (simp [errW_none, errW_some] <;> rfl) | (simp [*, errW_none, errW_some] <;> rfl), by repeat (first | (with_reducible first | exact HB.out | apply below_alloc | apply pw_below_drewN | apply below_drew1 | refine below_set ?_ GE129.out) | exact HB.out)⟩
    · rw [if_neg c6] at H
      have c6b0 : decide (11 < a0) = false := decide_eq_false c6
      clear c6
      obtain ⟨y130, hy130⟩ : ∃ y_ : List (S39), y_ = (([(⟨(⟨#[80]⟩ : ByteArray), 8000, 11000, 5⟩ : S39), (⟨(⟨#[84]⟩ : ByteArray), 1800, 3300, 4⟩ : S39), (⟨(⟨#[68]⟩ : ByteArray), 1800, 3300, 4⟩ : S39), (⟨(⟨#[69]⟩ : ByteArray), (-1000), 1000, 4⟩ : S39), (⟨(⟨#[78]⟩ : ByteArray), (-1000), 1000, 4⟩ : S39), (⟨(⟨#[65]⟩ : ByteArray), 900, 1700, 4⟩ : S39), (⟨(⟨#[66]⟩ : ByteArray), 2000, 3200, 4⟩ : S39), (⟨(⟨#[70]⟩ : ByteArray), 2400, 3400, 4⟩ : S39), (⟨(⟨#[71]⟩ : ByteArray), 2000, 3000, 4⟩ : S39), (⟨(⟨#[74]⟩ : ByteArray), 4400, 6200, 4⟩ : S39), (⟨(⟨#[75]⟩ : ByteArray), 2000, 2900, 4⟩ : S39)] : List (S39))) := ⟨_, rfl⟩
      replace H : (if 0 ≤ (wrap64 (a0 - 1)) then (if (wrap64 (a0 - 1)) < (y130.length : Int) then (some ((rd_T39 y130 (wrap64 (a0 - 1))).f0, (rd_T39 y130 (wrap64 (a0 - 1))).f1, (rd_T39 y130 (wrap64 (a0 - 1))).f2, (rd_T39 y130 (wrap64 (a0 - 1))).f3, 0)) else (none)) else (none)) = some (r1, r2, r3, r4, r5) := by first | (rw [hy130]; with_reducible exact H) | (have H2_ := (Option.bind_some _ _).symm.trans H; rw [hy130]; with_reducible exact H2_) | (have H2_ := (Option.bind_some _ _).symm.trans H; with_reducible exact H2_) | with_reducible exact H | (rw [hy130]; exact H) | exact H
      have Ny130 := Aside0.mk hy130
      clear hy130
      obtain ⟨ji10, hji10⟩ : ∃ j_ : Int, (wrap64 (a0 - 1)) = j_ := ⟨_, rfl⟩
      replace H : (if 0 ≤ (ji10) then (if (ji10) < (y130.length : Int) then (some ((rd_T39 y130 (ji10)).f0, (rd_T39 y130 (ji10)).f1, (rd_T39 y130 (ji10)).f2, (rd_T39 y130 (ji10)).f3, 0)) else (none)) else (none)) = some (r1, r2, r3, r4, r5) := by first | (rw [hji10] at H; exact H) | (simp only [hji10] at H ⊢; exact H)
      have hji10w : (IntKind.i64.wrap (a0 - 1)) = ji10 := (i64_w _).trans hji10
      by_cases c11 : 0 ≤ (ji10)
      · rw [if_pos c11] at H
        have c11b0 : decide (0 ≤ (ji10)) = true := decide_eq_true c11
        clear c11
        by_cases c12 : (ji10) < (y130.length : Int)
        · rw [if_pos c12] at H
          have c12b0 : decide ((ji10) < (y130.length : Int)) = true := decide_eq_true c12
          clear c12
          simp only [Option.some.injEq, Prod.mk.injEq] at H
          obtain ⟨rfl, rfl, rfl, rfl, rfl⟩ := H
          go_enter Tryd.func15, Tryd.ntmps15
          go_wp2_with (first | ((with_reducible refine gate_dst (N := 2) rfl ?_); refine box_event ?hg (N := 2) ?hd (cs := #[.string (⟨#[]⟩ : ByteArray), .int .i64 0, .int .i64 0, .int .i64 0]) (t := 39) ?hr ?_; (case hd => rfl); (case hg => rfl); (case hr => first | (go_simp; done) | (go_simp; rfl)); intro gb129 hg w13 hbox hb; have n0_ := Aside0.mk (below_step (by repeat (first | (with_reducible first | exact HB.out | apply below_alloc | apply pw_below_drewN | apply below_drew1) | exact HB.out)) hb); have n1_ := Aside0.mk (hbox); have n2_ := Aside0.mk ((by rw [hg]; exact (below_size (by repeat (first | (with_reducible first | exact HB.out | apply below_alloc | apply pw_below_drewN | apply below_drew1) | exact HB.out))) : w.heap.size ≤ gb129)); have n3_ := Aside0.mk ((by rw [hg]; exact (below_size (by repeat (first | (with_reducible first | exact HB.out | apply below_alloc | apply pw_below_drewN | apply below_drew1) | exact HB.out))) : w.heap.size ≤ gb129)); clear HB; have HB := n0_; have BK129 := n1_; have GW129 := n2_; have GE129 := n3_; clear n0_ n1_ n2_ n3_; clear hb hbox hg) | ((with_reducible refine gate_dst (N := 22) rfl ?_); refine Kd.R_lit k39 _ 39 ?hg (N := 22) ?hd (xs := ([(⟨(⟨#[80]⟩ : ByteArray), 8000, 11000, 5⟩ : S39), (⟨(⟨#[84]⟩ : ByteArray), 1800, 3300, 4⟩ : S39), (⟨(⟨#[68]⟩ : ByteArray), 1800, 3300, 4⟩ : S39), (⟨(⟨#[69]⟩ : ByteArray), (-1000), 1000, 4⟩ : S39), (⟨(⟨#[78]⟩ : ByteArray), (-1000), 1000, 4⟩ : S39), (⟨(⟨#[65]⟩ : ByteArray), 900, 1700, 4⟩ : S39), (⟨(⟨#[66]⟩ : ByteArray), 2000, 3200, 4⟩ : S39), (⟨(⟨#[70]⟩ : ByteArray), 2400, 3400, 4⟩ : S39), (⟨(⟨#[71]⟩ : ByteArray), 2000, 3000, 4⟩ : S39), (⟨(⟨#[74]⟩ : ByteArray), 4400, 6200, 4⟩ : S39), (⟨(⟨#[75]⟩ : ByteArray), 2000, 2900, 4⟩ : S39)] : List (S39))) (inner := [.string (⟨#[80]⟩ : ByteArray), .int .i64 8000, .int .i64 11000, .int .i64 5, .string (⟨#[84]⟩ : ByteArray), .int .i64 1800, .int .i64 3300, .int .i64 4, .string (⟨#[68]⟩ : ByteArray), .int .i64 1800, .int .i64 3300, .int .i64 4, .string (⟨#[69]⟩ : ByteArray), .int .i64 (-1000), .int .i64 1000, .int .i64 4, .string (⟨#[78]⟩ : ByteArray), .int .i64 (-1000), .int .i64 1000, .int .i64 4, .string (⟨#[65]⟩ : ByteArray), .int .i64 900, .int .i64 1700, .int .i64 4, .string (⟨#[66]⟩ : ByteArray), .int .i64 2000, .int .i64 3200, .int .i64 4, .string (⟨#[70]⟩ : ByteArray), .int .i64 2400, .int .i64 3400, .int .i64 4, .string (⟨#[71]⟩ : ByteArray), .int .i64 2000, .int .i64 3000, .int .i64 4, .string (⟨#[74]⟩ : ByteArray), .int .i64 4400, .int .i64 6200, .int .i64 4, .string (⟨#[75]⟩ : ByteArray), .int .i64 2000, .int .i64 2900, .int .i64 4]) (ok := fun _ => True) (okp := fun _ => True) ?hr ?hp (fun _ hk => hk) trivial (Below.refl _ _) (Nat.le_refl _) (by simp) ?_; (case hd => rfl); (case hg => rfl); (case hr => first | (go_simp; done) | (go_simp; rfl)); (case hp => exact (Reps.c4 (show Kd.M k39 _ _ _ (⟨(⟨#[80]⟩ : ByteArray), 8000, 11000, 5⟩ : S39) [.string (⟨#[80]⟩ : ByteArray), .int .i64 8000, .int .i64 11000, .int .i64 5] from (k39_mkM _ _ _ (⟨(⟨#[80]⟩ : ByteArray), 8000, 11000, 5⟩ : S39) )) (Reps.c4 (show Kd.M k39 _ _ _ (⟨(⟨#[84]⟩ : ByteArray), 1800, 3300, 4⟩ : S39) [.string (⟨#[84]⟩ : ByteArray), .int .i64 1800, .int .i64 3300, .int .i64 4] from (k39_mkM _ _ _ (⟨(⟨#[84]⟩ : ByteArray), 1800, 3300, 4⟩ : S39) )) (Reps.c4 (show Kd.M k39 _ _ _ (⟨(⟨#[68]⟩ : ByteArray), 1800, 3300, 4⟩ : S39) [.string (⟨#[68]⟩ : ByteArray), .int .i64 1800, .int .i64 3300, .int .i64 4] from (k39_mkM _ _ _ (⟨(⟨#[68]⟩ : ByteArray), 1800, 3300, 4⟩ : S39) )) (Reps.c4 (show Kd.M k39 _ _ _ (⟨(⟨#[69]⟩ : ByteArray), (-1000), 1000, 4⟩ : S39) [.string (⟨#[69]⟩ : ByteArray), .int .i64 (-1000), .int .i64 1000, .int .i64 4] from (k39_mkM _ _ _ (⟨(⟨#[69]⟩ : ByteArray), (-1000), 1000, 4⟩ : S39) )) (Reps.c4 (show Kd.M k39 _ _ _ (⟨(⟨#[78]⟩ : ByteArray), (-1000), 1000, 4⟩ : S39) [.string (⟨#[78]⟩ : ByteArray), .int .i64 (-1000), .int .i64 1000, .int .i64 4] from (k39_mkM _ _ _ (⟨(⟨#[78]⟩ : ByteArray), (-1000), 1000, 4⟩ : S39) )) (Reps.c4 (show Kd.M k39 _ _ _ (⟨(⟨#[65]⟩ : ByteArray), 900, 1700, 4⟩ : S39) [.string (⟨#[65]⟩ : ByteArray), .int .i64 900, .int .i64 1700, .int .i64 4] from (k39_mkM _ _ _ (⟨(⟨#[65]⟩ : ByteArray), 900, 1700, 4⟩ : S39) )) (Reps.c4 (show Kd.M k39 _ _ _ (⟨(⟨#[66]⟩ : ByteArray), 2000, 3200, 4⟩ : S39) [.string (⟨#[66]⟩ : ByteArray), .int .i64 2000, .int .i64 3200, .int .i64 4] from (k39_mkM _ _ _ (⟨(⟨#[66]⟩ : ByteArray), 2000, 3200, 4⟩ : S39) )) (Reps.c4 (show Kd.M k39 _ _ _ (⟨(⟨#[70]⟩ : ByteArray), 2400, 3400, 4⟩ : S39) [.string (⟨#[70]⟩ : ByteArray), .int .i64 2400, .int .i64 3400, .int .i64 4] from (k39_mkM _ _ _ (⟨(⟨#[70]⟩ : ByteArray), 2400, 3400, 4⟩ : S39) )) (Reps.c4 (show Kd.M k39 _ _ _ (⟨(⟨#[71]⟩ : ByteArray), 2000, 3000, 4⟩ : S39) [.string (⟨#[71]⟩ : ByteArray), .int .i64 2000, .int .i64 3000, .int .i64 4] from (k39_mkM _ _ _ (⟨(⟨#[71]⟩ : ByteArray), 2000, 3000, 4⟩ : S39) )) (Reps.c4 (show Kd.M k39 _ _ _ (⟨(⟨#[74]⟩ : ByteArray), 4400, 6200, 4⟩ : S39) [.string (⟨#[74]⟩ : ByteArray), .int .i64 4400, .int .i64 6200, .int .i64 4] from (k39_mkM _ _ _ (⟨(⟨#[74]⟩ : ByteArray), 4400, 6200, 4⟩ : S39) )) (Reps.c4 (show Kd.M k39 _ _ _ (⟨(⟨#[75]⟩ : ByteArray), 2000, 2900, 4⟩ : S39) [.string (⟨#[75]⟩ : ByteArray), .int .i64 2000, .int .i64 2900, .int .i64 4] from (k39_mkM _ _ _ (⟨(⟨#[75]⟩ : ByteArray), 2000, 2900, 4⟩ : S39) )) (Reps.none _ _))))))))))))); intro v131 w14 ho15 hb hg_ hnew_; clear hg_ hnew_; (first | rw [← Ny130.out] at ho15 | (simp only [Int.reduceToNat] at ho15; rw [← Ny130.out] at ho15)); have n0_ := Aside0.mk (Kd.R_lower (Kd.R_newB ho15 (g := gb129) (o := .cells #[.string (⟨#[]⟩ : ByteArray), .int .i64 0, .int .i64 0, .int .i64 0] 39 (0, 0)) (by (with_reducible repeat (first | refine blk_drewN ?_ _ | refine blk_drew ?_ | refine blk_alloc ?_ _)); exact BK129.out)) (below_size (by repeat (first | (with_reducible first | exact HB.out | apply below_alloc | apply pw_below_drewN | apply below_drew1 | refine below_set ?_ GE129.out) | exact HB.out)))); have n1_ := Aside0.mk (blk_below (g := gb129) (o := .cells #[.string (⟨#[]⟩ : ByteArray), .int .i64 0, .int .i64 0, .int .i64 0] 39 (0, 0)) (by (with_reducible repeat (first | refine blk_drewN ?_ _ | refine blk_drew ?_ | refine blk_alloc ?_ _)); exact BK129.out) hb); have n2_ := Aside0.mk (below_step (by repeat (first | (with_reducible first | exact HB.out | apply below_alloc | apply pw_below_drewN | apply below_drew1 | refine below_set ?_ GE129.out) | exact HB.out)) hb); clear BK129; clear HB; have HO132 := n0_; have BK129 := n1_; have HB := n2_; clear n0_ n1_ n2_; clear hb ho15; obtain ⟨Ao16, co16, eo16⟩ := Kd.R_slice HO132.out; subst eo16; have p133 : 0 ≤ ((ji10) : Int) := of_decide_eq_true (by first | (with_reducible assumption) | assumption); have q133 : (ji10) < (y130.length : Int) := of_decide_eq_true (by first | (with_reducible assumption) | assumption); obtain ⟨ad133, e133, hx133_0, hx133_1, hx133_2, hx133_3⟩ := at_T39 (Kd.R_reads' HO132.out).2.2 (ji10) p133 q133; cases e133; replace p133 := eq_true p133; replace q133 := eq_true q133; have hcz17_0 : w14.cell? ⟨gb129, 0, none⟩ = some (.string (⟨#[]⟩ : ByteArray)) := (blk_cell BK129.out 0).trans rfl; have hcz17_1 : w14.cell? ⟨gb129, 1, none⟩ = some (.int .i64 0) := (blk_cell BK129.out 1).trans rfl; have hcz17_2 : w14.cell? ⟨gb129, 2, none⟩ = some (.int .i64 0) := (blk_cell BK129.out 2).trans rfl; have hcz17_3 : w14.cell? ⟨gb129, 3, none⟩ = some (.int .i64 0) := (blk_cell BK129.out 3).trans rfl; have hfz17_0 := blk_frozen BK129.out 0; have hfz17_1 := blk_frozen BK129.out 1; have hfz17_2 := blk_frozen BK129.out 2; have hfz17_3 := blk_frozen BK129.out 3) | ((with_reducible refine gate_store (t := 39) (p := 2) rfl ?_); refine store_event (t := 39) (p := 2) (v := ?vo_w18) (w1 := ((((w14.setCell ⟨gb129, 0, none⟩ (.string ((rd_T39 y130 (ji10)).f0))).setCell ⟨gb129, 1, none⟩ (.int .i64 ((rd_T39 y130 (ji10)).f1))).setCell ⟨gb129, 2, none⟩ (.int .i64 ((rd_T39 y130 (ji10)).f2))).setCell ⟨gb129, 3, none⟩ (.int .i64 ((rd_T39 y130 (ji10)).f3)))) ?hg ?ho ?hn ?hr ?_; (case ho => rfl); (case hg => rfl); (case hn => rfl); (case hr => first | (go_simp; done) | (go_simp; rfl)); intro w18 hw; have n0_ : Aside0 (Kd.R k39 39 w18 w.heap.size (fun k_ => k_ ≠ gb129) (.slice (some ad133) y130.length co16) y130) := ⟨(by rw [hw]; exact (by (with_reducible repeat (first | apply Kd.R_alloc | apply Kd.R_drewN | apply Kd.R_drew)); exact Kd.R_mono (Kd.R_far (p := ⟨gb129, 3, none⟩) (Kd.R_far (p := ⟨gb129, 2, none⟩) (Kd.R_far (p := ⟨gb129, 1, none⟩) (Kd.R_far (p := ⟨gb129, 0, none⟩) (Kd.R_mono HO132.out (fun k_ hk => (⟨hk, hk.2⟩ : _ ∧ k_ ≠ gb129))) (fun _ hk => hk.2) (.string ((rd_T39 y130 (ji10)).f0))) (fun _ hk => hk.2) (.int .i64 ((rd_T39 y130 (ji10)).f1))) (fun _ hk => hk.2) (.int .i64 ((rd_T39 y130 (ji10)).f2))) (fun _ hk => hk.2) (.int .i64 ((rd_T39 y130 (ji10)).f3))) (fun _ hk => hk.1.2)))⟩; have n1_ : Aside0 (w18.heap[gb129]? = some (.cells #[.string ((rd_T39 y130 (ji10)).f0), .int .i64 ((rd_T39 y130 (ji10)).f1), .int .i64 ((rd_T39 y130 (ji10)).f2), .int .i64 ((rd_T39 y130 (ji10)).f3)] 39 (0, 0))) := ⟨(by rw [hw]; exact (by (with_reducible repeat (first | refine blk_drewN ?_ _ | refine blk_drew ?_ | refine blk_alloc ?_ _)); refine blk_put (cs := #[.string ((rd_T39 y130 (ji10)).f0), .int .i64 ((rd_T39 y130 (ji10)).f1), .int .i64 ((rd_T39 y130 (ji10)).f2), .int .i64 0]) ?_ 3 _ rfl; (with_reducible repeat (first | refine blk_drewN ?_ _ | refine blk_drew ?_ | refine blk_alloc ?_ _)); refine blk_put (cs := #[.string ((rd_T39 y130 (ji10)).f0), .int .i64 ((rd_T39 y130 (ji10)).f1), .int .i64 0, .int .i64 0]) ?_ 2 _ rfl; (with_reducible repeat (first | refine blk_drewN ?_ _ | refine blk_drew ?_ | refine blk_alloc ?_ _)); refine blk_put (cs := #[.string ((rd_T39 y130 (ji10)).f0), .int .i64 0, .int .i64 0, .int .i64 0]) ?_ 1 _ rfl; (with_reducible repeat (first | refine blk_drewN ?_ _ | refine blk_drew ?_ | refine blk_alloc ?_ _)); refine blk_put (cs := #[.string (⟨#[]⟩ : ByteArray), .int .i64 0, .int .i64 0, .int .i64 0]) ?_ 0 _ rfl; (with_reducible repeat (first | refine blk_drewN ?_ _ | refine blk_drew ?_ | refine blk_alloc ?_ _)); exact BK129.out))⟩; have n2_ : Aside0 (Below w.heap.size w w18) := ⟨(by rw [hw]; exact (by repeat (first | (with_reducible first | exact HB.out | apply below_alloc | apply pw_below_drewN | apply below_drew1 | refine below_set ?_ GE129.out) | exact HB.out)))⟩; clear hw; clear HO132; clear BK129; clear HB; have HO132 := n0_; have BK129 := n1_; have HB := n2_; clear n0_ n1_ n2_))
          refine bodyPost_ret (results_ct rfl _ _ gb129 39 #[.string ((rd_T39 y130 (ji10)).f0), .int .i64 ((rd_T39 y130 (ji10)).f1), .int .i64 ((rd_T39 y130 (ji10)).f2), .int .i64 ((rd_T39 y130 (ji10)).f3)] (0, 0) _ rfl (by (with_reducible repeat (first | refine blk_drewN ?_ _ | refine blk_drew ?_ | refine blk_alloc ?_ _)); exact BK129.out) Tryd.underlying39 rfl (by kernel_rfl)) rfl ?_
          exact ⟨by first | rfl | (simp [errW_none, errW_some] <;> rfl) | (simp only [← hji10]; first | rfl | (simp [errW_none, errW_some] <;> rfl)) | (simp [*, errW_none, errW_some] <;> rfl), by repeat (first | (with_reducible first | exact HB.out | apply below_alloc | apply pw_below_drewN | apply below_drew1 | refine below_set ?_ GE129.out) | exact HB.out)⟩
        · rw [if_neg c12] at H
          exact absurd H (by simp)
      · rw [if_neg c11] at H
        exact absurd H (by simp)

end Go.Proofs.YtbnkcajdgmbidaaDoor.B
