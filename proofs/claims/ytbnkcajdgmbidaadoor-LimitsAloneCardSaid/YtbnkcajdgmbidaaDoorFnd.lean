/- The first reading of an element: Find of package element, find of package limits. -/
import Derived.Test.YtbnkcajdgmbidaaDoorLim
namespace Go.Proofs.YtbnkcajdgmbidaaDoor.B
open Go.RowKit Go.Proofs.YtbnkcajdgmbidaaDoorW.PrintWords Go.Proofs.YtbnkcajdgmbidaaDoorW.PrintLast Go.Proofs.YtbnkcajdgmbidaaDoorW.PrintMore
set_option linter.unusedVariables false
set_option linter.unusedSimpArgs false
theorem is30 (e v c : Int) (B : Nat) (w : World) (hB : B < w.heap.size) (hc : w.cell? ⟨B, 0, none⟩ = some (.int .i64 c)) : Calls Tryd.prog 30 #[.agg #[.int .i64 e, .int .i64 v], .pointer (some ⟨B, 0, none⟩)] w fun x w' => x = .returned (.bool (e == c)) ∧ Below w.heap.size w w' := by
  have hc' : ∀ o : Obj, (w.alloc o).cell? ⟨B, 0, none⟩ = some (.int .i64 c) := fun o => (((Below.refl w.heap.size w).alloc (Nat.le_refl _) o).cell (p := ⟨B, 0, none⟩) hB).trans hc
  clear hc
  go_enter Tryd.func30, Tryd.ntmps30
  go_wp2
  go_ret
  exact ⟨by first | rfl | (simp; done), by repeat (first | exact Below.refl _ _ | apply below_alloc | apply pw_below_drewN | apply below_drew)⟩
/-- The place of the first reading of an element. -/
def idx.l0 : Nat → List S30 → Int → Int → Option Int
  | 0, _, _, _ => none
  | k + 1, l, c, i => if i < (l.length : Int) then (if 0 ≤ i then (if ((rd_T30 l i).f0 == c) = true then some i else idx.l0 k l c (wrap64 (i + 1))) else none) else some (-1)
set_option maxRecDepth 100000 in
set_option maxHeartbeats 4000000 in
theorem idx29 (k : Nat) (A0 : Option Addr) (c0 : Nat) (l0 : List S30) (c r : Int) (B : Nat) (w : World) (hr0 : Kd.C k30 w A0 l0.length l0) (hB : B < w.heap.size) (hc : w.cell? ⟨B, 0, none⟩ = some (.int .i64 c)) (h : idx.l0 k l0 c 0 = some r) :
    Calls Tryd.prog 29 #[.slice A0 l0.length c0, .func (.func 30) #[] #[.pointer (some ⟨B, 0, none⟩)]] w fun e w' => e = .returned (.int .i64 r) ∧ Below w.heap.size w w' := by
  have HR0 := Aside0.mk hr0
  have H' := Aside0.mk h
  have HC := Aside0.mk hc
  have HBl := Aside0.mk hB
  clear hr0 h hc hB
  go_enter Tryd.func29, Tryd.ntmps29
  go_wp2
  go_loopg [5, 8] k (fun kq v5 v8 w' => ∃ (x8_1 : Int), v8 = .int .i64 x8_1 ∧ Aside0 (idx.l0 kq l0 c x8_1 = some r) ∧ Aside0 (Below w.heap.size w w'))
  case atStart => exact ⟨(0), rfl, H', ⟨by repeat (first | exact Below.refl _ _ | apply below_alloc | apply pw_below_drewN | apply below_drew)⟩⟩
  case round =>
    clear H'
    obtain ⟨x8_1, rfl, HA, HB⟩ := hrel
    have HRw : Aside0 (Kd.C k30 wr A0 l0.length l0) := ⟨Kd.C_below HR0.out HB.out⟩
    have HCw : Aside0 (wr.cell? ⟨B, 0, none⟩ = some (.int .i64 c)) := ⟨(HB.out.cell (p := ⟨B, 0, none⟩) HBl.out).trans HC.out⟩
    have HBw : Aside0 (B < wr.heap.size) := ⟨Nat.lt_of_lt_of_le HBl.out HB.out.size⟩
    cases gk with
    | zero => exact absurd HA.out (by simp [idx.l0])
    | succ k1 =>
      have H := HA.out
      clear HA
      simp only [idx.l0] at H
      by_cases c3 : x8_1 < (l0.length : Int)
      · rw [if_pos c3] at H
        have c3b0 : decide (x8_1 < (l0.length : Int)) = true := decide_eq_true c3
        by_cases c4 : 0 ≤ x8_1
        · rw [if_pos c4] at H
          have c4b0 : decide (0 ≤ x8_1) = true := decide_eq_true c4
          obtain ⟨ad, e104, hx0, hx1⟩ := at_T30 HRw.out x8_1 c4 c3
          cases e104
          have c4t := eq_true c4
          have c3t := eq_true c3
          by_cases c5 : ((rd_T30 l0 x8_1).f0 == c) = true
          · rw [if_pos c5] at H
            obtain rfl := Option.some.inj H
            clear H
            go_wp2_with (go_at_call 30; ((with_reducible refine (is30 _ _ c B _ HBw.out HCw.out).mono ?_); rintro e w' ⟨rfl, hb⟩; rw [c5]; have HB2 : Aside0 (Below w.heap.size w w') := ⟨below_step HB.out hb⟩; clear hb))
            go_ret
            exact ⟨rfl, HB2.out⟩
          · rw [if_neg c5] at H
            have HH := Aside0.mk H
            clear H
            replace c5 := Bool.eq_false_iff.mpr c5
            go_wp2_with (go_at_call 30; ((with_reducible refine (is30 _ _ c B _ HBw.out HCw.out).mono ?_); rintro e w' ⟨rfl, hb⟩; rw [c5]; have HB2 : Aside0 (Below w.heap.size w w') := ⟨below_step HB.out hb⟩; clear hb))
            go_roundg k1
            case measure => omega
            case rel => exact ⟨wrap64 (x8_1 + 1), (by first | rfl | (simp; done) | (simp [*]; done)), HH, HB2⟩
        · rw [if_neg c4] at H
          cases H
      · rw [if_neg c3] at H
        obtain rfl := Option.some.inj H
        clear H
        have c3b0 : decide (x8_1 < (l0.length : Int)) = false := decide_eq_false c3
        go_wp2
        go_ret
        exact ⟨rfl, HB.out⟩
/-- The first reading of an element, if there is one. -/
def fnd : List S30 → Int → Int × Bool
  | [], _ => (0, false)
  | x :: l, c => if (x.f0 == c) = true then (x.f1, true) else fnd l c
theorem rd30_nat (l : List S30) (i : Nat) (h : i < l.length) : rd_T30 l (i : Int) = l[i] := by unfold rd_T30; simp [h]
theorem idx_some (l : List S30) (hl : l.length ≤ 1000000) (c : Int) : ∀ (d k i : Nat), i + d = l.length → d < k →
    (idx.l0 k l c (i : Int) = some (-1) ∧ fnd (l.drop i) c = (0, false)) ∨ ∃ j : Nat, j < l.length ∧ idx.l0 k l c (i : Int) = some (j : Int) ∧ fnd (l.drop i) c = ((rd_T30 l (j : Int)).f1, true) := by
  intro d
  induction d with
  | zero =>
    intro k i hd hk
    obtain ⟨k, rfl⟩ : ∃ m, k = m + 1 := ⟨k - 1, by omega⟩
    refine .inl ⟨?_, ?_⟩
    · simp only [idx.l0]
      rw [if_neg (by omega)]
    · rw [List.drop_of_length_le (by omega)]; rfl
  | succ d ih =>
    intro k i hd hk
    obtain ⟨k, rfl⟩ : ∃ m, k = m + 1 := ⟨k - 1, by omega⟩
    have hi : i < l.length := by omega
    have hw : wrap64 ((i : Int) + 1) = ((i + 1 : Nat) : Int) := by unfold wrap64; omega
    rw [List.drop_eq_getElem_cons hi]
    simp only [idx.l0, fnd]
    rw [if_pos (show (i : Int) < (l.length : Int) by omega), if_pos (show (0 : Int) ≤ (i : Int) by omega), hw, rd30_nat l i hi]
    by_cases e : (l[i].f0 == c) = true
    · rw [if_pos e, if_pos e]
      exact .inr ⟨i, hi, rfl, by rw [rd30_nat l i hi]⟩
    · rw [if_neg e, if_neg e]
      exact ih k (i + 1) (by omega) (by omega)
set_option maxRecDepth 100000 in
set_option maxHeartbeats 4000000 in
theorem find_no (k : Nat) (A0 : Option Addr) (c0 : Nat) (l0 : List S30) (c : Int) (w : World) (hr0 : Kd.C k30 w A0 l0.length l0) (h : idx.l0 k l0 c 0 = some (-1)) :
    Calls Tryd.prog 26 #[.slice A0 l0.length c0, .int .i64 c] w fun e w' => e = .returned (.tuple #[.int .i64 0, .bool false]) ∧ Below w.heap.size w w' := by
  have hq := idx29 k A0 c0 l0 c (-1) w.heap.size (w.alloc (.cells #[.int .i64 c] 3)) (Kd.C_alloc hr0 _) (by simp) ((blk_cell (blk_new w _) 0).trans rfl) h
  clear hr0 h
  go_enter Tryd.func26, Tryd.ntmps26
  go_wp2_with (go_at_call 29; ((with_reducible refine hq.mono ?_); rintro e w' ⟨rfl, hb⟩; have HB2 : Aside0 (Below w.heap.size w w') := ⟨below_step (below_alloc (Below.refl _ _) _) hb⟩; clear hb hq))
  go_ret2
  exact ⟨rfl, HB2.out⟩
set_option maxRecDepth 100000 in
set_option maxHeartbeats 4000000 in
theorem find_yes (k : Nat) (A0 : Option Addr) (c0 : Nat) (l0 : List S30) (c r : Int) (w : World) (hr0 : Kd.C k30 w A0 l0.length l0) (h : idx.l0 k l0 c 0 = some r) (h0 : 0 ≤ r) (h1 : r < (l0.length : Int)) :
    Calls Tryd.prog 26 #[.slice A0 l0.length c0, .int .i64 c] w fun e w' => e = .returned (.tuple #[.int .i64 (rd_T30 l0 r).f1, .bool true]) ∧ Below w.heap.size w w' := by
  have hq := idx29 k A0 c0 l0 c r w.heap.size (w.alloc (.cells #[.int .i64 c] 3)) (Kd.C_alloc hr0 _) (by simp) ((blk_cell (blk_new w _) 0).trans rfl) h
  have HR0 := Aside0.mk hr0
  clear hr0 h
  have n0 : decide (r < 0) = false := decide_eq_false (by omega)
  go_enter Tryd.func26, Tryd.ntmps26
  go_wp2_with (go_at_call 29; ((with_reducible refine hq.mono ?_); rintro e w' ⟨rfl, hb⟩; have HB2 : Aside0 (Below w.heap.size w w') := ⟨below_step (below_alloc (Below.refl _ _) _) hb⟩; clear hb hq; obtain ⟨ad, e104, hx0, hx1⟩ := at_T30 (Kd.C_below HR0.out HB2.out) r h0 h1; cases e104; have q0 := eq_true h0; have q1 := eq_true h1))
  go_ret2
  exact ⟨rfl, HB2.out⟩
theorem find_any (A0 : Option Addr) (c0 : Nat) (l0 : List S30) (c : Int) (hl : l0.length ≤ 1000000) (w : World) (hr0 : Kd.C k30 w A0 l0.length l0) :
    Calls Tryd.prog 26 #[.slice A0 l0.length c0, .int .i64 c] w fun e w' => e = .returned (.tuple #[.int .i64 (fnd l0 c).1, .bool (fnd l0 c).2]) ∧ Below w.heap.size w w' := by
  rcases idx_some l0 hl c l0.length (l0.length + 1) 0 (by omega) (by omega) with ⟨h1, h2⟩ | ⟨j, hj, h1, h2⟩
  · rw [List.drop_zero] at h2
    rw [h2]
    exact find_no _ A0 c0 l0 c w hr0 h1
  · rw [List.drop_zero] at h2
    rw [h2]
    exact find_yes _ A0 c0 l0 c (j : Int) w hr0 h1 (by omega) (by omega)
/-- The same, if it can be compared. -/
def cmpd (l : List S30) (c : Int) : Bool := (fnd l c).2 && (decide (-100000 ≤ (fnd l c).1) && decide ((fnd l c).1 ≤ 100000))
theorem find19 (A0 : Option Addr) (c0 : Nat) (l0 : List S30) (c v : Int) (b : Bool) (hl : l0.length ≤ 1000000) (hv : fnd l0 c = (v, b)) (w : World) (hr0 : Kd.C k30 w A0 l0.length l0) :
    Calls Tryd.prog 19 #[.slice A0 l0.length c0, .int .i64 c] w fun e w' => e = .returned (.tuple #[.int .i64 v, .bool (b && (decide (-100000 ≤ v) && decide (v ≤ 100000)))]) ∧ Below w.heap.size w w' := by
  have hq := find_any A0 c0 l0 c hl w hr0
  rw [hv] at hq
  clear hr0
  go_enter Tryd.func19, Tryd.ntmps19
  go_wp2_with (go_at_call 26; ((with_reducible refine hq.mono ?_); rintro e w' ⟨rfl, hb⟩))
  all_goals go_ret2
  all_goals exact ⟨by first | rfl | (simp [*]; done) | (simp; omega), hb⟩
theorem find19_any (A0 : Option Addr) (c0 : Nat) (l0 : List S30) (c : Int) (hl : l0.length ≤ 1000000) (w : World) (hr0 : Kd.C k30 w A0 l0.length l0) :
    Calls Tryd.prog 19 #[.slice A0 l0.length c0, .int .i64 c] w fun e w' => e = .returned (.tuple #[.int .i64 (fnd l0 c).1, .bool (cmpd l0 c)]) ∧ Below w.heap.size w w' :=
  find19 A0 c0 l0 c (fnd l0 c).1 (fnd l0 c).2 hl rfl w hr0
end Go.Proofs.YtbnkcajdgmbidaaDoor.B
