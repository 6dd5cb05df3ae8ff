/- Gross of package limits reads the laid table of limits. -/
import Derived.Test.YtbnkcajdgmbidaaDoorBT
namespace Go.Proofs.YtbnkcajdgmbidaaDoor.B
open Go.RowKit Go.Proofs.YtbnkcajdgmbidaaDoorW.PrintWords Go.Proofs.YtbnkcajdgmbidaaDoorW.PrintLast Go.Proofs.YtbnkcajdgmbidaaDoorW.PrintMore
set_option linter.unusedVariables false
set_option linter.unusedSimpArgs false
/-- The least and the greatest permitted value of each element. -/
def limLo (e : Int) : Int := if e = 1 then 8700 else if e = 2 then 1830 else if e = 3 then 1830 else if e = 4 then -900 else if e = 5 then -900 else if e = 6 then 1000 else if e = 7 then 2100 else if e = 8 then 2500 else if e = 9 then 2050 else if e = 10 then 4700 else 2050
def limHi (e : Int) : Int := if e = 1 then 10850 else if e = 2 then 3300 else if e = 3 then 3100 else if e = 4 then 900 else if e = 5 then 900 else if e = 6 then 1650 else if e = 7 then 3150 else if e = 8 then 3350 else if e = 9 then 2950 else if e = 10 then 6050 else 2850
/-- The table lies in the first global's cells. -/
def Laid (W : World) : Prop := 0 < W.heap.size ∧ ∀ e : Nat, 1 ≤ e → e ≤ 11 → W.cell? ⟨0, e * 2, none⟩ = some (.int .i64 (limLo e)) ∧ W.cell? ⟨0, e * 2 + 1, none⟩ = some (.int .i64 (limHi e))
theorem laid_below {w w' : World} (h : Laid w) (hb : Below w.heap.size w w') : Laid w' :=
  ⟨Nat.lt_of_lt_of_le h.1 hb.size, fun e h1 h2 => ⟨(hb.cell (p := ⟨0, e * 2, none⟩) h.1).trans (h.2 e h1 h2).1, (hb.cell (p := ⟨0, e * 2 + 1, none⟩) h.1).trans (h.2 e h1 h2).2⟩⟩
def grossB (e v : Int) : Bool := decide (1 ≤ e ∧ e ≤ 11) && (decide (limLo e ≤ v) && decide (v ≤ limHi e))
set_option maxRecDepth 100000 in
set_option maxHeartbeats 4000000 in
theorem gross_out (e v : Int) (he : ¬ (1 ≤ e ∧ e ≤ 11)) (w : World) : Calls Tryd.prog 16 #[.agg #[.int .i64 e, .int .i64 v]] w fun x w' => x = .returned (.bool false) ∧ Below w.heap.size w w' := by
  rcases Int.lt_or_le e 1 with h | h
  · have c1 : decide (e < 1) = true := decide_eq_true h
    go_enter Tryd.func16, Tryd.ntmps16
    go_wp2
    go_ret
    exact ⟨rfl, by repeat (first | exact Below.refl _ _ | apply below_alloc | apply pw_below_drewN | apply below_drew)⟩
  · have c1 : decide (e < 1) = false := decide_eq_false (by omega)
    have c2 : decide (12 ≤ e) = true := decide_eq_true (by omega)
    go_enter Tryd.func16, Tryd.ntmps16
    go_wp2
    go_ret
    exact ⟨rfl, by repeat (first | exact Below.refl _ _ | apply below_alloc | apply pw_below_drewN | apply below_drew)⟩
set_option maxRecDepth 100000 in
set_option maxHeartbeats 4000000 in
theorem gross_at (n : Nat) (lo hi v : Int) (h1 : 1 ≤ n) (h2 : n ≤ 11) (w : World) (hlo : ∀ o : Obj, (w.alloc o).cell? ⟨0, n * 2, none⟩ = some (.int .i64 lo)) (hhi : ∀ o : Obj, (w.alloc o).cell? ⟨0, n * 2 + 1, none⟩ = some (.int .i64 hi)) : Calls Tryd.prog 16 #[.agg #[.int .i64 (n : Int), .int .i64 v]] w fun x w' => x = .returned (.bool (decide (lo ≤ v) && decide (v ≤ hi))) ∧ Below w.heap.size w w' := by
  have c1 : decide ((n : Int) < 1) = false := decide_eq_false (by omega)
  have c2 : decide (12 ≤ (n : Int)) = false := decide_eq_false (by omega)
  have c3 : decide ((n : Int) < 12) = true := decide_eq_true (by omega)
  go_enter Tryd.func16, Tryd.ntmps16
  go_wp2
  all_goals go_ret
  all_goals exact ⟨by first | (simp [*]; done) | (simp; omega), by repeat (first | exact Below.refl _ _ | apply below_alloc | apply pw_below_drewN | apply below_drew | refine below_set ?_ (by simp))⟩
theorem laid_alloc {w : World} (h : Laid w) (e : Nat) (h1 : 1 ≤ e) (h2 : e ≤ 11) (o : Obj) : (w.alloc o).cell? ⟨0, e * 2, none⟩ = some (.int .i64 (limLo e)) ∧ (w.alloc o).cell? ⟨0, e * 2 + 1, none⟩ = some (.int .i64 (limHi e)) :=
  (laid_below h ((Below.refl w.heap.size w).alloc (Nat.le_refl _) o)).2 e h1 h2
theorem limits_Gross.any (e v : Int) (w : World) (hL : Laid w) : Calls Tryd.prog 16 #[.agg #[.int .i64 e, .int .i64 v]] w fun x w' => x = .returned (.bool (grossB e v)) ∧ Below w.heap.size w w' := by
  by_cases he : 1 ≤ e ∧ e ≤ 11
  · obtain ⟨n, rfl⟩ : ∃ n : Nat, e = n := ⟨e.toNat, by omega⟩
    have h := gross_at n (limLo n) (limHi n) v (by omega) (by omega) w (fun o => (laid_alloc hL n (by omega) (by omega) o).1) (fun o => (laid_alloc hL n (by omega) (by omega) o).2)
    have e1 : grossB (n : Int) v = (decide (limLo n ≤ v) && decide (v ≤ limHi n)) := by
      unfold grossB
      rw [decide_eq_true he, Bool.true_and]
    rw [e1]
    exact h
  · have e1 : grossB e v = false := by
      unfold grossB
      rw [decide_eq_false he, Bool.false_and]
    rw [e1]
    exact gross_out e v he w
def limits_Gross.f (e v : Int) : Option Bool := some (grossB e v)
theorem limits_Gross.calls (e v : Int) (r : Bool) (w : World) (hL : Laid w) (h : limits_Gross.f e v = some r) : Calls Tryd.prog 16 #[.agg #[.int .i64 e, .int .i64 v]] w fun x w' => x = .returned (.bool r) ∧ Below w.heap.size w w' := by
  have := limits_Gross.any e v w hL
  rwa [Option.some.inj h] at this
end Go.Proofs.YtbnkcajdgmbidaaDoor.B
