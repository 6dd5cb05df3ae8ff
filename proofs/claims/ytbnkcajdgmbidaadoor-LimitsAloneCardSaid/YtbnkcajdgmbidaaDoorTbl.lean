/- What the row's condition on the listed table gives the walks. -/
import Derived.Test.YtbnkcajdgmbidaaDoorRows
import Derived.Test.YtbnkcajdgmbidaaDoorLim
import Derived.ProofKit
import Derived.LaidMore
import Derived.OpenShut
import Derived.Stop.Joined
namespace Go.Proofs.YtbnkcajdgmbidaaDoor.B
open Go.ChangeShapes Go.WideShapes Go.ChangeAt Go.WideMaps Go.WideElems Go.RowKit
set_option linter.unusedVariables false
set_option linter.unusedSimpArgs false
theorem gB : Tryd.prog.globalNamed "synoptic/limits.bounds" = some 0 := by kernel_rfl
theorem tB : (Tryd.prog.globals[0]?).map (·.type) = some 54 := by kernel_rfl
theorem c3 : Tryd.prog.cellsOf 3 = 1 := by kernel_rfl
theorem c50 : Tryd.prog.cellsOf 50 = 2 := by kernel_rfl
theorem trod_pair {H : Type} {enc : TypeId × Value → H} {W : World} {b m : Nat} {sp : TypeId → Bool} {hd : Bool} {cs : List Value} {x : DataW H × List MemPlace} (h : DataW.trod enc Tryd.prog W b sp hd m 50 cs = some x) :
    ∃ p q, cs = [.int .i64 p, .int .i64 q] ∧ x.1 = .agg [.lit (.int .i64 p), .lit (.int .i64 q)] := by
  obtain ⟨xs, m1, rfl, hx, hlen, hn, hel⟩ := DataW.trod_array Tryd.underlying50 h
  rw [c50] at hlen
  match xs, hn, hel with
  | [x0, x1], _, hel =>
    have h0 := hel 0 (by decide)
    have h1 := hel 1 (by decide)
    rw [c3] at h0 h1
    match cs, hlen with
    | [u, v], _ =>
      obtain ⟨p, e1, e2, _⟩ := DataW.trod_int Tryd.underlying3 (show DataW.trod _ Tryd.prog W _ _ _ m1 3 [u] = some x0 from h0)
      obtain ⟨q, e3, e4, _⟩ := DataW.trod_int Tryd.underlying3 (show DataW.trod _ Tryd.prog W _ _ _ m1 3 [v] = some x1 from h1)
      refine ⟨p, q, ?_, ?_⟩
      · injection e1 with e1 _
        injection e3 with e3 _
        rw [e1, e3]
      · rw [hx, e2, e4]
        rfl
def LB : List (String × DataW Unit) := [("synoptic/limits.bounds", Rows.laid_synoptic_limits_bounds)]
theorem bound_at {D : List (DataW Unit)} {xs : List (DataW Unit × List MemPlace)} {cs : List Value} {enc : TypeId × Value → Unit} {W : World} {b m : Nat} {sp : TypeId → Bool} {hd : Bool} (hD : D = xs.map (·.1)) (hn : xs.length = 12)
    (hel : ∀ i, i < 12 → DataW.trod enc Tryd.prog W b sp hd m 50 ((cs.drop (i * 2)).take 2) = xs[i]?) (e : Nat) (he : e < 12) (p q : Int) (hk : D[e]? = some (.agg [.lit (.int .i64 p), .lit (.int .i64 q)])) : cs[e * 2]? = some (.int .i64 p) ∧ cs[e * 2 + 1]? = some (.int .i64 q) := by
  have hx : xs[e]? = some xs[e] := List.getElem?_eq_getElem (by omega)
  obtain ⟨a, c, hc, hv⟩ := trod_pair ((hel e he).trans hx)
  rw [hD, List.getElem?_map, hx] at hk
  simp only [Option.map_some, Option.some.injEq] at hk
  rw [hv] at hk
  injection hk with hk
  injection hk with h1 h2
  injection h2 with h2 _
  injection h1 with h1
  injection h1 with _ h1
  injection h2 with h2
  injection h2 with _ h2
  subst h1 h2
  have g0 : ((cs.drop (e * 2)).take 2)[0]? = some (.int .i64 a) := by rw [hc]; rfl
  have g1 : ((cs.drop (e * 2)).take 2)[1]? = some (.int .i64 c) := by rw [hc]; rfl
  rw [List.getElem?_take_of_lt (by decide), List.getElem?_drop] at g0 g1
  exact ⟨g0, g1⟩
theorem of_laid {W : World} (h : laidMetH Tryd.prog LB W) : Laid W := by
  unfold LB at h
  rw [MakeChecks.laidMetH_plain _ _ _ (by kernel_rfl)] at h
  obtain ⟨ps, ⟨g0, t0, cs0, f0, p0, q0, hg0, ht0, hv0, hd0, _⟩, _, _⟩ := h
  obtain rfl := Option.some.inj (gB.symm.trans hg0)
  obtain rfl := Option.some.inj (tB.symm.trans ht0)
  have hcell := fun i => World.var?_cell hg0 hv0 i
  obtain ⟨xs, m1, rfl, hx1, hlen, hn, hel⟩ := DataW.trod_array Tryd.underlying54 hd0
  rw [c50] at hel
  simp only [Prod.mk.injEq] at hx1
  have hx := hx1.1
  unfold Rows.laid_synoptic_limits_bounds at hx
  injection hx with hx
  have hb := fun e he p q hk => bound_at hx hn hel e he p q hk
  have hall : ∀ e : Nat, 1 ≤ e → e ≤ 11 → W.cell? ⟨0, e * 2, none⟩ = some (.int .i64 (limLo e)) ∧ W.cell? ⟨0, e * 2 + 1, none⟩ = some (.int .i64 (limHi e)) := by
    intro e h1 h2
    have hh : cs0.toList[e * 2]? = some (.int .i64 (limLo e)) ∧ cs0.toList[e * 2 + 1]? = some (.int .i64 (limHi e)) := by
      rcases (show e = 1 ∨ e = 2 ∨ e = 3 ∨ e = 4 ∨ e = 5 ∨ e = 6 ∨ e = 7 ∨ e = 8 ∨ e = 9 ∨ e = 10 ∨ e = 11 by omega) with rfl | rfl | rfl | rfl | rfl | rfl | rfl | rfl | rfl | rfl | rfl
      all_goals exact hb _ (by decide) _ _ rfl
    exact ⟨(hcell _).trans (by rw [← Array.getElem?_toList]; exact hh.1), (hcell _).trans (by rw [← Array.getElem?_toList]; exact hh.2)⟩
  refine ⟨?_, hall⟩
  have h1 := (hall 1 (by decide) (by decide)).1
  rcases Nat.lt_or_ge 0 W.heap.size with h0 | h0
  · exact h0
  · rw [World.cell?, Array.getElem?_eq_none (by omega)] at h1
    cases h1
end Go.Proofs.YtbnkcajdgmbidaaDoor.B
