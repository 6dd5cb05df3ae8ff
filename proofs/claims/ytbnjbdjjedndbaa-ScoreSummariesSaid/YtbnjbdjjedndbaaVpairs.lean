/- A row of pairs that came in, told by what it leads to. -/
import Derived.Test.YtbnjbdjjedndbaaB1
import Derived.Deep.SlicePairs
import Derived.OpenShut
import Derived.KernelRfl
namespace Go.Proofs.Ytbnjbdjjedndbaa.B
open Go.RowKit Go.Proofs.YtbnjbdjjedndbaaW.PrintWords Go.Proofs.YtbnjbdjjedndbaaW.PrintLast Go.Proofs.YtbnjbdjjedndbaaW.PrintMore
theorem V_pairs {w : World} {a : Addr} {len cap : Nat} {x y : Nat → Int} {e base : Nat} (hl : len ≤ cap) (hm : cap ≤ maxLen) (h : ∀ i, i < len → w.cell? (a.add (i * 2)) = some (.int .i64 (x i)) ∧ w.cell? (a.add (i * 2 + 1)) = some (.int .i64 (y i))) :
    Kd.V k40 e w base (fun _ => True) (.slice (some a) ((List.range len).map fun i => (⟨x i, y i⟩ : S40)).length cap) ((List.range len).map fun i => (⟨x i, y i⟩ : S40)) := by
  have hn : ((List.range len).map fun i => (⟨x i, y i⟩ : S40)).length = len := by simp
  refine Kd.V_mk (by rw [hn]; exact hl) fun W' hW => ⟨rfl, by rw [hn]; exact Nat.le_trans hl hm, fun _ => ⟨a, rfl, fun j p hj => ?_⟩⟩
  have hj2 : j < len := by
    have := (List.getElem?_eq_some_iff.1 hj).1
    rwa [hn] at this
  have hp : p = ⟨x j, y j⟩ := by
    rw [List.getElem?_map, List.getElem?_range hj2] at hj
    exact (Option.some.inj hj).symm
  subst hp
  refine ⟨_, rfl, k40_mk W' _, fun i u hu => ?_⟩
  obtain ⟨h0, h1⟩ := h j hj2
  have hw : ∀ k, k < w.heap.size → W'.heap[k]? = w.heap[k]? := fun k hk => hW k trivial hk
  match i, hu with
  | 0, hu => obtain rfl := Option.some.inj hu; exact Kd.cell_heap hw h0
  | 1, hu => obtain rfl := Option.some.inj hu; exact Kd.cell_heap hw h1
theorem V_pairs_nil (w : World) (e base : Nat) : Kd.V k40 e w base (fun _ => True) (.slice none 0 0) [] := Kd.V_nil _ _ _ _ _
/-- The whole number that a value is. -/
def num : Value → Int
  | .int _ z => z
  | _ => 0
open Go.ChangeShapes in
theorem pairs_row {H : Type} {enc : TypeId × Value → H} {w : World} {fuel : Nat} {A : Option Addr} {len cap : Nat} {z : DataW H × List MemPlace}
    (h : DataW.trod enc Try.prog w 0 (fun _ => true) true fuel 35 (Value.slice A len cap).cells.toList = some z) :
    ∃ l : List S40, l.length = len ∧ Kd.V k40 40 w w.heap.size (fun _ => True) (.slice A l.length cap) l := by
  rcases Go.Deep.open_slice_pairs Try.underlying35 Try.underlying40 (by kernel_rfl) rfl rfl (by kernel_rfl) (by kernel_rfl) h with ⟨hcs, _⟩ | ⟨a, n, c, m, q, V0, V1, D0, D1, P0, P1, hcs, _, hl, hm, hmm, _, hx⟩
  · simp [Value.cells] at hcs
    obtain ⟨rfl, rfl, rfl⟩ := hcs
    exact ⟨[], rfl, V_pairs_nil _ _ _⟩
  · simp [Value.cells] at hcs
    obtain ⟨rfl, rfl, rfl⟩ := hcs
    have hlm : len ≤ m := by rw [hmm]; simp; exact hl
    refine ⟨(List.range len).map fun i => (⟨num (V0 i), num (V1 i)⟩ : S40), by simp, V_pairs hl hm fun i hi => ?_⟩
    obtain ⟨h0, h1, t0, t1⟩ := hx i (by omega)
    obtain ⟨x, hx0, _, _⟩ := DataW.trod_int Try.underlying3 t0
    obtain ⟨y, hy0, _, _⟩ := DataW.trod_int Try.underlying3 t1
    rw [h0, h1, (List.cons.inj hx0).1, (List.cons.inj hy0).1]
    exact ⟨rfl, rfl⟩
end Go.Proofs.Ytbnjbdjjedndbaa.B
