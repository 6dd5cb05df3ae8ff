/- Facts of a walk carried over the worlds between two calls, in short words. -/
import Derived.Test.YtcgjgpdandjicaaB1
namespace Go.Proofs.Ytcgjgpdandjicaa.B
open Go.RowKit Go.Proofs.YtcgjgpdandjicaaW.PrintWords Go.Proofs.YtcgjgpdandjicaaW.PrintLast Go.Proofs.YtcgjgpdandjicaaW.PrintMore

/-- The blocks of w stand in w1 as they were. -/
class Kept (w w1 : World) : Prop where
  h : Below w.heap.size w w1
instance Kept.same (w : World) : Kept w w := ⟨Below.refl _ _⟩
instance Kept.drew {w w1 : World} [k : Kept w w1] : Kept w w1.drew := ⟨below_drew1 k.h⟩
instance Kept.drewN {w w1 : World} (n : Nat) [k : Kept w w1] : Kept w (w1.drewN n) := ⟨pw_below_drewN k.h n⟩
instance Kept.alloc {w w1 : World} (o : Obj) [k : Kept w w1] : Kept w (w1.alloc o) := ⟨below_alloc k.h o⟩
theorem kB {w w1 w2 : World} {g : Nat} {o : Obj} (h : Aside0 (w.heap[g]? = some o)) (hb : Below w1.heap.size w1 w2) [k : Kept w w1] : Aside0 (w2.heap[g]? = some o) := ⟨blk_below (blk_below h.out k.h) hb⟩
theorem kR {α : Type} {d : Kd α} {e : Nat} {w w1 w2 : World} {base : Nat} {ok : Nat → Prop} {v : Value} {xs : List α} (h : Aside0 (d.R e w base ok v xs)) (hb : Below w1.heap.size w1 w2) [k : Kept w w1] : Aside0 (d.R e w2 base ok v xs) := ⟨Kd.R_below (Kd.R_below h.out k.h) hb⟩
theorem kH {w W w1 w2 : World} (h : Aside0 (Below w.heap.size w W)) (hb : Below w1.heap.size w1 w2) [k : Kept W w1] : Aside0 (Below w.heap.size w w2) := ⟨below_step (below_step h.out k.h) hb⟩
/-- What stands in w stands in w1, but for the block b. -/
class FarB (b : Nat) (w w1 : World) : Prop where
  eq : ∀ k, k ≠ b → k < w.heap.size → w1.heap[k]? = w.heap[k]?
  bel : ∀ W : World, Below W.heap.size W w → W.heap.size ≤ b → Below W.heap.size W w1
instance FarB.kept {b : Nat} {w w1 : World} [k : Kept w w1] : FarB b w w1 := ⟨fun j _ h => k.h.block j h, fun _ h _ => below_step h k.h⟩
instance FarB.set {b : Nat} {w w1 : World} (i : Nat) (v : Value) [k : FarB b w w1] : FarB b w (w1.setCell ⟨b, i, none⟩ v) := ⟨fun j hj h => (Below.heap_setCell w1 ⟨b, i, none⟩ v j hj).trans (k.eq j hj h), fun W h g => below_set (k.bel W h g) g⟩
instance FarB.drew {b : Nat} {w w1 : World} [k : FarB b w w1] : FarB b w w1.drew := ⟨fun j hj h => k.eq j hj h, fun W h g => below_drew1 (k.bel W h g)⟩
instance FarB.drewN {b : Nat} {w w1 : World} (n : Nat) [k : FarB b w w1] : FarB b w (w1.drewN n) := ⟨fun j hj h => k.eq j hj h, fun W h g => pw_below_drewN (k.bel W h g) n⟩
theorem kF {b : Nat} {w w1 w2 : World} {g : Nat} {o : Obj} (h : Aside0 (w.heap[g]? = some o)) (nb : Aside0 (g ≠ b)) (hw : w2 = w1) [k : FarB b w w1] : Aside0 (w2.heap[g]? = some o) := ⟨hw ▸ (k.eq g nb.out (blk_lt h.out)).trans h.out⟩
theorem kFR {b t : Nat} {cells : Array Value} {α : Type} {d : Kd α} {e : Nat} {w w1 w2 : World} {base : Nat} {ok : Nat → Prop} {v : Value} {xs : List α} (h : Aside0 (d.R e w base ok v xs)) (hb : Aside0 (w.heap[b]? = some (.cells cells t (0, 0)))) (hw : w2 = w1) [k : FarB b w w1] (ht : ∀ q, q ∈ e :: d.E → q ≠ t) : Aside0 (d.R e w2 base ok v xs) :=
  ⟨hw ▸ Kd.R_mono (Kd.R_step (Kd.R_types h.out hb.out ht) (fun j hj hlt => k.eq j hj.2 hlt)) (fun _ hj => hj.1)⟩
theorem kFH {b : Nat} {w W W1 W2 : World} (h : Aside0 (Below w.heap.size w W)) (ge : Aside0 (w.heap.size ≤ b)) (hw : W2 = W1) [k : FarB b W W1] : Aside0 (Below w.heap.size w W2) := ⟨hw ▸ k.bel w h.out ge.out⟩
theorem kN {w w1 : World} {g b : Nat} {o : Obj} (h : Aside0 (w.heap[g]? = some o)) (hg : b = w1.heap.size) [k : Kept w w1] : Aside0 (g ≠ b) := ⟨by rw [hg]; exact Nat.ne_of_lt (blk_lt (blk_below h.out k.h))⟩
theorem kM {w w1 : World} {g b : Nat} {o : Obj} (h : Aside0 (w.heap[g]? = some o)) (hg : b = w1.heap.size) [k : Kept w w1] : Aside0 (b ≠ g) := ⟨fun e => (kN h hg).out e.symm⟩
theorem kG {w W w1 : World} {b : Nat} (h : Aside0 (Below w.heap.size w W)) (hg : b = w1.heap.size) [k : Kept W w1] : Aside0 (w.heap.size ≤ b) := ⟨by rw [hg]; exact below_size (below_step h.out k.h)⟩
theorem kC {α : Type} {d : Kd α} {w w1 w2 : World} {a : Option Addr} {n : Nat} {xs : List α} (h : Aside0 (d.C w a n xs)) (hb : Below w1.heap.size w1 w2) [k : Kept w w1] : Aside0 (d.C w2 a n xs) := ⟨Kd.C_below (Kd.C_below h.out k.h) hb⟩
end Go.Proofs.Ytcgjgpdandjicaa.B
