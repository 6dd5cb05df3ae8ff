/- Results of an exact test: of all of them at most the part x is at most x. The plain facts that the statements compare. -/
import Derived.Test.YtcgjgpdandjicaaCmp
import Derived.Test.YtcgjgpdandjicaaChs
import Derived.Test.YtcgjgpdandjicaaBH
namespace Go.Proofs.Ytcgjgpdandjicaa.B
open Go.RowKit Go.Proofs.YtcgjgpdandjicaaW.PrintWords Go.Proofs.YtcgjgpdandjicaaW.PrintLast Go.Proofs.YtcgjgpdandjicaaW.PrintMore
open Go.Proofs.Ytcgjgpdandjicaa.Smp
set_option linter.unusedVariables false
set_option linter.unusedSimpArgs false

/-- A fraction in lowest terms of whole numbers that are not negative. -/
def IsRed (n d : Nat) (x y : Int) : Prop := ∃ g : Int, 0 < g ∧ (n : Int) = g * x ∧ (d : Int) = g * y ∧ 1 ≤ y ∧ y ≤ 1152921504606846976 ∧ -1152921504606846976 ≤ x ∧ x ≤ 1152921504606846976
theorem isRed_of (n d : Nat) (hn : n ≤ 1000000000) (hd : 1 ≤ d) (hd2 : d ≤ 1000000000) : ∃ x y : Int, red (n : Int) (d : Int) = (x, y, 0) ∧ IsRed n d x y := by
  obtain ⟨g, x, y, e, hg, h1, h2, h3, h4, h5, h6⟩ := red_pos (n : Int) (d : Int) (by unfold In60; omega) (by omega)
  exact ⟨x, y, e, g, hg, h1, h2, h3, h4, h5.1, h5.2⟩
theorem cmp_red {n d m e : Nat} {x y u v : Int} (h : IsRed n d x y) (k : IsRed m e u v) : score_Compare.f x y u v = some (cmpI ((n : Int) * e) ((m : Int) * d)) := by
  obtain ⟨g, hg, h1, h2, h3, h4, h5, h6⟩ := h
  obtain ⟨f, hf, k1, k2, k3, k4, k5, k6⟩ := k
  unfold score_Compare.f
  rw [if_pos ⟨⟨h5, h6⟩, ⟨h3, h4⟩, ⟨k5, k6⟩, ⟨k3, k4⟩⟩]
  have c := cmp_mul (g := g * f) (Int.mul_pos hg hf) (x * v) (u * y)
  rw [← c, h1, h2, k1, k2]
  congr 2
  · rw [Int.mul_assoc, Int.mul_assoc, Int.mul_left_comm f]
  · rw [Int.mul_assoc, Int.mul_left_comm g, Int.mul_assoc, Int.mul_left_comm u]
theorem cmp_raw {n d m e : Nat} {u v : Int} (hn : n ≤ 1000000000) (hd : 1 ≤ d) (hd2 : d ≤ 1000000000) (k : IsRed m e u v) : score_Compare.f (n : Int) (d : Int) u v = some (cmpI ((n : Int) * e) ((m : Int) * d)) :=
  cmp_red (n := n) (d := d) ⟨1, by omega, by omega, by omega, by omega, by omega, by omega, by omega⟩ k
theorem cmp_same {n m d : Nat} (hd : 1 ≤ d) : cmpI ((n : Int) * d) ((m : Int) * d) = cmpI n m := by
  have := cmp_mul (g := (d : Int)) (by omega) n m
  rwa [Int.mul_comm (d : Int), Int.mul_comm (d : Int)] at this
theorem cmpI_le {a b : Int} : cmpI a b ≤ 0 ↔ a ≤ b := by
  unfold cmpI
  constructor
  · intro h
    split at h
    · omega
    · split at h
      · omega
      · omega
  · exact cmp_le

/-- The results of a test: reduced fractions over their number, and of all of them at most the part x is at most x. -/
structure Good (R : List S31) (G : Nat → Nat) : Prop where
  pos : 1 ≤ R.length
  most : R.length ≤ 1000000
  red : ∀ j, j < R.length → IsRed (G j) R.length (rd_T31 R (j : Int)).f0 (rd_T31 R (j : Int)).f1
  part : ∀ x, x < R.length → ((List.range R.length).countP fun y => decide (G y ≤ G x)) ≤ G x
theorem Good.cmp {R : List S31} {G : Nat → Nat} (h : Good R G) {j x : Nat} (hj : j < R.length) (hx : x < R.length) :
    score_Compare.f (rd_T31 R (j : Int)).f0 (rd_T31 R (j : Int)).f1 (rd_T31 R (x : Int)).f0 (rd_T31 R (x : Int)).f1 = some (cmpI (G j) (G x)) := by
  rw [cmp_red (h.red j hj) (h.red x hx), cmp_same h.pos]
theorem Good.last {R : List S31} {G : Nat → Nat} (h : Good R G) {x : Nat} (hx : x < R.length) :
    ∃ t, score_Compare.f ((((List.range R.length).countP fun y => decide (G y ≤ G x)) : Nat) : Int) (R.length : Int) (rd_T31 R (x : Int)).f0 (rd_T31 R (x : Int)).f1 = some t ∧ ¬ t > 0 := by
  have hc := List.countP_le_length (p := fun y => decide (G y ≤ G x)) (l := List.range R.length)
  rw [List.length_range] at hc
  have hm := h.most
  have hp := h.part x hx
  refine ⟨_, cmp_raw (by omega) h.pos (by omega) (h.red x hx), ?_⟩
  rw [cmp_same h.pos]
  have := cmp_le (show ((((List.range R.length).countP fun y => decide (G y ≤ G x)) : Nat) : Int) ≤ (G x : Int) by omega)
  omega
end Go.Proofs.Ytcgjgpdandjicaa.B
