/- Exchange of package sampling: the part of the choices that differ as much as the two samples do. -/
import Derived.Laws.EntriesVeiled
import Derived.Test.YtcgjgpdandjicaaDif
import Derived.Test.YtcgjgpdandjicaaCat
import Derived.Test.YtcgjgpdandjicaaOnes
namespace Go.Proofs.Ytcgjgpdandjicaa.B
open Go.RowKit Go.Shelf Go.Proofs.YtcgjgpdandjicaaW.PrintWords Go.Proofs.YtcgjgpdandjicaaW.PrintLast Go.Proofs.YtcgjgpdandjicaaW.PrintMore
open Go.Proofs.Ytcgjgpdandjicaa.Smp
set_option linter.unusedVariables false
set_option linter.unusedSimpArgs false
attribute [local go_sem] Oper.semAt_some

/-- How far a choice lies from its share. -/
def dif (l : List Int) (na : Nat) (c : Nat) : Int := ab (chosen l c * (l.length : Int) - total l * (na : Int))
def exOf (a b : List Int) : Nat := (List.range (2 ^ (a ++ b).length)).countP fun c => decide (ones (a ++ b).length c = a.length)
def exNum (a b : List Int) : Nat := (List.range (2 ^ (a ++ b).length)).countP fun c => decide (ones (a ++ b).length c = a.length) && decide (dif (a ++ b) a.length (2 ^ a.length - 1) ≤ dif (a ++ b) a.length c)
def exchR (a b : List Int) : Int × Int × Int := if 12 < (a ++ b).length then (0, 0, 1) else if outB (a ++ b) = true then (0, 0, 1) else red (exNum a b) (exOf a b)

theorem two_rows {W : World} {g t na nb ca cb : Nat} {A B : Option Addr} {a b : List Int} (hg : W.heap[g]? = some (.cells #[.slice A na ca, .slice B nb cb] t (0, 0)))
    (hna : a.length = na) (hnb : b.length = nb) (hca : na ≤ ca) (hcb : nb ≤ cb) (ha : Kd.C (Kd.int .i64) W A na a) (hb : Kd.C (Kd.int .i64) W B nb b) : Kd.C (Kd.slice 3 (Kd.int .i64)) W (some ⟨g, 0, none⟩) 2 [a, b] := by
  subst hna hnb
  refine ⟨rfl, by omega, fun _ => ⟨_, rfl, fun j p hp => ?_⟩⟩
  match j, hp with
  | 0, hp =>
    obtain rfl := Option.some.inj hp
    refine ⟨[.slice A a.length ca], rfl, ⟨A, ca, rfl, hca, ha⟩, fun i u hu => ?_⟩
    match i, hu with
    | 0, hu => obtain rfl := Option.some.inj hu; exact (blk_cell hg 0).trans rfl
  | 1, hp =>
    obtain rfl := Option.some.inj hp
    refine ⟨[.slice B b.length cb], rfl, ⟨B, cb, rfl, hcb, hb⟩, fun i u hu => ?_⟩
    match i, hu with
    | 0, hu => obtain rfl := Option.some.inj hu; exact (blk_cell hg 1).trans rfl
theorem concat_at (g na nb ca cb : Nat) (A B : Option Addr) (a b : List Int) (hna : a.length = na) (hnb : b.length = nb) (hca : na ≤ ca) (hcb : nb ≤ cb) (h : na + nb ≤ 1000000000) (w : World) (hg : w.heap[g]? = some (.cells #[.slice A na ca, .slice B nb cb] 24 (0, 0)))
    (ha : Kd.C (Kd.int .i64) w A na a) (hb : Kd.C (Kd.int .i64) w B nb b) :
    Calls Try.prog 42 #[.slice (some ⟨g, 0, none⟩) 2 2] w fun e w' => ∃ (L : Option Addr) (cL : Nat), e = .returned (.slice L (na + nb) cL) ∧ na + nb ≤ cL ∧ Kd.C (Kd.int .i64) w' L (na + nb) (a ++ b) ∧ Below w.heap.size w w' := by
  refine (concat_any _ 2 a b (by omega) w (two_rows hg hna hnb hca hcb ha hb) (Nat.le_refl _)).mono ?_
  rintro e w' ⟨v, rfl, hR, hB⟩
  obtain ⟨L, cL, rfl, h1, h2⟩ := Kd.R_reads hR
  have hl : (a ++ b).length = na + nb := by rw [List.length_append]; omega
  rw [hl] at h1 h2 ⊢
  exact ⟨L, cL, rfl, h1, h2, hB⟩
theorem blk_third (w : World) (A B C : Obj) : (((w.alloc A).alloc B).alloc C).heap[w.heap.size + 1 + 1]? = some C := by
  have := blk_new ((w.alloc A).alloc B) C
  simpa using this
/-- What of the choices that have come has as many elements as the first sample, and differs as much. -/
def po (l : List Int) (na : Nat) (pre : List C4) : Int := ((pre.countP fun c => decide (ones 12 c.1 = na) : Nat) : Int)
def pn (l : List Int) (na : Nat) (own : Int) (pre : List C4) : Int := ((pre.countP fun c => decide (ones 12 c.1 = na) && decide (own ≤ dif l na c.1) : Nat) : Int)
theorem po_le (l : List Int) (na : Nat) (pre : List C4) : 0 ≤ po l na pre ∧ po l na pre ≤ pre.length := by
  unfold po
  have := List.countP_le_length (p := fun c : C4 => decide (ones 12 c.1 = na)) (l := pre)
  omega
theorem pn_le (l : List Int) (na : Nat) (own : Int) (pre : List C4) : 0 ≤ pn l na own pre ∧ pn l na own pre ≤ pre.length := by
  unfold pn
  have := List.countP_le_length (p := fun c : C4 => decide (ones 12 c.1 = na) && decide (own ≤ dif l na c.1)) (l := pre)
  omega
theorem po_snoc (l : List Int) (na : Nat) (pre : List C4) (c : C4) : po l na (pre ++ [c]) = po l na pre + if ones 12 c.1 = na then 1 else 0 := by
  unfold po
  rw [List.countP_append]
  by_cases h : ones 12 c.1 = na
  · rw [if_pos h, List.countP_cons_of_pos (by simpa using h)]; simp
  · rw [if_neg h, List.countP_cons_of_neg (by simpa using h)]; simp
theorem pn_snoc (l : List Int) (na : Nat) (own : Int) (pre : List C4) (c : C4) : pn l na own (pre ++ [c]) = pn l na own pre + if ones 12 c.1 = na ∧ own ≤ dif l na c.1 then 1 else 0 := by
  unfold pn
  rw [List.countP_append]
  by_cases h : ones 12 c.1 = na ∧ own ≤ dif l na c.1
  · rw [if_pos h, List.countP_cons_of_pos (by simpa using h)]; simp
  · rw [if_neg h, List.countP_cons_of_neg (by simpa using h)]; simp
theorem po_all (a b : List Int) (M : Nat) (hM : 2 ^ (a ++ b).length = M) (h : M ≤ 4096) (h12 : (a ++ b).length ≤ 12) : po (a ++ b) a.length (upto M) = (exOf a b : Int) := by
  unfold po exOf upto
  rw [hM, List.countP_map]
  congr 1
  refine List.countP_congr fun c hc => ?_
  rw [List.mem_range] at hc
  have e := ones_more (a ++ b).length c (by omega) (12 - (a ++ b).length)
  rw [show (a ++ b).length + (12 - (a ++ b).length) = 12 by omega] at e
  simp only [Function.comp, cc_val (show c < 4096 by omega), e]
theorem pn_all (a b : List Int) (M : Nat) (hM : 2 ^ (a ++ b).length = M) (h : M ≤ 4096) (h12 : (a ++ b).length ≤ 12) : pn (a ++ b) a.length (dif (a ++ b) a.length (2 ^ a.length - 1)) (upto M) = (exNum a b : Int) := by
  unfold pn exNum upto
  rw [hM, List.countP_map]
  congr 1
  refine List.countP_congr fun c hc => ?_
  rw [List.mem_range] at hc
  have e := ones_more (a ++ b).length c (by omega) (12 - (a ++ b).length)
  rw [show (a ++ b).length + (12 - (a ++ b).length) = 12 by omega] at e
  simp only [Function.comp, cc_val (show c < 4096 by omega), e]
/-- What lies in the boxes of Exchange between two rounds. -/
structure ExI (wr : World) (g h0 : Nat) (T own : Int) (l : List Int) (na : Nat) (pre : List C4) (W : World) : Prop where
  b7 : W.heap[g + 1]? = some (.cells #[.int .i64 T] 3 (0, 0))
  b8 : W.heap[g + 1 + 1]? = some (.cells #[.func (.func 43) #[] #[.pointer (some ⟨g, 0, none⟩), .pointer (some ⟨g + 1, 0, none⟩), .pointer (some ⟨h0, 0, none⟩)]] 71 (0, 0))
  b9 : W.heap[g + 1 + 1 + 1]? = some (.cells #[.int .i64 own] 3 (0, 0))
  b10 : W.heap[g + 1 + 1 + 1 + 1]? = some (.cells #[.int .i64 (pn l na own pre)] 3 (0, 0))
  b11 : W.heap[g + 1 + 1 + 1 + 1 + 1]? = some (.cells #[.int .i64 (po l na pre)] 3 (0, 0))
  below : Below wr.heap.size wr W
theorem exI_own (wr : World) (g h0 : Nat) (T own : Int) (l : List Int) (na : Nat) (B : Nat) (hB : wr.heap.size ≤ B) : OwnFrom B (ExI wr g h0 T own l na) := by
  intro pre W W' row h hg hr
  have hr2 : ∀ r, row = some r → ∃ o : Obj, W.heap[r]? = some o ∧ o.isCells = false := fun r e => (hr r e).2
  exact ⟨(grownBy_keeps_cells hg hr2 h.b7 rfl).trans h.b7, (grownBy_keeps_cells hg hr2 h.b8 rfl).trans h.b8, (grownBy_keeps_cells hg hr2 h.b9 rfl).trans h.b9, (grownBy_keeps_cells hg hr2 h.b10 rfl).trans h.b10, (grownBy_keeps_cells hg hr2 h.b11 rfl).trans h.b11, h.below.grown hg h.below.size (fun k e => Nat.le_trans hB (hr k e).1)⟩
theorem dif_at (g h0 : Nat) (A L : Option Addr) (na ca N cL c : Nat) (l : List Int) (own : Int) (hN : l.length = N) (hN2 : N ≤ 12) (hna : na ≤ 12) (hf : Fine l) (ho : own = dif l na c) (hc : c < 18446744073709551616) (x : Int) (hx : x = (c : Int)) (hcL : N ≤ cL) (W : World)
    (h6 : W.heap[g]? = some (.cells #[.slice L N cL] 24 (0, 0))) (h7 : W.heap[g + 1]? = some (.cells #[.int .i64 (total l)] 3 (0, 0))) (h2 : W.heap[h0]? = some (.cells #[.slice A na ca] 24 (0, 0))) (hr : Kd.C (Kd.int .i64) W L N l) :
    Calls Try.prog 43 #[.int .u64 x, .pointer (some ⟨g, 0, none⟩), .pointer (some ⟨g + 1, 0, none⟩), .pointer (some ⟨h0, 0, none⟩)] W fun e w' => e = .returned (.int .i64 own) ∧ Drawn0 W w' := by
  have h := dif_any g h0 A L na ca N cL c l (total l) hN hN2 hna hf rfl hc x hx hcL W ((blk_cell h6 0).trans rfl) ((blk_cell h7 0).trans rfl) ((blk_cell h2 0).trans rfl) hr
  rw [ho]
  unfold dif
  rw [hN]
  exact h
theorem ex_new {wr : World} {g : Nat} (h : wr.heap.size = g) (k : Nat) (o : Obj) : ((wr.drewN k).alloc o).heap[g]? = some o := by
  have := blk_new (wr.drewN k) o
  rwa [show (wr.drewN k).heap.size = g from h] at this
theorem ex_far {W : World} {g h : Nat} {t : TypeId} {cs : Array Value} (hb : W.heap[g]? = some (.cells cs t (0, 0))) (hne : g ≠ h) (u : Value) : (W.setCell ⟨h, 0, none⟩ u).heap[g]? = some (.cells cs t (0, 0)) := blk_far hb (p := ⟨h, 0, none⟩) hne u
section
variable {wr : World} {g h0 : Nat} {T own : Int} {l : List Int} {na : Nat} {pre : List C4} {W Wx : World} {c : C4}
theorem keeps_drewN (W : World) (n : Nat) : KeepsOthers W (W.drewN n) := ⟨Nat.le_refl _, fun _ _ h _ => h⟩
theorem exI_skip (hI : ExI wr g h0 T own l na pre W) (hx : ¬ ones 12 c.1 = na) (nq : Nat) : KeepsOthers W (W.drewN nq) ∧ Below wr.heap.size W (W.drewN nq) ∧ ExI wr g h0 T own l na (pre ++ [c]) (W.drewN nq) := by
  refine ⟨keeps_drewN _ _, pw_below_drewN (Below.refl _ _) _, ⟨blk_drewN hI.b7 _, blk_drewN hI.b8 _, blk_drewN hI.b9 _, ?_, ?_, pw_below_drewN hI.below _⟩⟩
  · rw [pn_snoc, if_neg (fun h => hx h.1), Int.add_zero]; exact blk_drewN hI.b10 _
  · rw [po_snoc, if_neg hx, Int.add_zero]; exact blk_drewN hI.b11 _
theorem exI_of (hz : wr.heap.size = g + 1) (hI : ExI wr g h0 T own l na pre W) (hx : ones 12 c.1 = na) (hq : ¬ own ≤ dif l na c.1) (nq nq2 : Nat) (hW : Wx = (W.drewN nq).setCell ⟨g + 1 + 1 + 1 + 1 + 1, 0, none⟩ (.int .i64 (po l na pre + 1))) :
    KeepsOthers W (Wx.drewN nq2) ∧ Below wr.heap.size W (Wx.drewN nq2) ∧ ExI wr g h0 T own l na (pre ++ [c]) (Wx.drewN nq2) := by
  have hle : wr.heap.size ≤ (⟨g + 1 + 1 + 1 + 1 + 1, 0, none⟩ : Addr).block := show wr.heap.size ≤ g + 1 + 1 + 1 + 1 + 1 by omega
  subst hW
  refine ⟨((keeps_drewN _ _).trans (KeepsOthers.setCell _ _ _)).trans (keeps_drewN _ _), pw_below_drewN ((pw_below_drewN (Below.refl _ _) _).setCell hle _) _, ⟨?_, ?_, ?_, ?_, ?_, pw_below_drewN ((pw_below_drewN hI.below _).setCell hle _) _⟩⟩
  · exact blk_drewN (ex_far (blk_drewN hI.b7 _) (by omega) _) _
  · exact blk_drewN (ex_far (blk_drewN hI.b8 _) (by omega) _) _
  · exact blk_drewN (ex_far (blk_drewN hI.b9 _) (by omega) _) _
  · rw [pn_snoc, if_neg (fun h => hq h.2), Int.add_zero]; exact blk_drewN (ex_far (blk_drewN hI.b10 _) (by omega) _) _
  · rw [po_snoc, if_pos hx]; exact blk_drewN (blk_put (blk_drewN hI.b11 _) 0 _ rfl) _
theorem exI_both (hz : wr.heap.size = g + 1) (hI : ExI wr g h0 T own l na pre W) (hx : ones 12 c.1 = na) (hq : own ≤ dif l na c.1) (nq nq2 : Nat) (hW : Wx = (W.drewN nq).setCell ⟨g + 1 + 1 + 1 + 1 + 1, 0, none⟩ (.int .i64 (po l na pre + 1))) :
    KeepsOthers W ((Wx.drewN nq2).setCell ⟨g + 1 + 1 + 1 + 1, 0, none⟩ (.int .i64 (pn l na own pre + 1))) ∧ Below wr.heap.size W ((Wx.drewN nq2).setCell ⟨g + 1 + 1 + 1 + 1, 0, none⟩ (.int .i64 (pn l na own pre + 1))) ∧ ExI wr g h0 T own l na (pre ++ [c]) ((Wx.drewN nq2).setCell ⟨g + 1 + 1 + 1 + 1, 0, none⟩ (.int .i64 (pn l na own pre + 1))) := by
  have hle : wr.heap.size ≤ (⟨g + 1 + 1 + 1 + 1 + 1, 0, none⟩ : Addr).block := show wr.heap.size ≤ g + 1 + 1 + 1 + 1 + 1 by omega
  have hle2 : wr.heap.size ≤ (⟨g + 1 + 1 + 1 + 1, 0, none⟩ : Addr).block := show wr.heap.size ≤ g + 1 + 1 + 1 + 1 by omega
  subst hW
  refine ⟨(((keeps_drewN _ _).trans (KeepsOthers.setCell _ _ _)).trans (keeps_drewN _ _)).trans (KeepsOthers.setCell _ _ _), (pw_below_drewN ((pw_below_drewN (Below.refl _ _) _).setCell hle _) _).setCell hle2 _, ⟨?_, ?_, ?_, ?_, ?_, (pw_below_drewN ((pw_below_drewN hI.below _).setCell hle _) _).setCell hle2 _⟩⟩
  · exact ex_far (blk_drewN (ex_far (blk_drewN hI.b7 _) (by omega) _) _) (by omega) _
  · exact ex_far (blk_drewN (ex_far (blk_drewN hI.b8 _) (by omega) _) _) (by omega) _
  · exact ex_far (blk_drewN (ex_far (blk_drewN hI.b9 _) (by omega) _) _) (by omega) _
  · rw [pn_snoc, if_pos ⟨hx, hq⟩]; exact blk_put (blk_drewN (ex_far (blk_drewN hI.b10 _) (by omega) _) _) 0 _ rfl
  · rw [po_snoc, if_pos hx]; exact ex_far (blk_drewN (blk_put (blk_drewN hI.b11 _) 0 _ rfl) _) (by omega) _
end
set_option maxRecDepth 100000 in
set_option maxHeartbeats 40000000 in
theorem exch_fine (A B : Option Addr) (ca cb : Nat) (a b : List Int) (na nb N M : Nat) (hna : a.length = na) (hnb : b.length = nb) (hN : na + nb = N) (hl : N ≤ 12) (hM : 2 ^ N = M) (hM1 : 1 ≤ M) (hM2 : M ≤ 4096) (hf : Fine (a ++ b)) (r1 r2 r3 : Int) (hr : red (exNum a b) (exOf a b) = (r1, r2, r3)) (w : World) (hrA : Kd.C (Kd.int .i64) w A na a) (hcA : na ≤ ca) (hrB : Kd.C (Kd.int .i64) w B nb b) (hcB : nb ≤ cb) :
    Calls Try.prog 15 #[.slice A na ca, .slice B nb cb] w fun e w' => e = .returned (.tuple #[.agg #[.int .i64 r1, .int .i64 r2], .int .i64 r3]) ∧ Below w.heap.size w w' := by
  refine (callsIn_wide (n := 6)).1 ?_
  have h1 : 1 ≤ 6 := by decide
  have hNl : (a ++ b).length = N := by rw [List.length_append]; omega
  have HO := Aside0.mk ((outB_fine (a ++ b)).2 hf)
  have HNA := Aside0.mk hna
  have HNB := Aside0.mk hnb
  have HN := Aside0.mk hN
  have HNL := Aside0.mk hNl
  have HM := Aside0.mk hM
  have HR := Aside0.mk hr
  have HF := Aside0.mk hf
  have HA := Aside0.mk hrA
  have HB := Aside0.mk hrB
  have HW := Aside0.mk (pow_wrap N M hM hM2)
  have HX := Aside0.mk (show IntKind.u64.wrap (IntKind.u64.wrap ((2 : Int) ^ N) - 1) = ((M - 1 : Nat) : Int) by rw [HW.out, u64_small (by omega) (by omega)]; omega)
  have hna12 : na ≤ 12 := by omega
  have hnb12 : nb ≤ 12 := by omega
  clear hna hnb hN hNl hM hr hf hrA hrB
  refine callsIn_of_wp_marks Try.func15 rfl trivial ?_ rfl
  simp only [Try.ntmps15, List.size_toArray, List.length_cons, List.length_nil, Nat.reduceAdd, Nat.reduceSub, Array.replicate_succ, Array.replicate_zero, List.push_toArray, List.append_toArray, List.nil_append, List.cons_append]
  refine wpIn_wide.2 (wp_noPanic ?_)
  go_upto_region 2 with (go_at_call 42; ((with_reducible refine (concat_at _ na nb ca cb A B a b HNA.out HNB.out hcA hcB (by omega) _ (blk_third w _ _ _) (by repeat (first | exact HA.out | apply Kd.C_alloc)) (by repeat (first | exact HB.out | apply Kd.C_alloc))).mono ?_); rintro e w2 ⟨L, cL, rfl, hcL, hL, hb2⟩; rw [HN.out] at hcL hL ⊢))
  obtain ⟨g, hg⟩ : ∃ g, g = w2.heap.size := ⟨_, rfl⟩
  obtain ⟨wr, hwr⟩ : ∃ wr : World, wr = w2.alloc (Obj.cells #[Value.slice L N cL] 24) := ⟨_, rfl⟩
  have hz2 := hb2.size
  simp only [World.size_alloc] at hz2
  have HZ := Aside0.mk (show wr.heap.size = g + 1 by rw [hwr, hg]; simp)
  have HG := Aside0.mk (show w.heap.size + 1 + 1 + 1 ≤ g by rw [hg]; omega)
  have hBw : Below w.heap.size w wr := by rw [hwr]; exact below_alloc (below_step (by repeat (first | exact Below.refl _ _ | apply below_alloc)) hb2) _
  have HBW := Aside0.mk hBw
  have H0 : Aside0 (wr.heap[w.heap.size]? = some (.cells #[.slice A na ca] 24 (0, 0))) := ⟨by rw [hwr]; exact blk_alloc (blk_below (by repeat (first | exact blk_new w _ | refine blk_alloc ?_ _)) hb2) _⟩
  have H1 : Aside0 (wr.heap[w.heap.size + 1]? = some (.cells #[.int .i64 0, .int .i64 0] 31 (0, 0))) := ⟨by rw [hwr]; exact blk_alloc (blk_below (by repeat (first | exact blk_two w _ _ | refine blk_alloc ?_ _)) hb2) _⟩
  have H6 : Aside0 (wr.heap[g]? = some (.cells #[.slice L N cL] 24 (0, 0))) := ⟨by rw [hwr, hg]; exact blk_new w2 _⟩
  have HL : Aside0 (Kd.C (Kd.int .i64) wr L N (a ++ b)) := ⟨by rw [hwr]; exact Kd.C_alloc hL _⟩
  rw [← hg, ← hwr]
  clear hz2 hBw hb2 hL hwr hg HA HB
  clear w2
  have e6 : wr.cell? ⟨g, 0, none⟩ = some (.slice L N cL) := (blk_cell H6.out 0).trans rfl
  have hz_ : wr.heap.size = g + 1 := HZ.out
  go_wp2_with (go_at_call 30; ((with_reducible refine (outside_any L N cL (a ++ b) false HNL.out (by omega) HO.out _ HL.out hcL).mono ?_); rintro e w' ⟨rfl, ⟨nd, rfl⟩⟩))
  clear hz_ e6
  go_cut [7] from 61 to 61 (fun v7 wc => v7 = .pointer (some ⟨g + 1, 0, none⟩) ∧ Aside0 (Below wr.heap.size wr wc) ∧ Aside0 (wc.heap.size = g + 1 + 1) ∧ Aside0 (wc.heap[g + 1]? = some (.cells #[.int .i64 (total (a ++ b))] 3 (0, 0))))
  case first =>
    have e6 : wr.cell? ⟨g, 0, none⟩ = some (.slice L N cL) := (blk_cell H6.out 0).trans rfl
    have hz_ : wr.heap.size = g + 1 := HZ.out
    go_region_with (go_at_call 31; ((with_reducible refine (chosen_whole L N M cL (a ++ b) HNL.out (by omega) HF.out HM.out hM2 _ HX.out _ (by repeat (first | exact HL.out | apply Kd.C_alloc | apply Kd.C_drewN | apply Kd.C_drew)) hcL).mono ?_); rintro e w' ⟨rfl, ⟨nd, rfl⟩⟩))
    all_goals
      (try go_wp2_with fail)
      go_meet
      case rel => exact ⟨rfl, ⟨by repeat (first | exact Below.refl _ _ | apply below_alloc | apply pw_below_drewN | apply below_drew | refine below_set ?_ (by omega))⟩, ⟨by simp [hz_]⟩, ⟨by repeat (first | exact ex_new HZ.out _ _ | refine blk_drewN ?_ _ | refine blk_drew ?_ | refine blk_alloc ?_ _ | refine blk_put (cs := #[.int .i64 0]) ?_ 0 _ rfl)⟩⟩
  case rest =>
    obtain ⟨rfl, HB1, HZ1, H7⟩ := hcut
    have hz1 : wc.heap.size = g + 1 + 1 := HZ1.out
    have e2 : wc.cell? ⟨w.heap.size, 0, none⟩ = some (.slice A na ca) := (blk_cell (blk_below H0.out HB1.out) 0).trans rfl
    have e6 : wc.cell? ⟨g, 0, none⟩ = some (.slice L N cL) := (blk_cell (blk_below H6.out HB1.out) 0).trans rfl
    go_upto_region 6 with fail
    obtain ⟨wd, hwd⟩ : ∃ wd : World, wd = wc.alloc (Obj.cells #[.func (.func 43) #[] #[.pointer (some ⟨g, 0, none⟩), .pointer (some ⟨g + 1, 0, none⟩), .pointer (some ⟨w.heap.size, 0, none⟩)]] 71) := ⟨_, rfl⟩
    have HZD := Aside0.mk (show wd.heap.size = g + 1 + 1 + 1 by rw [hwd]; simp [hz1])
    have HBD : Aside0 (Below wr.heap.size wr wd) := ⟨by rw [hwd]; exact below_alloc HB1.out _⟩
    have H7D : Aside0 (wd.heap[g + 1]? = some (.cells #[.int .i64 (total (a ++ b))] 3 (0, 0))) := ⟨by rw [hwd]; exact blk_alloc H7.out _⟩
    have H8D : Aside0 (wd.heap[g + 1 + 1]? = some (.cells #[.func (.func 43) #[] #[.pointer (some ⟨g, 0, none⟩), .pointer (some ⟨g + 1, 0, none⟩), .pointer (some ⟨w.heap.size, 0, none⟩)]] 71 (0, 0))) := ⟨by rw [hwd, ← hz1]; exact blk_new wc _⟩
    rw [← hwd]
    clear hwd hz1 e2 e6 HB1 HZ1 H7
    clear wc
    have H0D : Aside0 (wd.heap[w.heap.size]? = some (.cells #[.slice A na ca] 24 (0, 0))) := ⟨blk_below H0.out HBD.out⟩
    have H6D : Aside0 (wd.heap[g]? = some (.cells #[.slice L N cL] 24 (0, 0))) := ⟨blk_below H6.out HBD.out⟩
    have HLD : Aside0 (Kd.C (Kd.int .i64) wd L N (a ++ b)) := ⟨Kd.C_below HL.out HBD.out⟩
    have hpa : 2 ^ na ≤ 2 ^ 12 := Nat.pow_le_pow_right (by decide) hna12
    have hpa1 := Nat.two_pow_pos na
    have HY := Aside0.mk (show IntKind.u64.wrap (IntKind.u64.wrap ((2 : Int) ^ na) - 1) = ((2 ^ na - 1 : Nat) : Int) by rw [pow_wrap na _ rfl (by omega), u64_small (by omega) (by omega)]; omega)
    obtain ⟨own, hown⟩ : ∃ own, own = dif (a ++ b) na (2 ^ na - 1) := ⟨_, rfl⟩
    have HOW := Aside0.mk hown
    have hpl : 2 ^ na - 1 < 18446744073709551616 := by omega
    clear hown
    go_cut [9] from 61 to 61 (fun v9 wc => v9 = .pointer (some ⟨g + 1 + 1 + 1, 0, none⟩) ∧ Aside0 (Below wd.heap.size wd wc) ∧ Aside0 (wc.heap.size = g + 1 + 1 + 1 + 1) ∧ Aside0 (wc.heap[g + 1 + 1 + 1]? = some (.cells #[.int .i64 own] 3 (0, 0))))
    case first =>
      have e2 : wd.cell? ⟨w.heap.size, 0, none⟩ = some (.slice A na ca) := (blk_cell H0D.out 0).trans rfl
      have e8 : wd.cell? ⟨g + 1 + 1, 0, none⟩ = some (.func (.func 43) #[] #[.pointer (some ⟨g, 0, none⟩), .pointer (some ⟨g + 1, 0, none⟩), .pointer (some ⟨w.heap.size, 0, none⟩)]) := (blk_cell H8D.out 0).trans rfl
      have hz_ : wd.heap.size = g + 1 + 1 + 1 := HZD.out
      have hlt_ : w.heap.size < wd.heap.size := blk_lt H0D.out
      have hlt2_ : w.heap.size < g + 1 + 1 + 1 := by have := HG.out; omega
      go_region_with (go_at_call 43; ((with_reducible refine (dif_at g w.heap.size A L na ca N cL (2 ^ na - 1) (a ++ b) own HNL.out hl hna12 HF.out HOW.out hpl _ HY.out hcL _ (by repeat (first | exact H6D.out | refine blk_drewN ?_ _ | refine blk_drew ?_ | refine blk_alloc ?_ _)) (by repeat (first | exact H7D.out | refine blk_drewN ?_ _ | refine blk_drew ?_ | refine blk_alloc ?_ _)) (by repeat (first | exact H0D.out | refine blk_drewN ?_ _ | refine blk_drew ?_ | refine blk_alloc ?_ _)) (by repeat (first | exact HLD.out | apply Kd.C_alloc | apply Kd.C_drewN | apply Kd.C_drew))).mono ?_); rintro e w' ⟨rfl, ⟨nd, rfl⟩⟩))
      all_goals
        (try go_wp2_with fail)
        go_meet
        case rel => exact ⟨rfl, ⟨by repeat (first | exact Below.refl _ _ | apply below_alloc | apply pw_below_drewN | apply below_drew | refine below_set ?_ (by omega))⟩, ⟨by simp [hz_]⟩, ⟨by repeat (first | exact ex_new HZD.out _ _ | refine blk_drewN ?_ _ | refine blk_drew ?_ | refine blk_alloc ?_ _ | refine blk_put (cs := #[.int .i64 0]) ?_ 0 _ rfl)⟩⟩
    case rest =>
      obtain ⟨rfl, HB1, HZ1, H9⟩ := hcut
      have hz1 : wc.heap.size = g + 1 + 1 + 1 + 1 := HZ1.out
      have e6 : wc.cell? ⟨g, 0, none⟩ = some (.slice L N cL) := (blk_cell (blk_below H6D.out HB1.out) 0).trans rfl
      go_wp2_with (go_at_call 32; ((with_reducible refine (choices_any _ _).mono ?_); rintro e w' ⟨rfl, rfl⟩))
      obtain ⟨W0, hW0⟩ : ∃ W0 : World, W0 = ((wc.alloc (.cells #[.int .i64 0] 3)).alloc (.cells #[.int .i64 0] 3)).alloc (.cells #[.int .i64 (N : Int)] 3) := ⟨_, rfl⟩
      have hs0 : W0.heap.size = g + 1 + 1 + 1 + 1 + 1 + 1 + 1 := by rw [hW0]; simp [hz1]
      have hI0 : ExI wr g w.heap.size (total (a ++ b)) own (a ++ b) na [] W0 := by
        rw [hW0]
        have k10 := blk_new wc (.cells #[.int .i64 0] 3)
        rw [hz1] at k10
        have k11 := blk_two wc (.cells #[.int .i64 0] 3) (.cells #[.int .i64 0] 3)
        rw [hz1] at k11
        exact ⟨blk_alloc (blk_alloc (blk_alloc (blk_below H7D.out HB1.out) _) _) _, blk_alloc (blk_alloc (blk_alloc (blk_below H8D.out HB1.out) _) _) _, blk_alloc (blk_alloc (blk_alloc H9.out _) _) _, blk_alloc (blk_alloc k10 _) _, blk_alloc k11 _, below_alloc (below_alloc (below_alloc (below_step HBD.out HB1.out) _) _) _⟩
      have hb12 : W0.heap[g + 1 + 1 + 1 + 1 + 1 + 1]? = some (.cells #[.int .i64 (N : Int)] 3 (0, 0)) := by
        have k12 := blk_third wc (.cells #[.int .i64 0] 3) (.cells #[.int .i64 0] 3) (.cells #[.int .i64 (N : Int)] 3)
        rw [hz1] at k12
        rw [hW0]; exact k12
      rw [← hW0]
      clear hW0 hz1 e6 HB1 HZ1 H9
      clear wc
      have hbs := cell_of_one_ hb12
      have hmx : Try.prog.follows .mixedOrders = true := by kernel_rfl
      have hzr : wr.heap.size = g + 1 := HZ.out
      have hgw : w.heap.size + 1 + 1 + 1 ≤ g := HG.out
      refine (wpIn_wide (n := 6)).1 ?_
      refine wpIn_rangeFunc_ownF rfl h1 (gf := 56) (lb := #[.pointer (some ⟨g + 1 + 1 + 1 + 1 + 1 + 1, 0, none⟩)]) rfl trivial (enters_of Try.func56 (by kernel_rfl) rfl)
        (choices_stops Fence.wide 5 trivial rfl (by omega) (g + 1 + 1 + 1 + 1 + 1 + 1) wr.heap.size N M HM.out hM2 hl W0 (by omega) hbs) belowK_t (belowK_b (by omega)) (Below.refl _ _) (fun _ => rfl)
        (ExI wr g w.heap.size (total (a ++ b)) own (a ++ b) na) (fun _ _ _ => False) (exI_own _ _ _ _ _ _ _ _ (by omega)) (fun _ _ _ _ _ hs _ _ => hs) hI0
        (fun x : C4 => { tmps := #[.slice A na ca, .slice B nb cb, .pointer (some ⟨w.heap.size, 0, none⟩), undef, .pointer (some ⟨w.heap.size + 1, 0, none⟩), .int .i64 0, .pointer (some ⟨g, 0, none⟩), .pointer (some ⟨g + 1, 0, none⟩), .pointer (some ⟨g + 1 + 1, 0, none⟩), .pointer (some ⟨g + 1 + 1 + 1, 0, none⟩), .pointer (some ⟨g + 1 + 1 + 1 + 1, 0, none⟩), .pointer (some ⟨g + 1 + 1 + 1 + 1 + 1, 0, none⟩), .int .u64 (x.1 : Int), .slice A na ca, .slice B nb cb, .slice (some ⟨w.heap.size + 1 + 1, 0, none⟩) 2 2, .slice L N cL, .slice L N cL, .int .i64 (N : Int), .bool (decide (12 < (N : Int))), .bool (decide (12 < (N : Int))), .slice L N cL, .bool false, .bool (decide (12 < (N : Int))), undef, u25, u26, u27, u28, u29, u30, .func (.func 43) #[] #[.pointer (some ⟨g, 0, none⟩), .pointer (some ⟨g + 1, 0, none⟩), .pointer (some ⟨w.heap.size, 0, none⟩)], u32, u33, u34, u35, u36, u37, .slice L N cL, .int .i64 (N : Int), .func (.func 56) #[] #[.pointer (some ⟨g + 1 + 1 + 1 + 1 + 1 + 1, 0, none⟩)], .int .u64 (x.1 : Int), undef, undef, undef, undef, undef, undef, undef, undef, undef, undef, undef, undef, undef, undef, undef, undef, undef, undef, undef], defers := [] }) ?assign ?body ?done ?stop
      case assign =>
        intro l_ x W K hK
        gi_wp2
        exact hK
      case body =>
        rintro l_ pre ⟨c, hc⟩ W hI hlt
        have hd : 1 ≤ 6 - 1 - 1 := by omega
        have hp_ := pn_le (a ++ b) na own pre
        have hq_ := po_le (a ++ b) na pre
        have HLW : Aside0 (Kd.C (Kd.int .i64) W L N (a ++ b)) := ⟨Kd.C_below HL.out hI.below⟩
        have H0W : Aside0 (W.heap[w.heap.size]? = some (.cells #[.slice A na ca] 24 (0, 0))) := ⟨blk_below H0.out hI.below⟩
        have H6W : Aside0 (W.heap[g]? = some (.cells #[.slice L N cL] 24 (0, 0))) := ⟨blk_below H6.out hI.below⟩
        have HI := Aside0.mk hI
        have hc64 : c < 18446744073709551616 := by omega
        clear hI hs0 hI0 hb12 hbs HLD H0D H6D H7D H8D HBD HZD
        have e2 : W.cell? ⟨w.heap.size, 0, none⟩ = some (.slice A na ca) := (blk_cell H0W.out 0).trans rfl
        gi_wp2
        gi_cut [46] from 61 (fun v46 wr2 => v46 = .bool (((ones 12 c : Nat) : Int) != (na : Int)) ∧ ∃ nq, wr2 = W.drewN nq)
        case first =>
          gi_region_with_o (refine ⟨trivial, ?_⟩; gi_at_call 44; ((with_reducible refine (CallsIn.inRound l_ (callsIn_wide.2 (ones_any 12 c (Nat.le_refl _) hc _ rfl _))).mono ?_); rintro e w' ⟨rfl, ⟨nd, rfl⟩⟩))
          all_goals
            (try gi_wp2_with fail)
            gi_meet
            case rel => exact ⟨rfl, _, rfl⟩
        case rest =>
          obtain ⟨rfl, nq, rfl⟩ := hcut
          clear e2
          by_cases hx : ones 12 c = na
          · have hxb : (((ones 12 c : Nat) : Int) != (na : Int)) = false := by rw [hx]; simp
            have HXX := Aside0.mk hx
            clear hx
            have e11 : (W.drewN nq).cell? ⟨g + 1 + 1 + 1 + 1 + 1, 0, none⟩ = some (.int .i64 (po (a ++ b) na pre)) := (blk_cell (blk_drewN HI.out.b11 _) 0).trans rfl
            have f11 := blk_frozen (blk_drewN HI.out.b11 nq) 0
            gi_upto_region 12 with fail
            obtain ⟨Wx, hWx⟩ : ∃ Wx : World, Wx = (W.drewN nq).setCell ⟨g + 1 + 1 + 1 + 1 + 1, 0, none⟩ (.int .i64 (po (a ++ b) na pre + 1)) := ⟨_, rfl⟩
            have HXW := Aside0.mk hWx
            have HBX := Aside0.mk (show Below (g + 1) W Wx by rw [hWx]; exact (pw_below_drewN (Below.refl _ _) _).setCell (show g + 1 ≤ g + 1 + 1 + 1 + 1 + 1 by omega) _)
            have e8 : Wx.cell? ⟨g + 1 + 1, 0, none⟩ = some (.func (.func 43) #[] #[.pointer (some ⟨g, 0, none⟩), .pointer (some ⟨g + 1, 0, none⟩), .pointer (some ⟨w.heap.size, 0, none⟩)]) := by rw [hWx]; exact (blk_cell (ex_far (blk_drewN HI.out.b8 _) (by omega) _) 0).trans rfl
            have e9 : Wx.cell? ⟨g + 1 + 1 + 1, 0, none⟩ = some (.int .i64 own) := by rw [hWx]; exact (blk_cell (ex_far (blk_drewN HI.out.b9 _) (by omega) _) 0).trans rfl
            have H7X : Aside0 (Wx.heap[g + 1]? = some (.cells #[.int .i64 (total (a ++ b))] 3 (0, 0))) := ⟨by rw [hWx]; exact ex_far (blk_drewN HI.out.b7 _) (by omega) _⟩
            have H0X : Aside0 (Wx.heap[w.heap.size]? = some (.cells #[.slice A na ca] 24 (0, 0))) := ⟨by rw [hWx]; exact ex_far (blk_drewN H0W.out _) (by omega) _⟩
            have H6X : Aside0 (Wx.heap[g]? = some (.cells #[.slice L N cL] 24 (0, 0))) := ⟨by rw [hWx]; exact ex_far (blk_drewN H6W.out _) (by omega) _⟩
            have HLX : Aside0 (Kd.C (Kd.int .i64) Wx L N (a ++ b)) := ⟨Kd.C_below HL.out (by rw [hzr]; exact (HI.out.below.mono (by omega)).trans HBX.out)⟩
            rw [← hWx]
            clear hWx e11 f11 hxb
            gi_cut [46, 53] from 61 (fun _ v53 wr3 => v53 = .bool (decide (own ≤ dif (a ++ b) na c)) ∧ ∃ nq2, wr3 = Wx.drewN nq2)
            case first =>
              gi_region_with_o (refine ⟨trivial, ?_⟩; gi_at_call 43; ((with_reducible refine (CallsIn.inRound l_ (callsIn_wide.2 (dif_at g w.heap.size A L na ca N cL c (a ++ b) _ HNL.out hl hna12 HF.out rfl hc64 _ rfl hcL _ (by repeat (first | exact H6X.out | refine blk_drewN ?_ _ | refine blk_drew ?_ | refine blk_alloc ?_ _)) (by repeat (first | exact H7X.out | refine blk_drewN ?_ _ | refine blk_drew ?_ | refine blk_alloc ?_ _)) (by repeat (first | exact H0X.out | refine blk_drewN ?_ _ | refine blk_drew ?_ | refine blk_alloc ?_ _)) (by repeat (first | exact HLX.out | apply Kd.C_alloc | apply Kd.C_drewN | apply Kd.C_drew))))).mono ?_); rintro e w' ⟨rfl, ⟨nd, rfl⟩⟩))
              all_goals
                (try gi_wp2_with fail)
                gi_meet
                case rel => exact ⟨rfl, _, rfl⟩
            case rest =>
              obtain ⟨rfl, nq2, rfl⟩ := hcut
              have e10 : (Wx.drewN nq2).cell? ⟨g + 1 + 1 + 1 + 1, 0, none⟩ = some (.int .i64 (pn (a ++ b) na own pre)) := (blk_cell (blk_drewN (by rw [HXW.out]; exact ex_far (blk_drewN HI.out.b10 _) (by omega) _) _) 0).trans rfl
              have f10 : (Wx.drewN nq2).frozen? ⟨g + 1 + 1 + 1 + 1, 0, none⟩ = false := blk_frozen (blk_drewN (show Wx.heap[g + 1 + 1 + 1 + 1]? = some (.cells #[.int .i64 (pn (a ++ b) na own pre)] 3 (0, 0)) by rw [HXW.out]; exact ex_far (blk_drewN HI.out.b10 _) (by omega) _) _) 0
              clear e8 e9
              gi_wp2
              · exact exI_both hzr HI.out HXX.out (by assumption) nq nq2 HXW.out
              · exact exI_of hzr HI.out HXX.out (show ¬ own ≤ dif (a ++ b) na c by first | assumption | omega) nq nq2 HXW.out
          · have hxb : (((ones 12 c : Nat) : Int) != (na : Int)) = true := by simp; omega
            have HXX := Aside0.mk hx
            clear hx
            gi_wp2
            exact exI_skip HI.out HXX.out nq
      case done =>
        rintro D ys W hD rfl hI hK
        have e10 : W.cell? ⟨g + 1 + 1 + 1 + 1, 0, none⟩ = some (.int .i64 (pn (a ++ b) na own (upto M))) := (blk_cell hI.b10 0).trans rfl
        have e11 : W.cell? ⟨g + 1 + 1 + 1 + 1 + 1, 0, none⟩ = some (.int .i64 (po (a ++ b) na (upto M))) := (blk_cell hI.b11 0).trans rfl
        have HPN := Aside0.mk (show pn (a ++ b) na own (upto M) = (exNum a b : Int) by rw [HOW.out, ← HNA.out]; exact pn_all a b M (by rw [HNL.out]; exact HM.out) hM2 (by rw [HNL.out]; exact hl))
        have HPO := Aside0.mk (show po (a ++ b) na (upto M) = (exOf a b : Int) by rw [← HNA.out]; exact po_all a b M (by rw [HNL.out]; exact HM.out) hM2 (by rw [HNL.out]; exact hl))
        have HI := Aside0.mk hI
        have HK := Aside0.mk hK
        have HBA := Aside0.mk (below_step HBW.out hI.below)
        have H1W := Aside0.mk (blk_below H1.out hI.below)
        clear hI hK hI0 hb12 hbs
        go_upto_region 14 with fail
        go_wp2_with (go_at_call 22; ((with_reducible refine (reduce_eq _ _ (exNum a b : Int) (exOf a b : Int) r1 r2 r3 HPN.out HPO.out HR.out _).mono ?_); rintro e w2 ⟨rfl, hb⟩; have HB2 := Aside0.mk (below_step HBA.out hb); have HK2 : Aside0 (w2.heap[w.heap.size + 1]? = some (.cells #[.int .i64 0, .int .i64 0] 31 (0, 0))) := Aside0.mk (blk_below H1W.out hb); have HD2 : Aside0 (w2.heap[D]? = some (.deferred (some []))) := Aside0.mk (blk_below HK.out hb); clear hb; have hq0_ : w2.cell? ⟨w.heap.size + 1, 0, none⟩ = some (.int .i64 0) := (blk_cell HK2.out 0).trans rfl; have hq1_ : w2.cell? ⟨w.heap.size + 1, 1, none⟩ = some (.int .i64 0) := (blk_cell HK2.out 1).trans rfl; have hr0_ := blk_frozen HK2.out 0; have hr1_ := blk_frozen HK2.out 1))
        have HD3 := sg_end3 (B := w.heap.size + 1) HD2.out (.int .i64 r1) (.int .i64 r2)
        refine ⟨by simp, .inl ⟨_, _, rfl, run_takeDeferred HD3, ?_⟩⟩
        exact ⟨_, results_ct rfl _ _ (w.heap.size + 1) 31 #[.int .i64 r1, .int .i64 r2] (0, 0) _ rfl (sg_put (sg_end2 HK2.out _ _) (by omega)) Try.underlying31 rfl (by kernel_rfl), rfl, (sg_end1 HB2.out _ _).trans (belowK_b (w := w) (Nat.le_refl _) _ D _ _ (by omega) HD3 rfl rfl)⟩
      case stop => 
        rintro D c pre W _ _ h _
        exact h.elim
set_option maxHeartbeats 2000000 in
theorem exch_long (A B : Option Addr) (ca cb : Nat) (a b : List Int) (na nb N : Nat) (hna : a.length = na) (hnb : b.length = nb) (hN : na + nb = N) (hl : 12 < N) (hl2 : N ≤ 1000000000) (w : World) (hrA : Kd.C (Kd.int .i64) w A na a) (hcA : na ≤ ca) (hrB : Kd.C (Kd.int .i64) w B nb b) (hcB : nb ≤ cb) :
    Calls Try.prog 15 #[.slice A na ca, .slice B nb cb] w fun e w' => e = .returned (.tuple #[.agg #[.int .i64 0, .int .i64 0], .int .i64 1]) ∧ Below w.heap.size w w' := by
  have HNA := Aside0.mk hna
  have HNB := Aside0.mk hnb
  have HN := Aside0.mk hN
  have HA := Aside0.mk hrA
  have HB := Aside0.mk hrB
  clear hna hnb hrA hrB
  have hab : na + nb ≤ 1000000000 := by omega
  clear hN
  go_enter Try.func15, Try.ntmps15
  go_wp2_with (go_at_call 42; ((with_reducible refine (concat_at _ na nb ca cb A B a b HNA.out HNB.out hcA hcB hab _ (blk_third w _ _ _) (by repeat (first | exact HA.out | apply Kd.C_alloc)) (by repeat (first | exact HB.out | apply Kd.C_alloc))).mono ?_); rintro e w2 ⟨L, cL, rfl, hcL, hL, hb2⟩; rw [HN.out] at hcL hL ⊢; have HB2 : Aside0 (Below w.heap.size w w2) := Aside0.mk (below_step (by repeat (first | exact Below.refl _ _ | apply below_alloc)) hb2); have HK2 : Aside0 (w2.heap[w.heap.size + 1]? = some (.cells #[.int .i64 0, .int .i64 0] 31 (0, 0))) := Aside0.mk (blk_below (by repeat (first | exact blk_two w _ _ | refine blk_alloc ?_ _)) hb2); clear hb2 hL; have hq0_ : w2.cell? ⟨w.heap.size + 1, 0, none⟩ = some (.int .i64 0) := (blk_cell HK2.out 0).trans rfl; have hq1_ : w2.cell? ⟨w.heap.size + 1, 1, none⟩ = some (.int .i64 0) := (blk_cell HK2.out 1).trans rfl; have hr0_ := blk_frozen HK2.out 0; have hr1_ := blk_frozen HK2.out 1; have hlt_ := blk_lt HK2.out))
  refine bodyPost_ret (results_ct rfl _ _ (w.heap.size + 1) 31 #[.int .i64 0, .int .i64 0] (0, 0) _ rfl (by repeat (with_reducible first | refine blk_alloc ?_ _ | refine blk_drewN ?_ _ | exact sg_end2 HK2.out _ _)) Try.underlying31 rfl (by kernel_rfl)) rfl ?_
  exact ⟨rfl, by repeat (with_reducible first | apply below_alloc | apply pw_below_drewN | exact sg_end1 HB2.out _ _)⟩
set_option maxHeartbeats 2000000 in
theorem exch_odd (A B : Option Addr) (ca cb : Nat) (a b : List Int) (na nb N : Nat) (hna : a.length = na) (hnb : b.length = nb) (hN : na + nb = N) (hl : N ≤ 12) (ho : outB (a ++ b) = true) (w : World) (hrA : Kd.C (Kd.int .i64) w A na a) (hcA : na ≤ ca) (hrB : Kd.C (Kd.int .i64) w B nb b) (hcB : nb ≤ cb) :
    Calls Try.prog 15 #[.slice A na ca, .slice B nb cb] w fun e w' => e = .returned (.tuple #[.agg #[.int .i64 0, .int .i64 0], .int .i64 1]) ∧ Below w.heap.size w w' := by
  have HO := Aside0.mk ho
  have HNA := Aside0.mk hna
  have HNB := Aside0.mk hnb
  have HN := Aside0.mk hN
  have HNL := Aside0.mk (show (a ++ b).length = N by rw [List.length_append]; omega)
  have HA := Aside0.mk hrA
  have HB := Aside0.mk hrB
  have hab : na + nb ≤ 1000000000 := by omega
  clear hna hnb hrA hrB ho hN
  go_enter Try.func15, Try.ntmps15
  go_wp2_with (first | (go_at_call 42; ((with_reducible refine (concat_at _ na nb ca cb A B a b HNA.out HNB.out hcA hcB hab _ (blk_third w _ _ _) (by repeat (first | exact HA.out | apply Kd.C_alloc)) (by repeat (first | exact HB.out | apply Kd.C_alloc))).mono ?_); rintro e w2 ⟨L, cL, rfl, hcL, hL, hb2⟩; rw [HN.out] at hcL hL ⊢; have HLL := Aside0.mk hL; have HB2 : Aside0 (Below w.heap.size w w2) := Aside0.mk (below_step (by repeat (first | exact Below.refl _ _ | apply below_alloc)) hb2); have HK2 : Aside0 (w2.heap[w.heap.size + 1]? = some (.cells #[.int .i64 0, .int .i64 0] 31 (0, 0))) := Aside0.mk (blk_below (by repeat (first | exact blk_two w _ _ | refine blk_alloc ?_ _)) hb2); clear hb2 hL; have hq0_ : w2.cell? ⟨w.heap.size + 1, 0, none⟩ = some (.int .i64 0) := (blk_cell HK2.out 0).trans rfl; have hq1_ : w2.cell? ⟨w.heap.size + 1, 1, none⟩ = some (.int .i64 0) := (blk_cell HK2.out 1).trans rfl; have hr0_ := blk_frozen HK2.out 0; have hr1_ := blk_frozen HK2.out 1; have hlt_ := blk_lt HK2.out)) | (go_at_call 30; ((with_reducible refine (outside_any _ N _ (a ++ b) true HNL.out (by omega) HO.out _ (by repeat (first | exact HLL.out | apply Kd.C_alloc | apply Kd.C_drewN)) hcL).mono ?_); rintro e w' ⟨rfl, ⟨nd, rfl⟩⟩)))
  refine bodyPost_ret (results_ct rfl _ _ (w.heap.size + 1) 31 #[.int .i64 0, .int .i64 0] (0, 0) _ rfl (sg_end2 (blk_drewN (blk_alloc HK2.out _) _) _ _) Try.underlying31 rfl (by kernel_rfl)) rfl ?_
  exact ⟨rfl, sg_end1 (pw_below_drewN (below_alloc HB2.out _) _) _ _⟩
/-- Exchange, told at once. -/
def sampling_Exchange.f (a b : List Int) : Option (Int × Int × Int) := if a.length + b.length ≤ 1000000000 then some (exchR a b) else none
theorem sampling_Exchange.calls (A0 : Option Addr) (c0 : Nat) (l0 : List Int) (A1 : Option Addr) (c1 : Nat) (l1 : List Int) (r1 r2 r3 : Int) (w : World) (hr0 : Kd.C (Kd.int .i64) w A0 l0.length l0) (hc0 : l0.length ≤ c0) (hr1 : Kd.C (Kd.int .i64) w A1 l1.length l1) (hc1 : l1.length ≤ c1) (h : sampling_Exchange.f l0 l1 = some (r1, r2, r3)) :
    Calls Try.prog 15 #[.slice A0 l0.length c0, .slice A1 l1.length c1] w fun e w' => e = .returned (.tuple #[.agg #[.int .i64 r1, .int .i64 r2], .int .i64 r3]) ∧ Below w.heap.size w w' := by
  unfold sampling_Exchange.f at h
  split at h
  case isFalse => cases h
  case isTrue hm =>
    have h := Option.some.inj h
    have hlen : (l0 ++ l1).length = l0.length + l1.length := List.length_append
    unfold exchR at h
    split at h
    case isTrue hl => cases h; exact exch_long A0 A1 c0 c1 l0 l1 _ _ _ rfl rfl hlen.symm hl (by omega) w hr0 hc0 hr1 hc1
    case isFalse hl =>
      split at h
      case isTrue ho => cases h; exact exch_odd A0 A1 c0 c1 l0 l1 _ _ _ rfl rfl hlen.symm (by omega) ho w hr0 hc0 hr1 hc1
      case isFalse ho =>
        have hp : 2 ^ (l0 ++ l1).length ≤ 2 ^ 12 := Nat.pow_le_pow_right (by decide) (by omega)
        exact exch_fine A0 A1 c0 c1 l0 l1 _ _ _ (2 ^ (l0 ++ l1).length) rfl rfl hlen.symm (by omega) rfl (Nat.two_pow_pos _) hp ((outB_fine _).1 (Bool.eq_false_iff.mpr ho)) r1 r2 r3 h w hr0 hc0 hr1 hc1
end Go.Proofs.Ytcgjgpdandjicaa.B
