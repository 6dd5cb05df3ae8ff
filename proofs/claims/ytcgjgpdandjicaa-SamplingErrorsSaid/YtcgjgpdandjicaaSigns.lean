/- Signs of package sampling: the part of the choices of signs whose sum is as great as that of the sample. -/
import Derived.RangeFuncNested
import Derived.RangeFuncBound
import Derived.RangeFuncCalls
import Derived.RangeFuncLeaves
import Derived.RangeFuncBox
import Derived.RangeFuncFrom
import Derived.Shelf.Abstract
import Derived.Shelf.RegionOpen
import Derived.WalkKit
import Derived.OwnWalkIn
import Derived.TacticsInMore
import Derived.LoopNIn
import Derived.LoopIn
import Derived.Sort.CutIn
import Derived.Sort.QuietIn
import Derived.Deep.RegionWith
import Derived.BigQuiet
import Derived.Deep.QuietTactic
import Derived.Test.YtcgjgpdandjicaaOut
import Derived.Test.YtcgjgpdandjicaaRed
namespace Go.Proofs.Ytcgjgpdandjicaa.B
open Go.RowKit Go.Shelf Go.Proofs.YtcgjgpdandjicaaW.PrintWords Go.Proofs.YtcgjgpdandjicaaW.PrintLast Go.Proofs.YtcgjgpdandjicaaW.PrintMore
open Go.Proofs.Ytcgjgpdandjicaa.Smp
set_option linter.unusedVariables false
set_option linter.unusedSimpArgs false
attribute [local go_sem] Oper.semAt_some

/-- A choice, as bits. -/
abbrev C4 := { c : Nat // c < 4096 }
def cc (c : Nat) : C4 := ⟨c % 4096, Nat.mod_lt _ (by decide)⟩
def upto (k : Nat) : List C4 := (List.range k).map cc
theorem upto_succ (k : Nat) : upto (k + 1) = upto k ++ [cc k] := by simp [upto, List.range_succ]
theorem upto_length (k : Nat) : (upto k).length = k := by simp [upto]
theorem cc_val {k : Nat} (h : k < 4096) : (cc k).1 = k := Nat.mod_eq_of_lt h

theorem pow_wrap (m M : Nat) (hM : 2 ^ m = M) (h : M ≤ 4096) : IntKind.u64.wrap ((2 : Int) ^ m) = (M : Int) := by
  have e : ((2 : Int) ^ m) = ((2 ^ m : Nat) : Int) := by rw [Int.natCast_pow]; rfl
  rw [e, hM, u64_small (by omega) (by omega)]
set_option maxRecDepth 100000 in
set_option maxHeartbeats 2000000 in
theorem choices1_in (F : Fence) (n : Nat) (h56 : F.fn 56) (hro : F.round = none) (hn : 1 ≤ n) (l Bs n₀ m M : Nat) (hM : 2 ^ m = M) (hm : M ≤ 4096) (hm12 : m ≤ 12) (J Jx : List C4 → World → Prop)
    (hY : ∀ pre x W, J pre W → pre.length < M → YieldAt F (n - 1) Try.prog l #[.int .u64 (x.1 : Int)] W fun e W' =>
      (e = .returned (.bool true) ∧ J (pre ++ [x]) W' ∧ Below n₀ W W') ∨ (e = .returned (.bool false) ∧ Jx (pre ++ [x]) W'))
    (W : World) (hBs : W.cell? ⟨Bs, 0, none⟩ = some (.int .i64 (m : Int))) (h0 : J [] W) :
    CallsIn F n Try.prog 56 #[.func (.yield l) #[] #[], .pointer (some ⟨Bs, 0, none⟩)] W fun e W' => (∃ v, e = .returned v) ∧
      ((∃ ys, ys = upto M ∧ J ys W') ∨ (∃ pre : List C4, True ∧ Jx pre W')) := by
  have hp := Aside0.mk (pow_wrap m M hM hm)
  clear hM
  refine callsIn_of_wp Try.func56 rfl h56 ?_ hro
  simp only [Try.ntmps56, List.size_toArray, List.length_cons, List.length_nil, Nat.reduceAdd, Nat.reduceSub, Array.replicate_succ, Array.replicate_zero, List.push_toArray, List.append_toArray, List.nil_append, List.cons_append]
  gi_wp2
  rw [hp.out]
  clear hp hBs
  gi_loopw [3, 6] (fun _ i wr => ∃ k : Nat, k ≤ M ∧ i = .int .u64 k ∧ J (upto k) wr)
    (fun _ i _ => M - (intOf i).toNat)
  case atStart => exact ⟨0, Nat.zero_le _, rfl, h0⟩
  case round =>
    obtain ⟨k, hk, rfl, hJs⟩ := hrel
    by_cases hlt : k < M
    · obtain ⟨fn, tmps, assign, body, hy, hR⟩ := hY _ (cc k) wr hJs (by rw [upto_length]; exact hlt)
      rw [cc_val (by omega)] at hy
      gi_wp2
      refine hR.mono ?_
      rintro e W3 (⟨rfl, hJ3, hk3⟩ | ⟨rfl, hJx3⟩)
      · gi_wp2
        go_roundw
        case rel => exact ⟨k + 1, by omega, by go_num, by rw [upto_succ]; exact hJ3⟩
        case measure => simp [intOf]; omega
      · gi_wp2
        refine bodyPost_ret (results_none rfl _ _ _) rfl ?_
        exact ⟨⟨_, rfl⟩, .inr ⟨_, trivial, hJx3⟩⟩
    · obtain rfl : k = M := by omega
      gi_wp2
      go_end0
      exact ⟨⟨_, rfl⟩, .inl ⟨_, rfl, hJs⟩⟩
theorem choices_stops (F : Fence) (n : Nat) (h56 : F.fn 56) (hro : F.round = none) (hn : 1 ≤ n) (Bs n₀ m M : Nat) (hM : 2 ^ m = M) (hm : M ≤ 4096) (hm12 : m ≤ 12) (w : World) (hBs : Bs < w.heap.size)
    (hc : w.cell? ⟨Bs, 0, none⟩ = some (.int .i64 (m : Int))) :
    SeqStopsK F n Try.prog 56 #[.pointer (some ⟨Bs, 0, none⟩)] (fun x : C4 => #[Value.int .u64 (x.1 : Int)]) (Below n₀) (fun ys => ys = upto M) (fun _ => True) M w := fun l J Jx W hW _ _ hY h0 => by
  have hc' := (hW.cell (p := ⟨Bs, 0, none⟩) hBs).trans hc
  exact choices1_in F n h56 hro hn l Bs n₀ m M hM hm hm12 J Jx hY W hc' h0
set_option maxHeartbeats 1000000 in
theorem choices_in (F : Fence) (n : Nat) (h32 : F.fn 32) (hro : F.round = none) (m : Int) (w : World) :
    CallsIn F n Try.prog 32 #[.int .i64 m] w fun e w' => e = .returned (.func (.func 56) #[] #[.pointer (some ⟨w.heap.size, 0, none⟩)]) ∧ w' = w.alloc (.cells #[.int .i64 m] 3) := by
  refine callsIn_of_wp Try.func32 rfl h32 ?_ hro
  simp only [Try.ntmps32, List.size_toArray, List.length_cons, List.length_nil, Nat.reduceAdd, Nat.reduceSub, Array.replicate_succ, Array.replicate_zero, List.push_toArray, List.append_toArray, List.nil_append, List.cons_append]
  gi_wp2
  go_ret
  exact ⟨rfl, rfl⟩
/-- How many choices of signs have a sum as great as that of the sample. -/
def cnt (l : List Int) : Nat := (List.range (2 ^ l.length)).countP fun c => decide (ab (total l) ≤ ab (total l - 2 * chosen l c))
def signsR (l : List Int) : Int × Int × Int := if 12 < l.length then (0, 0, 1) else if outB l = true then (0, 0, 1) else red (cnt l) ((2 ^ l.length : Nat) : Int)
theorem absolute_any (x : Int) (w : World) : Calls Try.prog 33 #[.int .i64 x] w fun e w' => e = .returned (.int .i64 (mx x (wrap64 (-x)))) ∧ w' = w := by
  go_enter Try.func33, Try.ntmps33
  go_wp2
  all_goals
    go_ret
    refine ⟨?_, rfl⟩
    unfold mx
    first | (rw [if_pos (by assumption)]; rfl) | (rw [if_neg (by omega)]; rfl)
theorem chosen_any (A : Option Addr) (n c : Nat) (cap : Nat) (l : List Int) (hn : l.length = n) (hl : n ≤ 64) (hf : Fine l) (hc : c < 18446744073709551616) (x : Int) (hx : x = (c : Int)) (w : World) (hr : Kd.C (Kd.int .i64) w A n l) (hcap : n ≤ cap) :
    Calls Try.prog 31 #[.slice A n cap, .int .u64 x] w fun e w' => e = .returned (.int .i64 (chosen l c)) ∧ Drawn0 w w' := by
  subst hn hx
  exact sampling_chosen.calls _ A cap l c _ w hr hcap (chosen_eq l hl hf c hc)
theorem outside_any (A : Option Addr) (n cap : Nat) (l : List Int) (b : Bool) (hn : l.length = n) (hl : n ≤ 1152921504606846976) (ho : outB l = b) (w : World) (hr : Kd.C (Kd.int .i64) w A n l) (hcap : n ≤ cap) :
    Calls Try.prog 30 #[.slice A n cap] w fun e w' => e = .returned (.bool b) ∧ Drawn0 w w' := by
  subst hn ho
  exact sampling_outside.calls A cap l _ w hr hcap (by unfold sampling_outside.f; rw [if_pos hl])
/-- What follows, where no panic comes up. -/
def noPanic (Q : Exit → Act → World → Prop) : Exit → Act → World → Prop
  | .panic _, _, _ => False
  | e, a, w => Q e a w
theorem wp_noPanic {P : Program} {c : Code} {Q : Exit → Act → World → Prop} {a : Act} {w : World} (h : c.wp P (noPanic Q) a w) : c.wp P Q a w :=
  wp_mono h (fun e a w hq => by cases e <;> first | exact hq | exact hq.elim)
theorem chosen_whole (A : Option Addr) (n M : Nat) (cap : Nat) (l : List Int) (hn : l.length = n) (hl : n ≤ 64) (hf : Fine l) (hM : 2 ^ n = M) (hM2 : M ≤ 4096) (x : Int) (hx : x = ((M - 1 : Nat) : Int)) (w : World) (hr : Kd.C (Kd.int .i64) w A n l) (hcap : n ≤ cap) :
    Calls Try.prog 31 #[.slice A n cap, .int .u64 x] w fun e w' => e = .returned (.int .i64 (total l)) ∧ Drawn0 w w' := by
  have h := chosen_any A n (M - 1) cap l hn hl hf (by omega) x hx w hr hcap
  have e : chosen l (M - 1) = total l := by rw [← hM, ← hn]; exact chosen_all l
  rw [e] at h
  exact h
theorem blk_two (w : World) (A B : Obj) : ((w.alloc A).alloc B).heap[w.heap.size + 1]? = some B := by
  have := blk_new (w.alloc A) B
  simpa using this
theorem blk_three (w : World) (A B C : Obj) (k : Nat) : ((((w.alloc A).alloc B).drewN k).alloc C).heap[w.heap.size + 1 + 1]? = some C := by
  have := blk_new (((w.alloc A).alloc B).drewN k) C
  simpa using this
theorem cell_of_one_ {w : World} {g : Nat} {t : TypeId} {v : Value} (h : w.heap[g]? = some (.cells #[v] t (0, 0))) : w.cell? ⟨g, 0, none⟩ = some v := (blk_cell h 0).trans rfl
theorem reduce_eq (x y a b r1 r2 r3 : Int) (hx : x = a) (hy : y = b) (h : red a b = (r1, r2, r3)) (w : World) : Calls Try.prog 22 #[.int .i64 x, .int .i64 y] w fun e w' => e = .returned (.tuple #[.agg #[.int .i64 r1, .int .i64 r2], .int .i64 r3]) ∧ Below w.heap.size w w' := by
  subst hx hy
  have := Reduce_any x y w
  rwa [h] at this
theorem choices_any (m : Int) (w : World) : Calls Try.prog 32 #[.int .i64 m] w fun e w' => e = .returned (.func (.func 56) #[] #[.pointer (some ⟨w.heap.size, 0, none⟩)]) ∧ w' = w.alloc (.cells #[.int .i64 m] 3) :=
  callsIn_wide.1 (choices_in Fence.wide 6 trivial rfl m w)
theorem absolute_ab (x : Int) (h0 : -9223372036854775807 ≤ x) (h1 : x ≤ 9223372036854775807) (w : World) : Calls Try.prog 33 #[.int .i64 x] w fun e w' => e = .returned (.int .i64 (ab x)) ∧ Drawn0 w w' := by
  have e : mx x (wrap64 (-x)) = ab x := by
    unfold mx ab wrap64
    repeat' split
    all_goals omega
  rw [← e]
  exact (absolute_any x w).mono fun _ _ ⟨h, k⟩ => ⟨h, k ▸ Drawn0.refl _⟩
/-- How many of the choices that have come have a sum as great. -/
def pc (l : List Int) (pre : List C4) : Int := ((pre.countP fun c => decide (ab (total l) ≤ ab (total l - 2 * chosen l c.1)) : Nat) : Int)
theorem pc_yes {l : List Int} {pre : List C4} {c : C4} (h : ab (total l) ≤ ab (total l - 2 * chosen l c.1)) : pc l (pre ++ [c]) = pc l pre + 1 := by
  unfold pc
  rw [List.countP_append, List.countP_cons_of_pos (by simpa using h)]
  simp
theorem pc_no {l : List Int} {pre : List C4} {c : C4} (h : ¬ ab (total l) ≤ ab (total l - 2 * chosen l c.1)) : pc l (pre ++ [c]) = pc l pre := by
  unfold pc
  rw [List.countP_append, List.countP_cons_of_neg (by simpa using h)]
  simp
theorem pc_le (l : List Int) (pre : List C4) : 0 ≤ pc l pre ∧ pc l pre ≤ pre.length := by
  unfold pc
  have := List.countP_le_length (p := fun c : C4 => decide (ab (total l) ≤ ab (total l - 2 * chosen l c.1))) (l := pre)
  omega
theorem pc_all (l : List Int) (M : Nat) (hM : 2 ^ l.length = M) (h : M ≤ 4096) : pc l (upto M) = (cnt l : Int) := by
  unfold pc cnt upto
  rw [hM, List.countP_map]
  congr 1
  refine List.countP_congr fun c hc => ?_
  rw [List.mem_range] at hc
  simp only [Function.comp, cc_val (show c < 4096 by omega)]
/-- What lies in the boxes of Signs between two rounds. -/
structure SgI (w : World) (A : Option Addr) (n cap : Nat) (l : List Int) (pre : List C4) (W : World) : Prop where
  b0 : W.heap[w.heap.size]? = some (.cells #[.slice A n cap] 24 (0, 0))
  b1 : W.heap[w.heap.size + 1]? = some (.cells #[.int .i64 0, .int .i64 0] 31 (0, 0))
  b2 : W.heap[w.heap.size + 1 + 1]? = some (.cells #[.int .i64 (total l)] 3 (0, 0))
  b3 : W.heap[w.heap.size + 1 + 1 + 1]? = some (.cells #[.int .i64 (pc l pre)] 3 (0, 0))
  below : Below w.heap.size w W
theorem sgI_own (w : World) (A : Option Addr) (n cap : Nat) (l : List Int) (B : Nat) (hB : w.heap.size ≤ B) : OwnFrom B (SgI w A n cap l) := by
  intro pre W W' row h hg hr
  have hr2 : ∀ r, row = some r → ∃ o : Obj, W.heap[r]? = some o ∧ o.isCells = false := fun r e => (hr r e).2
  exact ⟨(grownBy_keeps_cells hg hr2 h.b0 rfl).trans h.b0, (grownBy_keeps_cells hg hr2 h.b1 rfl).trans h.b1, (grownBy_keeps_cells hg hr2 h.b2 rfl).trans h.b2, (grownBy_keeps_cells hg hr2 h.b3 rfl).trans h.b3, h.below.grown hg h.below.size (fun k e => Nat.le_trans hB (hr k e).1)⟩
theorem sgI_yes {w : World} {A : Option Addr} {n cap : Nat} {l : List Int} {pre : List C4} {W : World} {c : C4} (hI : SgI w A n cap l pre W) (hq : ab (total l) ≤ ab (total l - 2 * chosen l c.1)) (nq : Nat) :
    KeepsOthers W ((W.drewN nq).setCell ⟨w.heap.size + 1 + 1 + 1, 0, none⟩ (.int .i64 (pc l pre + 1))) ∧ Below w.heap.size W ((W.drewN nq).setCell ⟨w.heap.size + 1 + 1 + 1, 0, none⟩ (.int .i64 (pc l pre + 1))) ∧ SgI w A n cap l (pre ++ [c]) ((W.drewN nq).setCell ⟨w.heap.size + 1 + 1 + 1, 0, none⟩ (.int .i64 (pc l pre + 1))) := by
  have h0 : w.heap.size ≠ (⟨w.heap.size + 1 + 1 + 1, 0, none⟩ : Addr).block := Nat.ne_of_lt (show w.heap.size < w.heap.size + 1 + 1 + 1 by omega)
  have h1 : w.heap.size + 1 ≠ (⟨w.heap.size + 1 + 1 + 1, 0, none⟩ : Addr).block := Nat.ne_of_lt (show w.heap.size + 1 < w.heap.size + 1 + 1 + 1 by omega)
  have h2 : w.heap.size + 1 + 1 ≠ (⟨w.heap.size + 1 + 1 + 1, 0, none⟩ : Addr).block := Nat.ne_of_lt (show w.heap.size + 1 + 1 < w.heap.size + 1 + 1 + 1 by omega)
  have hle : w.heap.size ≤ (⟨w.heap.size + 1 + 1 + 1, 0, none⟩ : Addr).block := show w.heap.size ≤ w.heap.size + 1 + 1 + 1 by omega
  refine ⟨KeepsOthers.trans (B := W.drewN nq) ⟨Nat.le_refl _, fun _ _ h _ => h⟩ (KeepsOthers.setCell _ _ _), (pw_below_drewN (Below.refl _ _) _).setCell hle _, ?_⟩
  refine ⟨blk_far (blk_drewN hI.b0 _) h0 _, blk_far (blk_drewN hI.b1 _) h1 _, blk_far (blk_drewN hI.b2 _) h2 _, ?_, (pw_below_drewN hI.below _).setCell hle _⟩
  rw [pc_yes hq]
  exact blk_put (blk_drewN hI.b3 _) 0 _ rfl
theorem sgI_no {w : World} {A : Option Addr} {n cap : Nat} {l : List Int} {pre : List C4} {W : World} {c : C4} (hI : SgI w A n cap l pre W) (hq : ¬ ab (total l) ≤ ab (total l - 2 * chosen l c.1)) (nq : Nat) :
    KeepsOthers W (W.drewN nq) ∧ Below w.heap.size W (W.drewN nq) ∧ SgI w A n cap l (pre ++ [c]) (W.drewN nq) := by
  refine ⟨⟨Nat.le_refl _, fun _ _ h _ => h⟩, pw_below_drewN (Below.refl _ _) _, ?_⟩
  refine ⟨blk_drewN hI.b0 _, blk_drewN hI.b1 _, blk_drewN hI.b2 _, ?_, pw_below_drewN hI.below _⟩
  rw [pc_no hq]
  exact blk_drewN hI.b3 _
theorem sg_end1 {w w2 : World} (h : Below w.heap.size w w2) (r1 r2 : Value) : Below w.heap.size w ((w2.setCell ⟨w.heap.size + 1, 0, none⟩ r1).setCell ⟨w.heap.size + 1, 1, none⟩ r2) :=
  below_set (below_set h (by omega)) (by omega)
theorem sg_end2 {w w2 : World} {z1 z2 : Value} (h : w2.heap[w.heap.size + 1]? = some (.cells #[z1, z2] 31 (0, 0))) (r1 r2 : Value) :
    ((w2.setCell ⟨w.heap.size + 1, 0, none⟩ r1).setCell ⟨w.heap.size + 1, 1, none⟩ r2).heap[w.heap.size + 1]? = some (.cells #[r1, r2] 31 (0, 0)) :=
  blk_put (cs := #[r1, z2]) (blk_put (cs := #[z1, z2]) h 0 _ rfl) 1 _ rfl
theorem sg_end3 {w2 : World} {D B : Nat} (h : w2.heap[D]? = some (.deferred (some []))) (r1 r2 : Value) :
    ((w2.setCell ⟨B, 0, none⟩ r1).setCell ⟨B, 1, none⟩ r2).heap[D]? = some (.deferred (some [])) :=
  (KeepsOthers.setCell _ _ _).same D _ ((KeepsOthers.setCell _ _ _).same D _ h rfl) rfl
theorem sg_put {w2 : World} {D g : Nat} {o o' : Obj} (h : w2.heap[g]? = some o) (hne : g ≠ D) : (w2.putObj D o').heap[g]? = some o :=
  ((grownBy_putObj' w2 D o').block g (Array.getElem?_eq_some_iff.1 h).1 (fun e => hne (Option.some.inj e))).trans h
set_option maxRecDepth 100000 in
set_option maxHeartbeats 40000000 in
theorem signs_fine (A : Option Addr) (cap : Nat) (l : List Int) (n M : Nat) (hn : l.length = n) (hl : n ≤ 12) (hM : 2 ^ n = M) (hM1 : 1 ≤ M) (hM2 : M ≤ 4096) (hf : Fine l) (r1 r2 r3 : Int) (hr : red (cnt l) (M : Int) = (r1, r2, r3)) (w : World) (hr0 : Kd.C (Kd.int .i64) w A n l) (hc0 : n ≤ cap) :
    Calls Try.prog 12 #[.slice A n cap] w fun e w' => e = .returned (.tuple #[.agg #[.int .i64 r1, .int .i64 r2], .int .i64 r3]) ∧ Below w.heap.size w w' := by
  refine (callsIn_wide (n := 6)).1 ?_
  have h1 : 1 ≤ 6 := by decide
  have HO := Aside0.mk ((outB_fine l).2 hf)
  have HN := Aside0.mk hn
  have HM := Aside0.mk hM
  have HR := Aside0.mk hr
  have HF := Aside0.mk hf
  have HC := Aside0.mk hr0
  have HW := Aside0.mk (pow_wrap n M hM hM2)
  have HX := Aside0.mk (show IntKind.u64.wrap (IntKind.u64.wrap ((2 : Int) ^ n) - 1) = ((M - 1 : Nat) : Int) by rw [HW.out, u64_small (by omega) (by omega)]; omega)
  clear hn hM hr hf hr0
  refine callsIn_of_wp_marks Try.func12 rfl trivial ?_ rfl
  simp only [Try.ntmps12, List.size_toArray, List.length_cons, List.length_nil, Nat.reduceAdd, Nat.reduceSub, Array.replicate_succ, Array.replicate_zero, List.push_toArray, List.append_toArray, List.nil_append, List.cons_append]
  refine wpIn_wide.2 (wp_noPanic ?_)
  go_wp2_with (go_at_call 30; ((with_reducible refine (outside_any A n cap l false HN.out (by omega) HO.out _ (by repeat (first | exact HC.out | apply Kd.C_alloc | apply Kd.C_drewN)) hc0).mono ?_); rintro e w' ⟨rfl, ⟨nd, rfl⟩⟩))
  go_cut [4] from 44 to 44 (fun v4 wc => v4 = .pointer (some ⟨w.heap.size + 1 + 1, 0, none⟩) ∧ Aside0 (Below w.heap.size w wc) ∧ Aside0 (wc.heap.size = w.heap.size + 1 + 1 + 1) ∧ Aside0 (wc.heap[w.heap.size]? = some (.cells #[.slice A n cap] 24 (0, 0))) ∧ Aside0 (wc.heap[w.heap.size + 1]? = some (.cells #[.int .i64 0, .int .i64 0] 31 (0, 0))) ∧ Aside0 (wc.heap[w.heap.size + 1 + 1]? = some (.cells #[.int .i64 (total l)] 3 (0, 0))))
  case first =>
    go_region_with (go_at_call 31; ((with_reducible refine (chosen_whole A n M cap l HN.out (by omega) HF.out HM.out hM2 _ HX.out _ (by repeat (first | exact HC.out | apply Kd.C_alloc | apply Kd.C_drewN | apply Kd.C_drew)) hc0).mono ?_); rintro e w' ⟨rfl, ⟨nd, rfl⟩⟩))
    all_goals
      (try go_wp2_with fail)
      go_meet
      case rel => exact ⟨rfl, ⟨by repeat (first | exact Below.refl _ _ | apply below_alloc | apply pw_below_drewN | apply below_drew | refine below_set ?_ (by omega))⟩, ⟨by simp⟩, ⟨by repeat (first | exact blk_new w _ | refine blk_drewN ?_ _ | refine blk_drew ?_ | refine blk_alloc ?_ _ | refine blk_far ?_ (Nat.ne_of_lt (show w.heap.size < w.heap.size + 1 + 1 by omega)) _)⟩, ⟨by repeat (first | exact blk_two w _ _ | refine blk_drewN ?_ _ | refine blk_drew ?_ | refine blk_alloc ?_ _ | refine blk_far ?_ (Nat.ne_of_lt (show w.heap.size + 1 < w.heap.size + 1 + 1 by omega)) _)⟩, ⟨by repeat (first | exact blk_three w _ _ _ _ | refine blk_drewN ?_ _ | refine blk_drew ?_ | refine blk_alloc ?_ _ | refine blk_put (cs := #[.int .i64 0]) ?_ 0 _ rfl)⟩⟩
  case rest =>
    obtain ⟨rfl, HB, HZ, H0, H1, H2⟩ := hcut
    have hc0_ : wc.cell? ⟨w.heap.size, 0, none⟩ = some (.slice A n cap) := (blk_cell H0.out 0).trans rfl
    have hf0_ := blk_frozen H0.out 0
    have hz_ : wc.heap.size = w.heap.size + 1 + 1 + 1 := HZ.out
    go_wp2_with (go_at_call 32; ((with_reducible refine (choices_any _ _).mono ?_); rintro e w' ⟨rfl, rfl⟩))
    obtain ⟨W0, hW0⟩ : ∃ W0 : World, W0 = (wc.alloc (.cells #[.int .i64 0] 3)).alloc (.cells #[.int .i64 (n : Int)] 3) := ⟨_, rfl⟩
    have hz1 : (wc.alloc (.cells #[.int .i64 0] 3)).heap.size = w.heap.size + 1 + 1 + 1 + 1 := by simp [hz_]
    have hs0 : W0.heap.size = w.heap.size + 1 + 1 + 1 + 1 + 1 := by rw [hW0]; simp [hz_]
    have hI0 : SgI w A n cap l [] W0 := by
      rw [hW0]
      have k3 := blk_new wc (.cells #[.int .i64 0] 3)
      rw [hz_] at k3
      exact ⟨blk_alloc (blk_alloc H0.out _) _, blk_alloc (blk_alloc H1.out _) _, blk_alloc (blk_alloc H2.out _) _, blk_alloc k3 _, below_alloc (below_alloc HB.out _) _⟩
    have hb4 : W0.heap[w.heap.size + 1 + 1 + 1 + 1]? = some (.cells #[.int .i64 (n : Int)] 3 (0, 0)) := by
      have k4 := blk_new (wc.alloc (.cells #[.int .i64 0] 3)) (.cells #[.int .i64 (n : Int)] 3)
      rw [hz1] at k4
      rw [hW0]; exact k4
    rw [← hW0]
    have hbs := cell_of_one_ hb4
    have hmx : Try.prog.follows .mixedOrders = true := by kernel_rfl
    refine (wpIn_wide (n := 6)).1 ?_
    refine wpIn_rangeFunc_ownF rfl h1 (gf := 56) (lb := #[.pointer (some ⟨w.heap.size + 1 + 1 + 1 + 1, 0, none⟩)]) rfl trivial (enters_of Try.func56 (by kernel_rfl) rfl)
      (choices_stops Fence.wide 5 trivial rfl (by omega) (w.heap.size + 1 + 1 + 1 + 1) w.heap.size n M HM.out hM2 hl W0 (by omega) hbs) belowK_t (belowK_b (by omega)) (Below.refl _ _) (fun _ => rfl)
      (SgI w A n cap l) (fun _ _ _ => False) (sgI_own w A n cap l _ (by omega)) (fun _ _ _ _ _ hs _ _ => hs) hI0
      (fun x : C4 => { tmps := #[.slice A n cap, .pointer (some ⟨w.heap.size, 0, none⟩), .pointer (some ⟨w.heap.size + 1, 0, none⟩), .int .i64 0, .pointer (some ⟨w.heap.size + 1 + 1, 0, none⟩), .pointer (some ⟨w.heap.size + 1 + 1 + 1, 0, none⟩), .int .u64 (x.1 : Int), .slice A n cap, .int .i64 (n : Int), .bool (decide (12 < (n : Int))), .bool (decide (12 < (n : Int))), .slice A n cap, .bool false, .bool (decide (12 < (n : Int))), undef, u15, u16, u17, u18, u19, u20, .slice A n cap, .int .i64 (n : Int), .func (.func 56) #[] #[.pointer (some ⟨w.heap.size + 1 + 1 + 1 + 1, 0, none⟩)], .int .u64 (x.1 : Int), undef, undef, undef, undef, undef, undef, undef, undef, undef, undef, undef, undef, undef, undef, undef, undef, undef, undef, undef], defers := [] }) ?assign ?body ?done ?stop
    case assign =>
      intro l_ x W K hK
      gi_wp2
      exact hK
    case body =>
      rintro l_ pre ⟨c, hc⟩ W hI hlt
      have hb_ := chosen_bound l HF.out c
      have ht_ := total_bound l HF.out
      have hp_ := pc_le l pre
      rw [HN.out] at hb_ ht_
      have hd : 1 ≤ 6 - 1 - 1 := by omega
      have HCW : Aside0 (Kd.C (Kd.int .i64) W A n l) := ⟨Kd.C_below HC.out hI.below⟩
      have e0 : W.cell? ⟨w.heap.size, 0, none⟩ = some (.slice A n cap) := (blk_cell hI.b0 0).trans rfl
      have e2 : W.cell? ⟨w.heap.size + 1 + 1, 0, none⟩ = some (.int .i64 (total l)) := (blk_cell hI.b2 0).trans rfl
      have e3 : W.cell? ⟨w.heap.size + 1 + 1 + 1, 0, none⟩ = some (.int .i64 (pc l pre)) := (blk_cell hI.b3 0).trans rfl
      have f3 := blk_frozen hI.b3 0
      have HV := Aside0.mk (show IntKind.i64.wrap (total l - IntKind.i64.wrap (2 * chosen l c)) = total l - 2 * chosen l c by rw [IntWalk.i64_in (2 * chosen l c) (by omega), IntWalk.i64_in _ (by omega)])
      gi_wp2
      gi_cut [34] from 44 (fun v34 wr => v34 = .bool (decide (ab (total l) ≤ ab (total l - 2 * chosen l c))) ∧ ∃ nq, wr = W.drewN nq)
      case first =>
        gi_region_with_o (refine ⟨trivial, ?_⟩; first | (gi_at_call 31; ((with_reducible refine (CallsIn.inRound l_ (callsIn_wide.2 (chosen_any A n c cap l HN.out (by omega) HF.out (by omega) _ rfl _ (by repeat (first | exact HCW.out | apply Kd.C_alloc | apply Kd.C_drewN | apply Kd.C_drew)) hc0))).mono ?_); rintro e w' ⟨rfl, ⟨nd, rfl⟩⟩)) | (gi_at_call 33; ((with_reducible refine (CallsIn.inRound l_ (callsIn_wide.2 (absolute_ab _ (by first | omega | (rw [HV.out]; omega)) (by first | omega | (rw [HV.out]; omega)) _))).mono ?_); rintro e w' ⟨rfl, ⟨nd, rfl⟩⟩)))
        all_goals
          (try gi_wp2_with fail)
          gi_meet
          case rel => exact ⟨by simp only [HV.out, ge_iff_le], _, rfl⟩
      case rest =>
        obtain ⟨rfl, nq, rfl⟩ := hcut
        clear HCW e0 e2 HV
        clear hb_ ht_
        gi_wp2
        · exact sgI_yes hI (by assumption) nq
        · exact sgI_no hI (show ¬ ab (total l) ≤ ab (total l - 2 * chosen l c) by first | assumption | omega) nq
    case done =>
      rintro D ys W hD rfl hI hK
      have e0 : W.cell? ⟨w.heap.size, 0, none⟩ = some (.slice A n cap) := (blk_cell hI.b0 0).trans rfl
      have e3 : W.cell? ⟨w.heap.size + 1 + 1 + 1, 0, none⟩ = some (.int .i64 (pc l (upto M))) := (blk_cell hI.b3 0).trans rfl
      have HI := Aside0.mk hI
      have HK := Aside0.mk hK
      have HS := Aside0.mk (show IntKind.i64.wrap ((2 : Int) ^ n) = (M : Int) by rw [show ((2 : Int) ^ n) = ((2 ^ n : Nat) : Int) by rw [Int.natCast_pow]; rfl, HM.out, IntWalk.i64_in _ (by omega)])
      have HP := Aside0.mk (pc_all l M (by rw [HN.out]; exact HM.out) hM2)
      clear hI hK
      go_wp2
      go_cut [3] from 44 to 44 (fun v3 wr => v3 = .int .i64 r3 ∧ Aside0 (Below w.heap.size w wr) ∧ Aside0 (wr.heap[w.heap.size + 1]? = some (.cells #[.int .i64 r1, .int .i64 r2] 31 (0, 0))) ∧ Aside0 (wr.heap[D]? = some (.deferred (some []))))
      case first =>
        go_region_with (go_at_call 22; ((with_reducible refine (reduce_eq _ _ (cnt l : Int) (M : Int) r1 r2 r3 HP.out HS.out HR.out _).mono ?_); rintro e w2 ⟨rfl, hb⟩; have HB2 := Aside0.mk (below_step (by repeat (first | exact HI.out.below | apply pw_below_drewN | apply below_drew)) hb); have HK2 : Aside0 (w2.heap[w.heap.size + 1]? = some (.cells #[.int .i64 0, .int .i64 0] 31 (0, 0))) := Aside0.mk (blk_below (by repeat (first | exact HI.out.b1 | refine blk_drewN ?_ _ | refine blk_drew ?_)) hb); have HD2 : Aside0 (w2.heap[D]? = some (.deferred (some []))) := Aside0.mk (blk_below (by repeat (first | exact HK.out | refine blk_drewN ?_ _ | refine blk_drew ?_)) hb); clear hb; have hq0_ : w2.cell? ⟨w.heap.size + 1, 0, none⟩ = some (.int .i64 0) := (blk_cell HK2.out 0).trans rfl; have hq1_ : w2.cell? ⟨w.heap.size + 1, 1, none⟩ = some (.int .i64 0) := (blk_cell HK2.out 1).trans rfl; have hr0_ := blk_frozen HK2.out 0; have hr1_ := blk_frozen HK2.out 1))
        all_goals
          (try go_wp2_with fail)
          go_meet
          case rel => exact ⟨rfl, ⟨sg_end1 HB2.out _ _⟩, ⟨sg_end2 HK2.out _ _⟩, ⟨sg_end3 HD2.out _ _⟩⟩
      case rest =>
        obtain ⟨rfl, HB2, HK2, HD2⟩ := hcut
        go_wp2
        refine ⟨by simp, .inl ⟨_, _, rfl, run_takeDeferred HD2.out, ?_⟩⟩
        exact ⟨_, results_ct rfl _ _ (w.heap.size + 1) 31 #[.int .i64 r1, .int .i64 r2] (0, 0) _ rfl (sg_put HK2.out (by omega)) Try.underlying31 rfl (by kernel_rfl), rfl, HB2.out.trans (belowK_b (w := w) (Nat.le_refl _) _ D _ _ (by omega) HD2.out rfl rfl)⟩
    case stop => 
      rintro D c pre W _ _ h _
      exact h.elim
theorem signs_long (A : Option Addr) (cap : Nat) (l : List Int) (n : Nat) (hl : 12 < n) (hn2 : n ≤ 1152921504606846976) (w : World) :
    Calls Try.prog 12 #[.slice A n cap] w fun e w' => e = .returned (.tuple #[.agg #[.int .i64 0, .int .i64 0], .int .i64 1]) ∧ Below w.heap.size w w' := by
  go_enter Try.func12, Try.ntmps12
  go_wp2_with fail
  refine bodyPost_ret (results_ct rfl _ _ (w.heap.size + 1) 31 #[.int .i64 0, .int .i64 0] (0, 0) _ rfl (by repeat (first | exact blk_put (cs := #[.int .i64 0, .int .i64 0]) (blk_put (cs := #[.int .i64 0, .int .i64 0]) (by repeat (first | exact blk_two w _ _ | refine blk_drewN ?_ _ | refine blk_alloc ?_ _)) 0 _ rfl) 1 _ rfl | exact blk_two w _ _ | refine blk_drewN ?_ _ | refine blk_alloc ?_ _)) Try.underlying31 rfl (by kernel_rfl)) rfl ?_
  exact ⟨rfl, by repeat (first | exact Below.refl _ _ | apply below_alloc | apply pw_below_drewN | apply below_drew | refine below_set ?_ (by omega))⟩
theorem signs_odd (A : Option Addr) (cap : Nat) (l : List Int) (n : Nat) (hn : l.length = n) (hl : n ≤ 12) (ho : outB l = true) (w : World) (hr0 : Kd.C (Kd.int .i64) w A n l) (hc0 : n ≤ cap) :
    Calls Try.prog 12 #[.slice A n cap] w fun e w' => e = .returned (.tuple #[.agg #[.int .i64 0, .int .i64 0], .int .i64 1]) ∧ Below w.heap.size w w' := by
  have HO := Aside0.mk ho
  have HN := Aside0.mk hn
  have HC := Aside0.mk hr0
  clear hn hr0 ho
  go_enter Try.func12, Try.ntmps12
  go_wp2_with (go_at_call 30; ((with_reducible refine (outside_any A n cap l true HN.out (by omega) HO.out _ (by repeat (first | exact HC.out | apply Kd.C_alloc | apply Kd.C_drewN)) hc0).mono ?_); rintro e w' ⟨rfl, ⟨nd, rfl⟩⟩))
  refine bodyPost_ret (results_ct rfl _ _ (w.heap.size + 1) 31 #[.int .i64 0, .int .i64 0] (0, 0) _ rfl (by repeat (first | exact blk_put (cs := #[.int .i64 0, .int .i64 0]) (blk_put (cs := #[.int .i64 0, .int .i64 0]) (by repeat (first | exact blk_two w _ _ | refine blk_drewN ?_ _ | refine blk_alloc ?_ _)) 0 _ rfl) 1 _ rfl | exact blk_two w _ _ | refine blk_drewN ?_ _ | refine blk_alloc ?_ _)) Try.underlying31 rfl (by kernel_rfl)) rfl ?_
  exact ⟨rfl, by repeat (first | exact Below.refl _ _ | apply below_alloc | apply pw_below_drewN | apply below_drew | refine below_set ?_ (by omega))⟩
/-- Signs, told at once. -/
def sampling_Signs.f (l : List Int) : Option (Int × Int × Int) := if l.length ≤ 1152921504606846976 then some (signsR l) else none
theorem sampling_Signs.calls (A0 : Option Addr) (c0 : Nat) (l0 : List Int) (r1 r2 r3 : Int) (w : World) (hr0 : Kd.C (Kd.int .i64) w A0 l0.length l0) (hc0 : l0.length ≤ c0) (h : sampling_Signs.f l0 = some (r1, r2, r3)) :
    Calls Try.prog 12 #[.slice A0 l0.length c0] w fun e w' => e = .returned (.tuple #[.agg #[.int .i64 r1, .int .i64 r2], .int .i64 r3]) ∧ Below w.heap.size w w' := by
  unfold sampling_Signs.f at h
  split at h
  case isFalse => cases h
  case isTrue hm =>
    have h := Option.some.inj h
    unfold signsR at h
    split at h
    case isTrue hl => cases h; exact signs_long A0 c0 l0 _ hl hm w
    case isFalse hl =>
      split at h
      case isTrue ho => cases h; exact signs_odd A0 c0 l0 _ rfl (by omega) ho w hr0 hc0
      case isFalse ho =>
        have hp : 2 ^ l0.length ≤ 2 ^ 12 := Nat.pow_le_pow_right (by decide) (by omega)
        exact signs_fine A0 c0 l0 l0.length (2 ^ l0.length) rfl (by omega) rfl (Nat.two_pow_pos _) hp ((outB_fine l0).1 (Bool.eq_false_iff.mpr ho)) r1 r2 r3 h w hr0 hc0
end Go.Proofs.Ytcgjgpdandjicaa.B
