/- Choose, Tail, Ranks and Median of package sampling, and the library's slices.Sorted(slices.Values(l)). -/
import Derived.Shelf.SlIterI.Sorted
import Derived.Shelf.SortM.Plain
import Derived.Shelf.SortM.SortNone
import Derived.Test.YtcgjgpdandjicaaProg
import Derived.Shelf.SlIter.Collect
import Derived.Sort.OwnSortedInts
import Derived.Test.YtcgjgpdandjicaaSigns
import Derived.Test.YtcgjgpdandjicaaBN
import Derived.Test.YtcgjgpdandjicaaChs
import Derived.Test.YtcgjgpdandjicaaCmp
namespace Go.Proofs.Ytcgjgpdandjicaa.B
open Go.Shelf Go.Proofs
set_option linter.unusedVariables false
def laySorted_ren : Go.Shelf.Ren := ⟨fun | 6 => 46 | 8 => 62 | 9 => 63 | 11 => 68 | 13 => 70 | 12 => 69 | 23 => 82 | 24 => 83 | 14 => 73 | 15 => 74 | 16 => 75 | 17 => 76 | 18 => 77 | 19 => 78 | 20 => 79 | 21 => 80 | 22 => 81 | 25 => 85 | 26 => 86 | 27 => 87 | 28 => 88 | 29 => 89 | 30 => 57 | 31 => 91 | n => n, fun | 26 => 3 | 28 => 74 | 24 => 24 | 0 => 0 | 3 => 3 | 37 => 29 | 48 => 85 | 50 => 65 | 4 => 4 | 40 => 99 | 39 => 98 | 45 => 104 | 5 => 5 | 9 => 9 | 51 => 107 | 55 => 111 | 57 => 114 | 58 => 115 | 33 => 80 | n => n, fun | n => n⟩
theorem laySorted : Go.Proofs.SlLaysZI.n6 Try.prog laySorted_ren := {
  mixed := by kernel_rfl
  f6 := ⟨Try.f46.name, by decide, Try.func46.trans (congrArg some (by kernel_rfl))⟩
  f8 := ⟨Try.f62.name, by decide, Try.func62.trans (congrArg some (by kernel_rfl))⟩
  f11 := ⟨Try.f68.name, by decide, Try.func68.trans (congrArg some (by kernel_rfl))⟩
  t0 := Try.underlying0
  a0 := Try.isAgg0
  z0 := Try.sizeOf0
  v0 := Try.zeroValue0
  t24 := Try.underlying24
  a24 := Try.isAgg24
  z24 := Try.sizeOf24
  v24 := Try.zeroValue24
  t26 := Try.underlying3
  a26 := Try.isAgg3
  z26 := Try.sizeOf3
  v26 := Try.zeroValue3
  t28 := Try.underlying74
  a28 := Try.isAgg74
  z28 := Try.sizeOf74
  v28 := Try.zeroValue74
  i26 := by kernel_rfl }
def laySort_ren : Go.Shelf.Ren := ⟨fun | 5 => 63 | 8 => 70 | 7 => 69 | 19 => 82 | 20 => 83 | 10 => 73 | 11 => 74 | 12 => 75 | 13 => 76 | 14 => 77 | 15 => 78 | 16 => 79 | 17 => 80 | 18 => 81 | 30 => 85 | 31 => 86 | 32 => 87 | 33 => 88 | 34 => 89 | 35 => 57 | 40 => 91 | n => n, fun | 23 => 24 | 25 => 3 | 3 => 3 | 32 => 29 | 22 => 24 | 0 => 0 | 44 => 85 | 46 => 65 | 4 => 4 | 36 => 99 | 35 => 98 | 41 => 104 | 5 => 5 | 9 => 9 | 53 => 107 | 57 => 111 | 63 => 114 | 64 => 115 | n => n, fun | n => n⟩
theorem laySort : Go.Proofs.SlLaysM.n5 Try.prog laySort_ren := {
  mixed := by kernel_rfl
  f5 := ⟨Try.f63.name, by decide, Try.func63.trans (congrArg some (by kernel_rfl))⟩
  f7 := ⟨Try.f69.name, by decide, Try.func69.trans (congrArg some (by kernel_rfl))⟩
  f8 := Try.func70.trans (congrArg some (by kernel_rfl))
  f10 := ⟨Try.f73.name, by decide, Try.func73.trans (congrArg some (by kernel_rfl))⟩
  f11 := ⟨Try.f74.name, by decide, Try.func74.trans (congrArg some (by kernel_rfl))⟩
  f12 := ⟨Try.f75.name, by decide, Try.func75.trans (congrArg some (by kernel_rfl))⟩
  f13 := ⟨Try.f76.name, by decide, Try.func76.trans (congrArg some (by kernel_rfl))⟩
  f14 := ⟨Try.f77.name, by decide, Try.func77.trans (congrArg some (by kernel_rfl))⟩
  f15 := ⟨Try.f78.name, by decide, Try.func78.trans (congrArg some (by kernel_rfl))⟩
  f16 := ⟨Try.f79.name, by decide, Try.func79.trans (congrArg some (by kernel_rfl))⟩
  f17 := ⟨Try.f80.name, by decide, Try.func80.trans (congrArg some (by kernel_rfl))⟩
  f18 := ⟨Try.f81.name, by decide, Try.func81.trans (congrArg some (by kernel_rfl))⟩
  f19 := Try.func82.trans (congrArg some (by kernel_rfl))
  f20 := Try.func83.trans (congrArg some (by kernel_rfl))
  f30 := ⟨Try.f85.name, by decide, Try.func85.trans (congrArg some (by kernel_rfl))⟩
  f31 := Try.func86.trans (congrArg some (by kernel_rfl))
  f32 := Try.func87.trans (congrArg some (by kernel_rfl))
  f33 := ⟨Try.f88.name, by decide, Try.func88.trans (congrArg some (by kernel_rfl))⟩
  f34 := ⟨Try.f89.name, by decide, Try.func89.trans (congrArg some (by kernel_rfl))⟩
  f35 := ⟨Try.f57.name, by decide, Try.func57.trans (congrArg some (by kernel_rfl))⟩
  f40 := ⟨Try.f91.name, by decide, Try.func91.trans (congrArg some (by kernel_rfl))⟩
  t0 := Try.underlying0
  a0 := Try.isAgg0
  z0 := Try.sizeOf0
  v0 := Try.zeroValue0
  t3 := Try.underlying3
  a3 := Try.isAgg3
  z3 := Try.sizeOf3
  v3 := Try.zeroValue3
  t4 := Try.underlying4
  a4 := Try.isAgg4
  z4 := Try.sizeOf4
  v4 := Try.zeroValue4
  t5 := Try.underlying5
  a5 := Try.isAgg5
  z5 := Try.sizeOf5
  v5 := Try.zeroValue5
  t9 := Try.underlying9
  a9 := Try.isAgg9
  z9 := Try.sizeOf9
  v9 := Try.zeroValue9
  t22 := Try.underlying24
  a22 := Try.isAgg24
  z22 := Try.sizeOf24
  v22 := Try.zeroValue24
  t23 := Try.underlying24
  a23 := Try.isAgg24
  z23 := Try.sizeOf24
  v23 := Try.zeroValue24
  t25 := Try.underlying3
  a25 := Try.isAgg3
  z25 := Try.sizeOf3
  v25 := Try.zeroValue3
  t32 := Try.underlying29
  a32 := Try.isAgg29
  z32 := Try.sizeOf29
  v32 := Try.zeroValue29
  t35 := Try.underlying98
  a35 := Try.isAgg98
  z35 := Try.sizeOf98
  v35 := Try.zeroValue98
  t36 := Try.underlying99
  a36 := Try.isAgg99
  z36 := Try.sizeOf99
  v36 := Try.zeroValue99
  t41 := Try.underlying104
  a41 := Try.isAgg104
  z41 := Try.sizeOf104
  v41 := Try.zeroValue104
  t44 := Try.underlying85
  a44 := Try.isAgg85
  z44 := Try.sizeOf85
  v44 := Try.zeroValue85
  t46 := Try.underlying65
  a46 := Try.isAgg65
  z46 := Try.sizeOf65
  v46 := Try.zeroValue65
  t53 := Try.underlying107
  a53 := Try.isAgg107
  z53 := Try.sizeOf107
  v53 := Try.zeroValue107
  t57 := Try.underlying111
  a57 := Try.isAgg111
  z57 := Try.sizeOf111
  v57 := Try.zeroValue111
  t63 := Try.underlying114
  a63 := Try.isAgg114
  z63 := Try.sizeOf114
  v63 := Try.zeroValue114
  t64 := Try.underlying115
  a64 := Try.isAgg115
  z64 := Try.sizeOf115
  v64 := Try.zeroValue115 }
end Go.Proofs.Ytcgjgpdandjicaa.B
namespace Go.Proofs.Ytcgjgpdandjicaa.B
open Go.RowKit Go.Shelf Go.Proofs.YtcgjgpdandjicaaW.PrintWords Go.Proofs.YtcgjgpdandjicaaW.PrintLast Go.Proofs.YtcgjgpdandjicaaW.PrintMore
set_option linter.unusedVariables false
set_option linter.unusedSimpArgs false
attribute [local go_sem] Oper.semAt_some

theorem rd_nat (l : List Int) (i : Nat) (h : i < l.length) : rd l (i : Int) = l[i] := by unfold rd; simp [h]
set_option maxRecDepth 100000 in
set_option maxHeartbeats 2000000 in
theorem values1_in (F : Fence) (n : Nat) (h64 : F.fn 64) (hro : F.round = none) (hn : 1 ≤ n) (l Bs m cap : Nat) (A : Option Addr) (xs : List Int) (hxs : xs.length = m) (hm : m ≤ 1000) (w0 : World) (hC : Kd.C (Kd.int .i64) w0 A m xs)
    (J Jx : List Int → World → Prop)
    (hY : ∀ pre x W, J pre W → pre.length < m → YieldAt F (n - 1) Try.prog l #[.int .i64 x] W fun e W' =>
      (e = .returned (.bool true) ∧ J (pre ++ [x]) W' ∧ Below w0.heap.size W W') ∨ (e = .returned (.bool false) ∧ Jx (pre ++ [x]) W'))
    (W : World) (hb : Below w0.heap.size w0 W) (hBs : W.cell? ⟨Bs, 0, none⟩ = some (.slice A m cap)) (h0 : J [] W) :
    CallsIn F n Try.prog 64 #[.func (.yield l) #[] #[], .pointer (some ⟨Bs, 0, none⟩)] W fun e W' => (∃ v, e = .returned v) ∧
      ((∃ ys, ys = xs ∧ J ys W') ∨ (∃ pre : List Int, True ∧ Jx pre W')) := by
  refine callsIn_of_wp Try.func64 rfl h64 ?_ hro
  simp only [Try.ntmps64, List.size_toArray, List.length_cons, List.length_nil, Nat.reduceAdd, Nat.reduceSub, Array.replicate_succ, Array.replicate_zero, List.push_toArray, List.append_toArray, List.nil_append, List.cons_append]
  gi_wp2
  clear hBs
  gi_loopw [4, 7] (fun _ i wr => ∃ k : Nat, k ≤ m ∧ i = .int .i64 k ∧ Aside0 (Below w0.heap.size w0 wr) ∧ J (xs.take k) wr)
    (fun _ i _ => m - (intOf i).toNat)
  case atStart => exact ⟨0, Nat.zero_le _, rfl, ⟨hb⟩, h0⟩
  case round =>
    obtain ⟨k, hk, rfl, hbw, hJs⟩ := hrel
    by_cases hlt : k < m
    · have hCw : Kd.C (Kd.int .i64) wr A m xs := Kd.C_below hC hbw.out
      obtain ⟨ad, eA, hx⟩ := Kd.at_int hCw (k : Int) (by omega) (by omega)
      cases eA
      simp only [Int.toNat_natCast] at hx
      have hkx : k < xs.length := by omega
      obtain ⟨fn, tmps, assign, body, hy, hR⟩ := hY _ (rd xs (k : Int)) wr hJs (by rw [List.length_take]; omega)
      gi_wp2
      refine hR.mono ?_
      rintro e W3 (⟨rfl, hJ3, hk3⟩ | ⟨rfl, hJx3⟩)
      · gi_wp2
        go_roundw
        case rel => exact ⟨k + 1, by omega, by go_num, ⟨hbw.out.trans hk3⟩, by rw [List.take_succ_eq_append_getElem hkx, ← rd_nat xs k hkx]; exact hJ3⟩
        case measure => simp [intOf]; omega
      · gi_wp2
        refine bodyPost_ret (results_none rfl _ _ _) rfl ?_
        exact ⟨⟨_, rfl⟩, .inr ⟨_, trivial, hJx3⟩⟩
    · obtain rfl : k = m := by omega
      gi_wp2
      go_end0
      rw [List.take_of_length_le (by omega)] at hJs
      exact ⟨⟨_, rfl⟩, .inl ⟨_, rfl, hJs⟩⟩
theorem values_stops (F : Fence) (n : Nat) (h64 : F.fn 64) (hro : F.round = none) (hn : 1 ≤ n) (Bs m cap : Nat) (A : Option Addr) (xs : List Int) (hxs : xs.length = m) (hm : m ≤ 1000) (w : World) (hC : Kd.C (Kd.int .i64) w A m xs) (hBs : Bs < w.heap.size)
    (hc : w.cell? ⟨Bs, 0, none⟩ = some (.slice A m cap)) :
    SeqStopsK F n Try.prog 64 #[.pointer (some ⟨Bs, 0, none⟩)] (fun x : Int => #[Value.int .i64 x]) (Below w.heap.size) (fun ys => ys = xs) (fun _ => True) m w := fun l J Jx W hW _ _ hY h0 =>
  values1_in F n h64 hro hn l Bs m cap A xs hxs hm w hC J Jx hY W hW ((hW.cell (p := ⟨Bs, 0, none⟩) hBs).trans hc) h0
theorem values_any (A : Option Addr) (m cap : Nat) (w : World) : Calls Try.prog 47 #[.slice A m cap] w fun e w' => e = .returned (.func (.func 64) #[] #[.pointer (some ⟨w.heap.size, 0, none⟩)]) ∧ w' = w.alloc (.cells #[.slice A m cap] 24) := by
  go_enter Try.func47, Try.ntmps47
  go_wp2
  go_ret
  exact ⟨rfl, rfl⟩
/-- What lies in AppendSeq's box between two rounds. -/
structure ApI (w : World) (ss : List Int) (W : World) : Prop where
  box : ∃ v, W.heap[w.heap.size]? = some (.cells #[v] 24 (0, 0)) ∧ W.ownsRow w.heap.size 3 1 v ss.length (ss.map (Value.int .i64)) ∧ (v = .slice none 0 0 ↔ ss = [])
  below : Below w.heap.size w W
theorem owns_abides {W W' : World} {row : Option Nat} {base : Nat} {e : TypeId} {size : Nat} {v : Value} {k : Nat} {xs : List Value} (h : W.ownsRow base e size v k xs) (hg : W.grownBy W' row)
    (hrow : ∀ r, row = some r → ∃ o : Obj, W.heap[r]? = some o ∧ o.isCells = false) : W'.ownsRow base e size v k xs := by
  refine h.kept hg ?_
  rcases h.2 with ⟨rfl, _⟩ | ⟨g, cap, cur, rfl, _, hgb, _⟩
  · exact .inl rfl
  · refine .inr fun e' => ?_
    obtain ⟨o, ho, hw⟩ := hrow g (by simpa [Value.ownBlock] using e'.symm)
    rw [hgb] at ho; cases ho; cases hw
theorem apI_own (w : World) (B : Nat) (hB : w.heap.size ≤ B) : OwnFrom B (ApI w) := by
  intro ss W W' row h hg hr
  have hr2 : ∀ r, row = some r → ∃ o : Obj, W.heap[r]? = some o ∧ o.isCells = false := fun r e => (hr r e).2
  obtain ⟨v, hv, ho, hn⟩ := h.box
  exact ⟨⟨v, (grownBy_keeps_cells hg hr2 hv rfl).trans hv, owns_abides ho hg hr2, hn⟩, h.below.grown hg h.below.size (fun k e => Nat.le_trans hB (hr k e).1)⟩
theorem info_three : ∃ i, Try.prog.info? 3 = some i ∧ i.zero = some (.int .i64 0) ∧ i.size = 1 ∧ i.bytes = 8 := info_parts (by kernel_rfl)
theorem blk_one_ {w : World} {g t : Nat} {v : Value} (h : w.heap[g]? = some (.cells #[v] t (0, 0))) : w.cell? ⟨g, 0, none⟩ = some v := (blk_cell h 0).trans rfl
theorem apI_step {w W w3 : World} {pre : List Int} {x : Int} {v : Value} {g' cap' : Nat} (HI : ApI w pre W) (HO : W.ownsRow w.heap.size 3 1 v pre.length (pre.map (Value.int .i64)))
    (HG : (W.alloc (.cells #[.int .i64 x] 3)).grownBy w3 v.ownBlock) (HO3 : w3.ownsRow w.heap.size 3 1 (.slice (some ⟨g', 0, none⟩) (pre.length + 1) cap') (pre.length + 1) (pre.map (Value.int .i64) ++ [.int .i64 x]))
    (HV3 : w3.heap[w.heap.size]? = some (.cells #[v] 24 (0, 0))) :
    KeepsOthers W (w3.setCell ⟨w.heap.size, 0, none⟩ (.slice (some ⟨g', 0, none⟩) (pre.length + 1) cap')) ∧ Below w.heap.size W (w3.setCell ⟨w.heap.size, 0, none⟩ (.slice (some ⟨g', 0, none⟩) (pre.length + 1) cap')) ∧ ApI w (pre ++ [x]) (w3.setCell ⟨w.heap.size, 0, none⟩ (.slice (some ⟨g', 0, none⟩) (pre.length + 1) cap')) := by
  have hs := HI.below.size
  have hb3 : Below w.heap.size W w3 := ((Below.refl w.heap.size W).alloc hs _).grown HG (by simp; omega) (fun k e => (HO.lt k e).1)
  have hb4 : Below w.heap.size W (w3.setCell ⟨w.heap.size, 0, none⟩ (.slice (some ⟨g', 0, none⟩) (pre.length + 1) cap')) := hb3.setCell (show w.heap.size ≤ (⟨w.heap.size, 0, none⟩ : Addr).block from Nat.le_refl _) _
  refine ⟨(KeepsOthers.trans (KeepsOthers.alloc W _) (KeepsOthers.of_grownBy HG ?_)).trans (KeepsOthers.setCell _ _ _), hb4, ⟨_, heap_setCell_box_a _ HV3, ?_, by simp⟩, HI.below.trans hb4⟩
  · intro j o hj ho
    rcases (HO.alloc (.cells #[.int .i64 x] 3)).2 with ⟨rfl, _⟩ | ⟨g, cap, cur, rfl, _, hgb, _⟩
    · simp [Value.ownBlock] at hj
    · have : g = j := by simpa [Value.ownBlock] using hj
      subst this; rw [hgb] at ho; cases ho; rfl
  · have := HO3.kept (grownBy_setCell0_a w3 w.heap.size (.slice (some ⟨g', 0, none⟩) (pre.length + 1) cap')) (ownsRow_ne_a HO3 HV3 (fun cur e => by cases e))
    simpa using this
set_option maxRecDepth 100000 in
set_option maxHeartbeats 8000000 in
theorem appendSeq_any (A : Option Addr) (m cap Bs : Nat) (xs : List Int) (hxs : xs.length = m) (hm : m ≤ 1000) (w : World) (hC : Kd.C (Kd.int .i64) w A m xs) (hBs : Bs < w.heap.size) (hc : w.cell? ⟨Bs, 0, none⟩ = some (.slice A m cap)) :
    Calls Try.prog 68 #[.slice none 0 0, .func (.func 64) #[] #[.pointer (some ⟨Bs, 0, none⟩)]] w fun e w' => ∃ v, e = .returned v ∧ w'.ownsRow w.heap.size 3 1 v m (xs.map (Value.int .i64)) ∧ (v = .slice none 0 0 ↔ xs = []) ∧ Below w.heap.size w w' := by
  refine (callsIn_wide (n := 6)).1 ?_
  have h1 : 1 ≤ 6 := by decide
  refine callsIn_of_wp_marks Try.func68 rfl trivial ?_ rfl
  simp only [Try.ntmps68, List.size_toArray, List.length_cons, List.length_nil, Nat.reduceAdd, Nat.reduceSub, Array.replicate_succ, Array.replicate_zero, List.push_toArray, List.append_toArray, List.nil_append, List.cons_append]
  refine wpIn_wide.2 (wp_noPanic ?_)
  have HC := Aside0.mk hC
  have Hc := Aside0.mk hc
  clear hC hc
  go_wp2
  obtain ⟨W0, hW0⟩ : ∃ W0 : World, W0 = w.alloc (.cells #[.slice none 0 0] 24) := ⟨_, rfl⟩
  have hs0 : W0.heap.size = w.heap.size + 1 := by rw [hW0]; simp
  have hb0 : Below w.heap.size w W0 := by rw [hW0]; exact below_alloc (Below.refl _ _) _
  have hI0 : ApI w [] W0 := by
    refine ⟨⟨.slice none 0 0, ?_, ⟨rfl, .inl ⟨rfl, rfl⟩⟩, by simp⟩, hb0⟩
    rw [hW0]; exact blk_new w _
  rw [← hW0]
  refine (wpIn_wide (n := 6)).1 ?_
  refine wpIn_rangeFunc_ownF rfl h1 (gf := 64) (lb := #[.pointer (some ⟨Bs, 0, none⟩)]) rfl trivial (enters_of Try.func64 (by kernel_rfl) rfl)
      (values_stops Fence.wide 5 trivial rfl (by omega) Bs m cap A xs hxs hm w HC.out hBs Hc.out) belowK_t (belowK_b (by omega)) hb0 (fun _ => rfl)
      (ApI w) (fun _ _ _ => False) (apI_own w _ (by omega)) (fun _ _ _ _ _ hs _ _ => hs) hI0
      (fun x : Int => { tmps := #[.slice none 0 0, .func (.func 64) #[] #[.pointer (some ⟨Bs, 0, none⟩)], .pointer (some ⟨w.heap.size, 0, none⟩), undef, .slice none 0 0, .int .i64 x, .func (.func 64) #[] #[.pointer (some ⟨Bs, 0, none⟩)], .int .i64 x, undef, undef, undef, undef, undef], defers := [] }) ?assign ?body ?done ?stop
  case assign =>
    intro l_ x W K hK
    gi_wp2
    exact hK
  case body =>
    intro l_ pre x W hI hlt
    obtain ⟨v, hv, ho, hn⟩ := hI.box
    have hd : 1 ≤ 6 - 1 - 1 := by omega
    have e2 : W.cell? ⟨w.heap.size, 0, none⟩ = some v := blk_one_ hv
    have hwl : w.heap.size < W.heap.size := (Array.getElem?_eq_some_iff.1 hv).1
    obtain ⟨i0, hi, hz0, hz1, hz2⟩ := info_three
    have HB := Aside0.mk hI.below
    have HI := Aside0.mk hI
    have HV := Aside0.mk hv
    have HO := Aside0.mk ho
    have hlt' : pre.length < 1000 := by omega
    clear hI hv ho hlt
    have hne : some w.heap.size ≠ v.ownBlock := by
      rcases ownsRow_ne_a HO.out HV.out (fun cur e => by cases e) with e | e
      · rw [e]; simp
      · exact fun e' => e e'.symm
    gi_wp2_with (first
      | (gi_at_builtin; refine wpListIn_append_own _ rfl _ _ 24 rfl w.heap.size 3 i0 (.int .i64 0) 1 8 Try.underlying24 hi hz0 hz1 hz2 rfl (by decide) _ _ _ rfl (HO.out.alloc _) ⟨W.heap.size, 0, none⟩ 1 1 [.int .i64 x] rfl rfl (cell_one_new _ _ _) (by simp [Value.oneCell']) (by unfold maxLen; omega) (by omega) (by simp; omega) ?_; intro v' w3 hown' hg3 hnil3
         have hv3 : w3.heap[w.heap.size]? = some (.cells #[v] 24 (0, 0)) := (hg3.block w.heap.size (by simp; omega) hne).trans ((Below.heap_alloc _ _ w.heap.size hwl).trans HV.out)
         obtain ⟨hc3, hf3⟩ := cell_of_box_a hv3
         obtain ⟨g', cap', rfl⟩ : ∃ g' cap', v' = .slice (some ⟨g', 0, none⟩) (pre.length + 1) cap' := by
           rcases hown'.2 with ⟨_, h0⟩ | ⟨g', cap', cur', h', _⟩
           · exact absurd h0 (by omega)
           · exact ⟨g', cap', h'⟩
         have HO3 := Aside0.mk hown'
         have HG3 := Aside0.mk hg3
         have HV3 := Aside0.mk hv3
         clear hown' hg3 hv3))
    exact apI_step HI.out HO.out HG3.out HO3.out HV3.out
  case done =>
    rintro D ys W hD rfl hI hK
    obtain ⟨v, hv, ho, hn⟩ := hI.box
    have e2 : W.cell? ⟨w.heap.size, 0, none⟩ = some v := blk_one_ hv
    have HB := Aside0.mk hI.below
    have HO := Aside0.mk ho
    have HK := Aside0.mk hK
    have HN := Aside0.mk hn
    clear hI hv ho hK hn
    go_wp2
    refine ⟨by simp, .inl ⟨_, _, rfl, run_takeDeferred HK.out, ?_⟩⟩
    exact ⟨_, results_tmp rfl _ _ _, v, rfl, hxs ▸ HO.out.kept (grownBy_putObj_a _ _ _) (ownsRow_ne_a HO.out HK.out (fun cur e => by cases e)), HN.out, HB.out.grown (grownBy_putObj_a _ _ _) HB.out.size (fun k e => by cases e; omega)⟩
  case stop =>
    rintro D c pre W _ _ h _
    exact h.elim
set_option maxHeartbeats 2000000 in
theorem collect_any (A : Option Addr) (m cap Bs : Nat) (xs : List Int) (hxs : xs.length = m) (hm : m ≤ 1000) (w : World) (hC : Kd.C (Kd.int .i64) w A m xs) (hBs : Bs < w.heap.size) (hc : w.cell? ⟨Bs, 0, none⟩ = some (.slice A m cap)) :
    Calls Try.prog 62 #[.func (.func 64) #[] #[.pointer (some ⟨Bs, 0, none⟩)]] w fun e w' => ∃ v, e = .returned v ∧ w'.ownsRow w.heap.size 3 1 v m (xs.map (Value.int .i64)) ∧ (v = .slice none 0 0 ↔ xs = []) ∧ Below w.heap.size w w' := by
  have h := appendSeq_any A m cap Bs xs hxs hm w hC hBs hc
  clear hC hc
  go_enter Try.func62, Try.ntmps62
  go_wp2_with (go_at_call 68; refine h.mono ?_; rintro e w' ⟨v, rfl, ho, hn, hb⟩)
  go_ret
  exact ⟨v, rfl, ho, hn, hb⟩
/-- The numbers, ascending. -/
def asc (l : List Int) : List Int := l.mergeSort fun x y => decide (x ≤ y)
theorem asc_length (l : List Int) : (asc l).length = l.length := by unfold asc; simp
set_option maxHeartbeats 2000000 in
theorem sorted_any (A : Option Addr) (m cap Bs : Nat) (xs : List Int) (hxs : xs.length = m) (hm : m ≤ 1000) (h0 : 1 ≤ m) (w : World) (hC : Kd.C (Kd.int .i64) w A m xs) (hBs : Bs < w.heap.size) (hc : w.cell? ⟨Bs, 0, none⟩ = some (.slice A m cap)) :
    Calls Try.prog 46 #[.func (.func 64) #[] #[.pointer (some ⟨Bs, 0, none⟩)]] w fun e w' => ∃ g cap', e = .returned (.slice (some ⟨g, 0, none⟩) m cap') ∧ w'.ownsRow w.heap.size 3 1 (.slice (some ⟨g, 0, none⟩) m cap') m ((asc xs).map (Value.int .i64)) ∧ Below w.heap.size w w' := by
  have h := collect_any A m cap Bs xs hxs hm w hC hBs hc
  clear hC hc
  go_enter Try.func46, Try.ntmps46
  go_wp2_with (go_at_call 62; refine h.mono ?_; rintro e w2 ⟨v, rfl, ho, hn, hb⟩
               obtain ⟨g, cap', cur, rfl, hbase, hgb, r1, r2, r3, r4⟩ : ∃ g cap' cur, v = .slice (some ⟨g, 0, none⟩) m cap' ∧ w.heap.size ≤ g ∧ w2.heap[g]? = some (.cells cur 3 (0, 0)) ∧ m ≤ cap' ∧ cap' ≤ maxLen ∧ cur.size = cap' * 1 ∧ cur.toList.take (m * 1) = xs.map (Value.int .i64) := by
                 rcases ho.2 with ⟨_, h'⟩ | h'
                 · omega
                 · exact h'
               clear h)
  have hH : Go.Sort.Holds (Value.int .i64) w2 g 0 xs.toArray := holds_of_blockI hgb (by rw [hxs, ← Nat.mul_one m]; exact r4)
  have hgl : g < w2.heap.size := (Array.getElem?_eq_some_iff.1 hgb).1
  have cS := AnyM.slices_Sort_int laySort g 0 cap' xs w2 hH hgl (by omega)
  rw [hxs] at cS
  change Calls Try.prog 63 _ _ _ at cS
  have HX : Aside0 _ := ⟨ho⟩
  have HG := Aside0.mk hgb
  have HB := Aside0.mk hb
  clear ho hgb hH hb
  go_wp2_with (go_at_call 63; refine cS.mono ?_; rintro e w' ⟨rfl, nn, os, rfl⟩)
  go_ret
  have hl : (asc xs).length = xs.length := asc_length xs
  refine ⟨g, cap', rfl, ?_, HB.out.grown (grownBy_sortedI _) HB.out.size (fun j hj => by cases hj; exact hbase)⟩
  have := ownsRow_sortedI (n := nn) (os := os) hl hbase HG.out (by omega) r2 r3
  rw [hxs] at this
  exact this
end Go.Proofs.Ytcgjgpdandjicaa.B
namespace Go.Proofs.Ytcgjgpdandjicaa.B
open Go.RowKit Go.Proofs.YtcgjgpdandjicaaW.PrintWords Go.Proofs.YtcgjgpdandjicaaW.PrintLast Go.Proofs.YtcgjgpdandjicaaW.PrintMore
open Go.Proofs.Ytcgjgpdandjicaa.Smp
set_option linter.unusedVariables false
set_option linter.unusedSimpArgs false
theorem asc_sorted (l : List Int) : (asc l).Pairwise (fun a b => decide (a ≤ b) = true) := by
  unfold asc
  refine List.pairwise_mergeSort (le := fun x y => decide (x ≤ y)) (fun a b c h1 h2 => ?_) (fun a b => ?_) l
  · exact decide_eq_true (Int.le_trans (of_decide_eq_true h1) (of_decide_eq_true h2))
  · rcases Int.le_total a b with h | h
    · rw [decide_eq_true h]; rfl
    · rw [decide_eq_true h, Bool.or_true]
end Go.Proofs.Ytcgjgpdandjicaa.B
namespace Go.Proofs.Ytcgjgpdandjicaa.B
open Go.RowKit Go.Proofs.YtcgjgpdandjicaaW.PrintWords Go.Proofs.YtcgjgpdandjicaaW.PrintLast Go.Proofs.YtcgjgpdandjicaaW.PrintMore
set_option linter.unusedVariables false
set_option linter.unusedSimpArgs false
/-- The number of subsets of k elements among n. -/
def bin : Nat → Nat → Nat
  | _, 0 => 1
  | 0, _ + 1 => 0
  | n + 1, k + 1 => bin n k + bin n (k + 1)
/-- The sum of the first j of them. -/
def tsum (n : Nat) : Nat → Nat
  | 0 => 0
  | j + 1 => tsum n j + bin n j
theorem bin_zero (n : Nat) : bin n 0 = 1 := by cases n <;> rfl
theorem bin_gt : ∀ (n k : Nat), n < k → bin n k = 0
  | 0, k + 1, _ => rfl
  | n + 1, k + 1, h => by rw [bin, bin_gt n k (by omega), bin_gt n (k + 1) (by omega)]
theorem bin_self : ∀ n, bin n n = 1
  | 0 => rfl
  | n + 1 => by rw [bin, bin_self n, bin_gt n (n + 1) (by omega)]
theorem bin_le : ∀ (n k : Nat), bin n k ≤ 2 ^ n
  | n, 0 => by rw [bin_zero]; exact Nat.two_pow_pos n
  | 0, k + 1 => by rw [bin]; exact Nat.zero_le _
  | n + 1, k + 1 => by
    have h1 := bin_le n k
    have h2 := bin_le n (k + 1)
    rw [bin, Nat.pow_succ]; omega
theorem tsum_zero : ∀ j, tsum 0 (j + 1) = 1
  | 0 => rfl
  | j + 1 => by rw [tsum, tsum_zero j, bin_gt 0 (j + 1) (by omega)]
theorem tsum_succ (n : Nat) : ∀ j, tsum (n + 1) (j + 1) = tsum n (j + 1) + tsum n j
  | 0 => by simp [tsum, bin_zero]
  | j + 1 => by
    have h := tsum_succ n j
    rw [tsum, h, bin]
    simp only [tsum]; omega
theorem tsum_all : ∀ n, tsum n (n + 1) = 2 ^ n
  | 0 => rfl
  | n + 1 => by
    have h := tsum_all n
    rw [tsum_succ, tsum, bin_gt n (n + 1) (by omega), h, Nat.pow_succ]; omega
theorem tsum_le : ∀ (n j : Nat), tsum n j ≤ 2 ^ n
  | n, 0 => by rw [tsum]; exact Nat.zero_le _
  | 0, j + 1 => by rw [tsum_zero]; decide
  | n + 1, j + 1 => by
    have h1 := tsum_le n j
    have h2 := tsum_le n (j + 1)
    rw [tsum_succ, Nat.pow_succ]; omega
theorem tsum_mono (n : Nat) {i j : Nat} (h : i ≤ j) : tsum n i ≤ tsum n j := by
  induction j with
  | zero => obtain rfl : i = 0 := by omega
            exact Nat.le_refl _
  | succ j ih =>
    by_cases e : i = j + 1
    · rw [e]; exact Nat.le_refl _
    · have := ih (by omega)
      rw [tsum]; omega
/-- At most i - 1 heads, or at most n - i tails. -/
theorem tsum_both : ∀ (n j i : Nat), j + i = n + 1 → tsum n j + tsum n i = 2 ^ n
  | n, 0, i, h => by
    obtain rfl : i = n + 1 := by omega
    rw [tsum_all, tsum]; omega
  | n, j + 1, 0, h => by
    obtain rfl : j = n := by omega
    rw [tsum_all, tsum]
    omega
  | 0, j + 1, i + 1, h => by omega
  | n + 1, j + 1, i + 1, h => by
    have h1 := tsum_both n j (i + 1) (by omega)
    have h2 := tsum_both n (j + 1) i (by omega)
    rw [tsum_succ, tsum_succ, Nat.pow_succ]; omega
/-- The row of the numbers of subsets. -/
def prow (n : Nat) : List Int := (List.range (n + 1)).map fun j => (bin n j : Int)
theorem prow_length (n : Nat) : (prow n).length = n + 1 := by simp [prow]
theorem prow_rd (n j : Nat) (h : j ≤ n) : rd (prow n) (j : Int) = (bin n j : Int) := by
  have : j < n + 1 := by omega
  unfold rd prow; simp [this]
/-- The next row, of which the first i elements are done. -/
def mid (n i : Nat) : List Int := (List.range (n + 2)).map fun j => if j < i then (bin (n + 1) j : Int) else if j = i then (if i = 0 then 0 else (bin n (i - 1) : Int)) else 0
theorem mid_length (n i : Nat) : (mid n i).length = n + 2 := by simp [mid]
theorem mid_rd (n i j : Nat) (h : j < n + 2) : rd (mid n i) (j : Int) = if j < i then (bin (n + 1) j : Int) else if j = i then (if i = 0 then 0 else (bin n (i - 1) : Int)) else 0 := by
  unfold rd mid; simp [h]
theorem mid_zero (n : Nat) : mid n 0 = List.replicate (n + 2) 0 := by
  apply List.ext_getElem
  · simp [mid]
  · intro j h1 h2
    simp [mid]
theorem mid_all (n : Nat) : mid n (n + 1) = prow (n + 1) := by
  apply List.ext_getElem
  · simp [mid, prow]
  · intro j h1 h2
    rw [mid_length] at h1
    simp only [mid, prow, List.getElem_map, List.getElem_range]
    by_cases h : j < n + 1
    · rw [if_pos h]
    · obtain rfl : j = n + 1 := by omega
      rw [if_neg (by omega), if_pos rfl, if_neg (by omega), bin_self, Nat.add_sub_cancel, bin_self]
theorem wrap_bin {n : Nat} (hn : n ≤ 59) (a b : Nat) (ha : a ≤ 2 ^ n) (hb : b ≤ 2 ^ n) : wrap64 ((a : Int) + (b : Int)) = ((a + b : Nat) : Int) := by
  have : 2 ^ n ≤ 2 ^ 59 := Nat.pow_le_pow_right (by decide) hn
  have e : (2 : Nat) ^ 59 = 576460752303423488 := by decide
  unfold wrap64; omega
theorem mid_step (n i : Nat) (hn : n ≤ 59) (hi : i ≤ n) :
    ((mid n i).set i (wrap64 (rd (mid n i) (i : Int) + rd (prow n) (i : Int)))).set (i + 1) (wrap64 (rd ((mid n i).set i (wrap64 (rd (mid n i) (i : Int) + rd (prow n) (i : Int)))) ((i + 1 : Nat) : Int) + rd (prow n) (i : Int))) = mid n (i + 1) := by
  have b0 := bin_le n i
  have e0 : rd (mid n i) (i : Int) = if i = 0 then 0 else (bin n (i - 1) : Int) := by
    rw [mid_rd n i i (by omega), if_neg (by omega), if_pos rfl]
  have e1 : wrap64 (rd (mid n i) (i : Int) + rd (prow n) (i : Int)) = (bin (n + 1) i : Int) := by
    rw [e0, prow_rd n i hi]
    cases i with
    | zero => rw [if_pos rfl, bin_zero, bin_zero]; unfold wrap64; omega
    | succ i =>
      rw [if_neg (by omega), Nat.add_sub_cancel, wrap_bin hn _ _ (bin_le n i) b0, bin]
  rw [e1]
  have e2 : rd ((mid n i).set i (bin (n + 1) i : Int)) ((i + 1 : Nat) : Int) = 0 := by
    have h := mid_rd n i (i + 1) (by omega)
    rw [if_neg (by omega), if_neg (by omega)] at h
    unfold rd at h ⊢
    simp only [Int.toNat_natCast] at h ⊢
    rw [List.getD_eq_getElem?_getD] at h ⊢
    rw [List.getElem?_set_ne (by omega)]
    exact h
  rw [e2, prow_rd n i hi]
  have e3 : wrap64 ((0 : Int) + (bin n i : Int)) = (bin n i : Int) := by
    have := wrap_bin hn 0 (bin n i) (Nat.zero_le _) b0
    simpa using this
  rw [e3]
  apply List.ext_getElem
  · simp [mid_length]
  · intro j h1 h2
    rw [mid_length] at h2
    rw [List.getElem_set]
    by_cases h : i + 1 = j
    · subst h
      rw [if_pos rfl]
      simp only [mid, List.getElem_map, List.getElem_range]
      rw [if_neg (by omega)]
      simp
    · rw [if_neg h, List.getElem_set]
      by_cases h3 : i = j
      · subst h3
        rw [if_pos rfl]
        simp only [mid, List.getElem_map, List.getElem_range]
        rw [if_pos (by omega)]
      · rw [if_neg h3]
        simp only [mid, List.getElem_map, List.getElem_range]
        by_cases h4 : j < i
        · rw [if_pos h4, if_pos (by omega)]
        · rw [if_neg h4, if_neg (by omega), if_neg (by omega), if_neg (by omega)]

theorem choose_l1 (n : Nat) (hn : n ≤ 59) (x0 x1 x21 : Int) (r : Option (Int × Int)) (K : Nat) (hK : ∀ k, K ≤ k → sampling_Choose.l0 k x1 (prow (n + 1)) x0 (wrap64 (x21 + 1)) = r) : ∀ (d k i : Nat), i + d = n + 1 → K + d < k →
    sampling_Choose.l1 k x1 (mid n i) x0 x21 (prow n) ((n + 1 : Nat) : Int) (i : Int) = r := by
  intro d
  induction d with
  | zero =>
    intro k i hd hk
    obtain ⟨k, rfl⟩ : ∃ m, k = m + 1 := ⟨k - 1, by omega⟩
    obtain rfl : i = n + 1 := by omega
    simp only [sampling_Choose.l1]
    rw [if_neg (by omega), mid_all]
    exact hK k (by omega)
  | succ d ih =>
    intro k i hd hk
    obtain ⟨k, rfl⟩ : ∃ m, k = m + 1 := ⟨k - 1, by omega⟩
    have hi : i ≤ n := by omega
    have hw : wrap64 ((i : Int) + 1) = ((i + 1 : Nat) : Int) := by unfold wrap64; omega
    have hs := mid_step n i hn hi
    have ih' := ih k (i + 1) (by omega) (by omega)
    rw [← hs] at ih'
    simp only [sampling_Choose.l1]
    rw [hw, mid_length, prow_length]
    rw [if_pos (by omega), if_pos (by omega), if_pos (by omega), if_pos (by omega)]
    refine Eq.trans (Option.bind_some _ _) ?_
    try dsimp only
    rw [if_pos (by omega), if_pos (by omega)]
    exact ih'
theorem choose_l0 (N j : Nat) (hN : N ≤ 60) (hj : j ≤ N) : ∀ (d n : Nat), n + d = N → ∃ K, ∀ k, K ≤ k → sampling_Choose.l0 k (j : Int) (prow n) (N : Int) (n : Int) = some ((bin N j : Int), 0) := by
  intro d
  induction d with
  | zero =>
    intro n hd
    refine ⟨1, fun k hk => ?_⟩
    obtain ⟨k, rfl⟩ : ∃ m, k = m + 1 := ⟨k - 1, by omega⟩
    obtain rfl : n = N := by omega
    simp only [sampling_Choose.l0]
    rw [if_neg (by omega), if_pos (by omega), prow_length, if_pos (by omega), prow_rd n j hj]
  | succ d ih =>
    intro n hd
    obtain ⟨K, hK⟩ := ih (n + 1) (by omega)
    refine ⟨K + n + 5, fun k hk => ?_⟩
    obtain ⟨k, rfl⟩ : ∃ m, k = m + 1 := ⟨k - 1, by omega⟩
    have hw : wrap64 (((n + 1 : Nat) : Int) + 1) = ((n + 2 : Nat) : Int) := by unfold wrap64; omega
    have hw2 : wrap64 ((n : Int) + 1) = ((n + 1 : Nat) : Int) := by unfold wrap64; omega
    simp only [sampling_Choose.l0]
    rw [if_pos (by omega), prow_length, hw, if_pos (by omega)]
    simp only [Int.toNat_natCast]
    rw [if_pos (by omega), ← mid_zero]
    refine choose_l1 n (by omega) (N : Int) (j : Int) (n : Int) _ K (fun k hk => ?_) (n + 1) k 0 (by omega) (by omega)
    rw [hw2]
    exact hK k hk

theorem swithin_eq (a lo hi : Int) : sampling_within.f a lo hi = some (decide (lo ≤ a ∧ a ≤ hi)) := by
  unfold sampling_within.f
  split <;> simp [*]
/-- What Choose answers. -/
def chooseR (n k : Int) : Int × Int := if 0 ≤ n ∧ n ≤ 60 ∧ 0 ≤ k ∧ k ≤ n then ((bin n.toNat k.toNat : Int), 0) else (0, 1)
theorem choose_some (n k : Int) : ∃ K, ∀ m, K ≤ m → sampling_Choose.f m n k = some (chooseR n k) := by
  unfold sampling_Choose.f chooseR
  simp only [swithin_eq, Option.bind_some]
  by_cases h : 0 ≤ n ∧ n ≤ 60
  · by_cases h2 : 0 ≤ k ∧ k ≤ n
    · obtain ⟨N, rfl⟩ : ∃ N : Nat, n = N := ⟨n.toNat, by omega⟩
      obtain ⟨j, rfl⟩ : ∃ j : Nat, k = j := ⟨k.toNat, by omega⟩
      obtain ⟨K, hK⟩ := choose_l0 N j (by omega) (by omega) N 0 (by omega)
      refine ⟨K + 1, fun m hm => ?_⟩
      obtain ⟨m, rfl⟩ : ∃ q, m = q + 1 := ⟨m - 1, by omega⟩
      rw [if_pos (decide_eq_true h), decide_eq_true h2, if_pos ⟨h.1, h.2, h2.1, h2.2⟩]
      simp only [sampling_Choose.j0]
      rw [if_neg (by simp)]
      exact hK m (by omega)
    · refine ⟨1, fun m hm => ?_⟩
      obtain ⟨m, rfl⟩ : ∃ q, m = q + 1 := ⟨m - 1, by omega⟩
      rw [if_pos (decide_eq_true h), decide_eq_false h2, if_neg (by omega)]
      simp [sampling_Choose.j0]
  · refine ⟨1, fun m hm => ?_⟩
    obtain ⟨m, rfl⟩ : ∃ q, m = q + 1 := ⟨m - 1, by omega⟩
    rw [decide_eq_false h, if_neg (by simp), if_neg (by omega)]
    simp [sampling_Choose.j0]
end Go.Proofs.Ytcgjgpdandjicaa.B
namespace Go.Proofs.Ytcgjgpdandjicaa.B
open Go.RowKit Go.Proofs.YtcgjgpdandjicaaW.PrintWords Go.Proofs.YtcgjgpdandjicaaW.PrintLast Go.Proofs.YtcgjgpdandjicaaW.PrintMore
set_option linter.unusedVariables false
set_option linter.unusedSimpArgs false
theorem two_pow_le {m : Nat} (h : m ≤ 50) : 1 ≤ 2 ^ m ∧ 2 ^ m ≤ 1125899906842624 := by
  have h1 : 2 ^ m ≤ 2 ^ 50 := Nat.pow_le_pow_right (by decide) h
  have h2 : (2 : Nat) ^ 50 = 1125899906842624 := by decide
  have h3 := Nat.two_pow_pos m
  omega
theorem shl_one (m M : Nat) (hm : m ≤ 50) (hM : 2 ^ m = M) (hM2 : M ≤ 1125899906842624) : shl .i64 1 (m : Int) = (M : Int) := by
  unfold shl
  rw [show ((m : Int).toNat) = m from rfl, show IntKind.bits .i64 = 64 from rfl, Nat.min_eq_left (by omega), Int.one_mul, show ((2 : Int) ^ m) = ((2 ^ m : Nat) : Int) by rw [Int.natCast_pow]; rfl, hM, IntKind.wrap_i64]
  omega
/-- How many numbers of subsets Tail adds up. -/
def tailN (n k : Int) : Nat := if k < 0 then 0 else if k < n then k.toNat + 1 else n.toNat + 1
/-- What Tail answers. -/
def tailR (n k : Int) : Int × Int × Int := if 0 ≤ n ∧ n ≤ 50 then red (tsum n.toNat (tailN n k) : Int) ((2 ^ n.toNat : Nat) : Int) else (0, 0, 1)
theorem tail_cond (m i : Nat) (k : Int) : (i : Int) ≤ mn k (m : Int) ↔ i < tailN m k := by
  unfold mn tailN
  repeat' split
  all_goals omega
theorem refred_some (a b : Int) : ∃ K, ∀ k, K ≤ k → synopticref38_ReduceP.f k a b = some (red a b) := by
  obtain ⟨K, h⟩ := red_some a b
  exact ⟨K, fun k hk => by rw [ref_red, h k hk]⟩
theorem tail_add (m i : Nat) (hm : m ≤ 50) : wrap64 ((tsum m i : Int) + (bin m i : Int)) = (tsum m (i + 1) : Int) := by
  have h1 := tsum_le m i
  have h2 := bin_le m i
  have h3 := two_pow_le hm
  rw [tsum]
  unfold wrap64; omega
theorem tailN_le (m : Nat) (k : Int) : tailN m k ≤ m + 1 := by
  unfold tailN
  repeat' split
  all_goals omega
theorem chooseR_at (m i : Nat) (hm : m ≤ 50) (hi : i ≤ m) : chooseR (m : Int) (i : Int) = ((bin m i : Int), 0) := by
  unfold chooseR
  rw [if_pos (by omega)]; rfl
theorem tail_l0 (m : Nat) (hm : m ≤ 50) (x1 : Int) : ∀ (d i : Nat), i + d = tailN m x1 → ∃ K, ∀ k, K ≤ k → sampling_Tail.l0 k (m : Int) x1 (tsum m i : Int) (i : Int) = some (red (tsum m (tailN m x1) : Int) ((2 ^ m : Nat) : Int)) := by
  intro d
  induction d with
  | zero =>
    intro i hd
    refine ⟨1, fun k hk => ?_⟩
    obtain ⟨k, rfl⟩ : ∃ q, k = q + 1 := ⟨k - 1, by omega⟩
    obtain rfl : i = tailN m x1 := by omega
    simp only [sampling_Tail.l0]
    rw [if_neg (by rw [tail_cond]; omega), if_pos (by omega), shl_one m _ hm rfl (two_pow_le hm).2]
    rfl
  | succ d ih =>
    intro i hd
    have hN := tailN_le m x1
    obtain ⟨K1, h1⟩ := ih (i + 1) (by omega)
    obtain ⟨K2, h2⟩ := choose_some (m : Int) (i : Int)
    refine ⟨K1 + K2 + 1, fun k hk => ?_⟩
    obtain ⟨k, rfl⟩ : ∃ q, k = q + 1 := ⟨k - 1, by omega⟩
    have hw : wrap64 ((i : Int) + 1) = ((i + 1 : Nat) : Int) := by unfold wrap64; omega
    simp only [sampling_Tail.l0]
    rw [if_pos ((tail_cond m i x1).2 (by omega)), h2 k (by omega), chooseR_at m i hm (by omega)]
    refine Eq.trans (Option.bind_some _ _) ?_
    try dsimp only
    rw [tail_add m i hm, hw]
    exact h1 k (by omega)
theorem tail_some (n k : Int) : ∃ K, ∀ m, K ≤ m → sampling_Tail.f m n k = some (tailR n k) := by
  unfold sampling_Tail.f tailR
  simp only [swithin_eq, Option.bind_some]
  by_cases h : 0 ≤ n ∧ n ≤ 50
  · obtain ⟨N, rfl⟩ : ∃ N : Nat, n = N := ⟨n.toNat, by omega⟩
    obtain ⟨K, hK⟩ := tail_l0 N (by omega) k (tailN N k) 0 (by omega)
    refine ⟨K, fun m hm => ?_⟩
    rw [if_pos (decide_eq_true h), if_pos h]
    exact hK m hm
  · refine ⟨0, fun m hm => ?_⟩
    rw [decide_eq_false h, if_neg (by simp), if_neg h]
/-- Is a level a reduced fraction from 0 to 1? -/
def reducedB (a b : Int) : Bool := decide (1 ≤ b ∧ b ≤ 1000000) && (decide (0 ≤ a ∧ a ≤ b) && ((red a b).1 == a && (red a b).2.1 == b))
theorem red_ok {a b : Int} (hb : 1 ≤ b ∧ b ≤ 1000000) (ha : 0 ≤ a ∧ a ≤ b) : (red a b).2.2 = 0 := by
  obtain ⟨g, x, y, e, _⟩ := red_pos a b (by unfold In60; omega) (by omega)
  rw [e]
theorem reduced_some (a b : Int) : sampling_reduced.f a b = some (reducedB a b) := by
  unfold sampling_reduced.f reducedB
  simp only [swithin_eq, Option.bind_some, score_Reduce.f]
  by_cases hb : 1 ≤ b ∧ b ≤ 1000000
  · rw [if_pos (decide_eq_true hb), decide_eq_true hb]
    by_cases ha : 0 ≤ a ∧ a ≤ b
    · rw [if_pos (decide_eq_true ha), decide_eq_true ha, if_pos (red_ok hb ha)]
      simp
    · rw [if_neg (by simp; omega), decide_eq_false ha]
      simp
  · rw [if_neg (by simp; omega), decide_eq_false hb]
    simp
/-- Is the tail small enough? -/
def smallB (n : Nat) (a b : Int) (j : Nat) : Bool := decide ((tsum n (j + 1) : Int) * (2 * b) ≤ (b - a) * ((2 ^ n : Nat) : Int))
/-- How many tails are small enough: the rank. -/
def rk (n : Nat) (a b : Int) : Nat := (List.range (n + 1)).countP (smallB n a b)
theorem down_count (p : Nat → Bool) (hp : ∀ i j, i ≤ j → p j = true → p i = true) : ∀ (m j : Nat), j < m → (p j = true ↔ j < (List.range m).countP p) := by
  intro m
  induction m with
  | zero => intro j h; omega
  | succ m ih =>
    intro j h
    have hle := List.countP_le_length (p := p) (l := List.range m)
    rw [List.length_range] at hle
    rw [List.range_succ, List.countP_append, List.countP_singleton]
    by_cases hm : p m = true
    · have hall : m ≤ (List.range m).countP p := by
        cases m with
        | zero => omega
        | succ m => have := (ih m (by omega)).1 (hp m (m + 1) (by omega) hm); omega
      rw [if_pos hm]
      exact ⟨fun _ => by omega, fun _ => hp j m (by omega) hm⟩
    · rw [if_neg hm, Nat.add_zero]
      by_cases e : j = m
      · subst e; exact ⟨fun h => absurd h hm, fun h => by omega⟩
      · exact ih j (by omega)
theorem small_down (n : Nat) (a b : Int) (hb : 1 ≤ b) (i j : Nat) (h : i ≤ j) (hj : smallB n a b j = true) : smallB n a b i = true := by
  unfold smallB at hj ⊢
  have h1 := tsum_mono n (show i + 1 ≤ j + 1 by omega)
  have h2 : (tsum n (i + 1) : Int) * (2 * b) ≤ (tsum n (j + 1) : Int) * (2 * b) := Int.mul_le_mul_of_nonneg_right (by omega) (by omega)
  have h3 := of_decide_eq_true hj
  exact decide_eq_true (Int.le_trans h2 h3)
theorem small_rk (n : Nat) (a b : Int) (hb : 1 ≤ b) (j : Nat) (h : j ≤ n) : smallB n a b j = true ↔ j < rk n a b :=
  down_count _ (small_down n a b hb) (n + 1) j (by omega)
theorem rk_le (n : Nat) (a b : Int) (hb : 1 ≤ b) (ha : 0 ≤ a) : rk n a b ≤ n := by
  have h := small_rk n a b hb n (Nat.le_refl _)
  have hle := List.countP_le_length (p := smallB n a b) (l := List.range (n + 1))
  rw [List.length_range] at hle
  have : ¬ smallB n a b n = true := by
    unfold smallB
    rw [tsum_all, decide_eq_true_eq]
    have hp : (1 : Int) ≤ ((2 ^ n : Nat) : Int) := by have := Nat.two_pow_pos n; omega
    generalize ((2 ^ n : Nat) : Int) = M at hp ⊢
    rw [Int.mul_comm M]
    have : (b - a) * M < 2 * b * M := Int.mul_lt_mul_of_pos_right (by omega) (by omega)
    omega
  rw [h] at this
  omega
/-- What Ranks answers. -/
def rankR (n a b : Int) : Int × Int := if (0 ≤ n ∧ n ≤ 50) ∧ reducedB a b = true then ((rk n.toNat a b : Int), 0) else (0, 1)
theorem tailR_at (n : Nat) (hn : n ≤ 50) (j : Nat) (hj : j ≤ n) : ∃ g x y : Int, tailR (n : Int) (j : Int) = (x, y, 0) ∧ 0 < g ∧ (tsum n (j + 1) : Int) = g * x ∧ ((2 ^ n : Nat) : Int) = g * y ∧ 1 ≤ y ∧ y ≤ 1125899906842624 ∧ 0 ≤ x ∧ x ≤ 1125899906842624 := by
  have h2 := two_pow_le hn
  have h3 := tsum_le n (j + 1)
  have e : tailN (n : Int) (j : Int) = j + 1 := by
    unfold tailN
    repeat' split
    all_goals omega
  obtain ⟨g, x, y, hr, hg, hx, hy, hy1, hy2, hx2, _⟩ := red_pos (tsum n (j + 1) : Int) ((2 ^ n : Nat) : Int) (by unfold In60; omega) (by omega)
  have hx0 : 0 ≤ x := by
    rcases Int.lt_or_le x 0 with h | h
    · have := Int.mul_neg_of_pos_of_neg hg h
      omega
    · exact h
  have hgx : x ≤ g * x := by
    have := Int.mul_le_mul_of_nonneg_right (show 1 ≤ g by omega) hx0
    omega
  have hgy : y ≤ g * y := by
    have := Int.mul_le_mul_of_nonneg_right (show 1 ≤ g by omega) (show 0 ≤ y by omega)
    omega
  refine ⟨g, x, y, ?_, hg, hx, hy, hy1, by omega, hx0, by omega⟩
  unfold tailR
  rw [if_pos (by omega), e]
  exact hr
theorem cmpI_pos {a b : Int} : cmpI a b > 0 ↔ b < a := by
  unfold cmpI
  repeat' split
  all_goals omega
theorem cmpI_le0 {a b : Int} : cmpI a b ≤ 0 ↔ a ≤ b := by
  unfold cmpI
  repeat' split
  all_goals omega
theorem ranks_cmp (n : Nat) (hn : n ≤ 50) (a b : Int) (hb : 1 ≤ b ∧ b ≤ 1000000) (ha : 0 ≤ a ∧ a ≤ b) (j : Nat) (g x y : Int) (hg : 0 < g) (hx : (tsum n (j + 1) : Int) = g * x) (hy : ((2 ^ n : Nat) : Int) = g * y) :
    smallB n a b j = true ↔ x * (2 * b) ≤ (b - a) * y := by
  unfold smallB
  rw [decide_eq_true_eq, hx, hy]
  have e1 : g * x * (2 * b) = g * (x * (2 * b)) := Int.mul_assoc ..
  have e2 : (b - a) * (g * y) = g * ((b - a) * y) := by rw [Int.mul_left_comm]
  rw [e1, e2]
  exact ⟨fun h => Int.le_of_mul_le_mul_left h hg, fun h => Int.mul_le_mul_of_nonneg_left h (by omega)⟩
theorem le60 {x : Int} (h : x ≤ 1125899906842624) : x ≤ 1152921504606846976 := Int.le_trans h (by decide)
theorem le60' {x : Int} (h : x ≤ 1125899906842624) : 2 * x ≤ 1152921504606846976 := Int.le_trans (Int.mul_le_mul_of_nonneg_left h (by decide)) (by decide)
/-- What the tail of rank j is, and that it is small enough just below the rank. -/
def StepAt (n : Nat) (a b : Int) (R j : Nat) : Prop := ∃ x y : Int, tailR (n : Int) (j : Int) = (x, y, 0) ∧ (∃ t, score_Compare.f x y (b - a) (2 * b) = some t ∧ (t ≤ 0 ↔ j < R)) ∧ True
theorem step_at (n : Nat) (hn : n ≤ 50) (a b : Int) (hb : 1 ≤ b ∧ b ≤ 1000000) (ha : 0 ≤ a ∧ a ≤ b) (j : Nat) (hj : j ≤ n) : StepAt n a b (rk n a b) j := by
  obtain ⟨g, x, y, ht, hg, hx, hy, hy1, hy2, hx0, hx2⟩ := tailR_at n hn j hj
  have hc := (ranks_cmp n hn a b hb ha j g x y hg hx hy).symm.trans (small_rk n a b hb.1 j hj)
  have hba : 0 ≤ b - a ∧ b - a ≤ 1000000 := by clear hy2 hx2 hx hy hc; omega
  have h2b : 1 ≤ 2 * b ∧ 2 * b ≤ 1152921504606846976 := by clear hy2 hx2 hx hy hc; omega
  have hl := le60 hx2
  have hl2 := le60' hx2
  have hly := le60 hy2
  have hw : wrap64 (2 * x) = 2 * x := wrap_id (Int.le_trans (by decide) (Int.mul_nonneg (by decide) hx0)) (Int.le_trans hl2 (by decide))
  have hw2 : wrap64 (b - a) = b - a := wrap_id (Int.le_trans (by decide) hba.1) (Int.le_trans hba.2 (by decide))
  refine ⟨x, y, ht, ⟨_, ?_, cmpI_le0.trans hc⟩, trivial⟩
  · unfold score_Compare.f
    rw [if_pos ⟨⟨Int.le_trans (by decide) hx0, hl⟩, ⟨hy1, hly⟩, ⟨Int.le_trans (by decide) hba.1, Int.le_trans hba.2 (by decide)⟩, h2b⟩]
theorem ranks_l0 (n : Nat) (hn : n ≤ 50) (a b : Int) (hb : 1 ≤ b ∧ b ≤ 1000000) (ha : 0 ≤ a ∧ a ≤ b) (R : Nat) (hr : R ≤ n) (hst : ∀ j, j ≤ n → StepAt n a b R j) : ∀ (d j : Nat), j + d = n + 1 → ∃ K, ∀ k, K ≤ k →
    sampling_Ranks.l0 k (n : Int) ((min j (R) : Nat) : Int) ((j : Int) + 1) (b - a) (2 * b) = some ((R : Int), 0) := by
  intro d
  induction d with
  | zero =>
    intro j hd
    refine ⟨1, fun k hk => ?_⟩
    obtain ⟨k, rfl⟩ : ∃ q, k = q + 1 := ⟨k - 1, by omega⟩
    have hcond : ¬ (j : Int) + 1 ≤ (n : Int) + 1 := by omega
    have hmin : min j R = R := Nat.min_eq_right (by omega)
    have hw : wrap64 ((n : Int) + 1) = (n : Int) + 1 := by unfold wrap64; omega
    simp only [sampling_Ranks.l0]
    rw [hw, if_neg hcond, hmin]
  | succ d ih =>
    intro j hd
    obtain ⟨K1, h1⟩ := ih (j + 1) (by omega)
    obtain ⟨K2, h2⟩ := tail_some (n : Int) (j : Int)
    obtain ⟨x, y, ht, ⟨t, hcmp, hc⟩, _⟩ := hst j (by omega)
    refine ⟨K1 + K2 + 1, fun k hk => ?_⟩
    obtain ⟨k, rfl⟩ : ∃ q, k = q + 1 := ⟨k - 1, by omega⟩
    have hcond : (j : Int) + 1 ≤ (n : Int) + 1 := by omega
    have h1k := h1 k (by omega)
    have h2k := h2 k (by omega)
    have hj1 : ((j : Int) + 1) = ((j + 1 : Nat) : Int) := by omega
    have hm1 : j < R → min (j + 1) R = j + 1 := fun h => Nat.min_eq_left h
    have hm2 : ¬ j < R → min (j + 1) R = R := fun h => Nat.min_eq_right (by omega)
    have hm3 : ¬ j < R → min j R = R := fun h => Nat.min_eq_right (by omega)
    have hw : wrap64 ((n : Int) + 1) = (n : Int) + 1 := by unfold wrap64; omega
    have hw2 : wrap64 ((j : Int) + 1 - 1) = (j : Int) := by unfold wrap64; omega
    have hw3 : wrap64 ((j : Int) + 1 + 1) = ((j + 1 : Nat) : Int) + 1 := by unfold wrap64; omega
    simp only [sampling_Ranks.l0]
    rw [hw, if_pos hcond, hw2, h2k, ht]
    refine Eq.trans (Option.bind_some _ _) ?_
    try dsimp only
    rw [if_pos rfl, hcmp]
    refine Eq.trans (Option.bind_some _ _) ?_
    try dsimp only
    rw [hw3]
    by_cases hp : t ≤ 0
    · have hj : j < R := hc.1 hp
      rw [if_pos hp]
      rw [hm1 hj] at h1k
      rw [hj1]
      exact h1k
    · have hj : ¬ j < R := fun h => hp (hc.2 h)
      rw [if_neg hp]
      rw [hm2 hj] at h1k
      rw [hm3 hj]
      exact h1k
theorem ranks_some (n a b : Int) : ∃ K, ∀ k, K ≤ k → sampling_Ranks.f k n a b = some (rankR n a b) := by
  unfold sampling_Ranks.f rankR
  simp only [swithin_eq, Option.bind_some, reduced_some]
  by_cases h : 0 ≤ n ∧ n ≤ 50
  · by_cases hr : reducedB a b = true
    · obtain ⟨N, rfl⟩ : ∃ N : Nat, n = N := ⟨n.toNat, by omega⟩
      have hr' := hr
      unfold reducedB at hr'
      simp only [Bool.and_eq_true, decide_eq_true_eq] at hr'
      obtain ⟨hb, ha, _⟩ := hr'
      obtain ⟨K, hK⟩ := ranks_l0 N (by omega) a b hb ha (rk N a b) (rk_le N a b hb.1 ha.1) (step_at N (by omega) a b hb ha) (N + 1) 0 (by omega)
      refine ⟨K + 1, fun k hk => ?_⟩
      obtain ⟨k, rfl⟩ : ∃ q, k = q + 1 := ⟨k - 1, by omega⟩
      rw [if_pos (decide_eq_true h), if_pos ⟨h, hr⟩, hr]
      simp only [sampling_Ranks.j0]
      rw [if_neg (by simp), show wrap64 (b - a) = b - a by unfold wrap64; omega, show wrap64 (2 * b) = 2 * b by unfold wrap64; omega]
      have := hK k (by omega)
      rw [Nat.zero_min] at this
      exact this
    · refine ⟨1, fun k hk => ?_⟩
      obtain ⟨k, rfl⟩ : ∃ q, k = q + 1 := ⟨k - 1, by omega⟩
      rw [if_pos (decide_eq_true h), if_neg (fun q => hr q.2), Bool.eq_false_iff.mpr hr]
      simp [sampling_Ranks.j0]
  · refine ⟨1, fun k hk => ?_⟩
    obtain ⟨k, rfl⟩ : ∃ q, k = q + 1 := ⟨k - 1, by omega⟩
    rw [decide_eq_false h, if_neg (by simp), if_neg (fun q => h q.1)]
    simp [sampling_Ranks.j0]
end Go.Proofs.Ytcgjgpdandjicaa.B
namespace Go.Proofs.Ytcgjgpdandjicaa.B
open Go.RowKit Go.Shelf Go.Proofs.YtcgjgpdandjicaaW.PrintWords Go.Proofs.YtcgjgpdandjicaaW.PrintLast Go.Proofs.YtcgjgpdandjicaaW.PrintMore
open Go.Proofs.Ytcgjgpdandjicaa.Smp
set_option linter.unusedVariables false
set_option linter.unusedSimpArgs false
/-- What Median answers. -/
def medR (l : List Int) (a b : Int) : Int × Int × Int :=
  if 50 < l.length then (0, 0, 1) else if outB l = true then (0, 0, 1)
  else if (rankR l.length a b).2 = 0 then (if (rankR l.length a b).1 = 0 then (0, 0, 9) else (rd (asc l) ((rankR l.length a b).1 - 1), rd (asc l) ((l.length : Int) - (rankR l.length a b).1), 0))
  else (0, 0, (rankR l.length a b).2)
theorem ranks_any (n a b : Int) (r : Int × Int) (hr : rankR n a b = r) (w : World) : Calls Try.prog 27 #[.int .i64 n, .agg #[.int .i64 a, .int .i64 b]] w fun e w' => e = .returned (.tuple #[.int .i64 r.1, .int .i64 r.2]) ∧ Below w.heap.size w w' := by
  obtain ⟨K, hK⟩ := ranks_some n a b
  exact sampling_Ranks.calls K n a b r.1 r.2 w (by rw [hK K (Nat.le_refl _), hr])
theorem rank_bound (l : List Int) (a b : Int) (hl : l.length ≤ 50) (h : (rankR l.length a b).2 = 0) : 0 ≤ (rankR l.length a b).1 ∧ (rankR l.length a b).1 ≤ l.length := by
  unfold rankR at h ⊢
  split at h
  case isFalse => cases h
  case isTrue hc =>
    rw [if_pos hc]
    have hr := hc.2
    unfold reducedB at hr
    simp only [Bool.and_eq_true, decide_eq_true_eq] at hr
    have := rk_le l.length a b hr.1.1 hr.2.1.1
    rw [show ((l.length : Int)).toNat = l.length from rfl]
    show 0 ≤ ((rk l.length a b : Nat) : Int) ∧ ((rk l.length a b : Nat) : Int) ≤ l.length
    clear hc hr h
    omega
set_option maxRecDepth 100000 in
set_option maxHeartbeats 4000000 in
theorem med_odd (A : Option Addr) (cap : Nat) (l : List Int) (n : Nat) (a b : Int) (hn : l.length = n) (h : 50 < n ∨ outB l = true) (hn2 : n ≤ 1152921504606846976) (w : World) (hr0 : Kd.C (Kd.int .i64) w A n l) (hc0 : n ≤ cap) :
    Calls Try.prog 19 #[.slice A n cap, .agg #[.int .i64 a, .int .i64 b]] w fun e w' => e = .returned (.tuple #[.int .i64 0, .int .i64 0, .int .i64 1]) ∧ Below w.heap.size w w' := by
  have HN := Aside0.mk hn
  have HC := Aside0.mk hr0
  clear hn hr0
  by_cases h50 : 50 < n
  · go_enter Try.func19, Try.ntmps19
    go_wp2_with fail
    go_ret3
    exact ⟨rfl, by repeat (first | exact Below.refl _ _ | apply below_alloc | apply pw_below_drewN | apply below_drew)⟩
  · have HO := Aside0.mk (show outB l = true by rcases h with h | h; exact absurd h h50; exact h)
    clear h
    go_enter Try.func19, Try.ntmps19
    go_wp2_with (go_at_call 30; ((with_reducible refine (outside_any A n cap l true HN.out (by omega) HO.out _ (by repeat (first | exact HC.out | apply Kd.C_alloc | apply Kd.C_drewN)) hc0).mono ?_); rintro e w' ⟨rfl, ⟨nd, rfl⟩⟩))
    go_ret3
    exact ⟨rfl, by repeat (first | exact Below.refl _ _ | apply below_alloc | apply pw_below_drewN | apply below_drew)⟩
theorem row_cell {w : World} {base g m cap' : Nat} {ys : List Int} (h : w.ownsRow base 3 1 (.slice (some ⟨g, 0, none⟩) m cap') m (ys.map (Value.int .i64))) (i : Int) (h0 : 0 ≤ i) (h1 : i < m) (hl : ys.length = m) : w.cell? ((⟨g, 0, none⟩ : Addr).add i.toNat) = some (.int .i64 (rd ys i)) := by
  have := h.cellAt i.toNat (by omega)
  have e : ((⟨g, 0, none⟩ : Addr).add i.toNat) = ⟨g, i.toNat, none⟩ := by simp [Addr.add]; omega
  rw [e, this]
  have hi : i.toNat < ys.length := by omega
  unfold rd
  simp [hi]
theorem sorted_at (A : Option Addr) (m cap Bs : Nat) (xs : List Int) (hxs : xs.length = m) (hm : m ≤ 1000) (h0 : 1 ≤ m) (w w0 : World) (hC : Kd.C (Kd.int .i64) w0 A m xs) (hw : w = w0.alloc (.cells #[.slice A m cap] 24)) (hB : Bs = w0.heap.size) :
    Calls Try.prog 46 #[.func (.func 64) #[] #[.pointer (some ⟨Bs, 0, none⟩)]] w fun e w' => ∃ ad cap', e = .returned (.slice (some ad) m cap') ∧ (∀ i : Int, 0 ≤ i → i < m → w'.cell? (ad.add i.toNat) = some (.int .i64 (rd (asc xs) i))) ∧ Below w.heap.size w w' := by
  subst hw hB
  refine (sorted_any A m cap w0.heap.size xs hxs hm h0 _ (Kd.C_alloc hC _) (by simp) (blk_one_ (blk_new w0 _))).mono ?_
  rintro e w' ⟨g, cap', rfl, ho, hb⟩
  exact ⟨_, cap', rfl, fun i h0 h1 => row_cell ho i h0 h1 ((asc_length xs).trans hxs), hb⟩
set_option maxRecDepth 100000 in
set_option maxHeartbeats 4000000 in
theorem med_err (A : Option Addr) (cap : Nat) (l : List Int) (n : Nat) (a b : Int) (hn : l.length = n) (h50 : n ≤ 50) (ho : outB l = false) (k e_ : Int) (hr : rankR (n : Int) a b = (k, e_)) (he : e_ ≠ 0) (w : World) (hr0 : Kd.C (Kd.int .i64) w A n l) (hc0 : n ≤ cap) :
    Calls Try.prog 19 #[.slice A n cap, .agg #[.int .i64 a, .int .i64 b]] w fun e w' => e = .returned (.tuple #[.int .i64 0, .int .i64 0, .int .i64 e_]) ∧ Below w.heap.size w w' := by
  have HN := Aside0.mk hn
  have HC := Aside0.mk hr0
  have HO := Aside0.mk ho
  have HR := Aside0.mk hr
  have hb0 : (e_ != 0) = true := bne_iff_ne.mpr he
  clear he
  clear hn hr0 ho hr
  go_enter Try.func19, Try.ntmps19
  go_wp2_with (first
    | (go_at_call 30; ((with_reducible refine (outside_any A n cap l false HN.out (by omega) HO.out _ (by repeat (first | exact HC.out | apply Kd.C_alloc | apply Kd.C_drewN)) hc0).mono ?_); rintro e w' ⟨rfl, ⟨nd, rfl⟩⟩))
    | (go_at_call 27; ((with_reducible refine (ranks_any (n : Int) a b (k, e_) HR.out _).mono ?_); rintro e w2 ⟨rfl, hb⟩; have HB : Aside0 (Below w.heap.size w w2) := ⟨below_step (by repeat (first | exact Below.refl _ _ | apply below_alloc | apply pw_below_drewN | apply below_drew)) hb⟩; clear hb)))
  go_ret3
  exact ⟨rfl, HB.out⟩
set_option maxRecDepth 100000 in
set_option maxHeartbeats 4000000 in
theorem med_none (A : Option Addr) (cap : Nat) (l : List Int) (n : Nat) (a b : Int) (hn : l.length = n) (h50 : n ≤ 50) (ho : outB l = false) (hr : rankR (n : Int) a b = (0, 0)) (w : World) (hr0 : Kd.C (Kd.int .i64) w A n l) (hc0 : n ≤ cap) :
    Calls Try.prog 19 #[.slice A n cap, .agg #[.int .i64 a, .int .i64 b]] w fun e w' => e = .returned (.tuple #[.int .i64 0, .int .i64 0, .int .i64 9]) ∧ Below w.heap.size w w' := by
  have HN := Aside0.mk hn
  have HC := Aside0.mk hr0
  have HO := Aside0.mk ho
  have HR := Aside0.mk hr
  clear hn hr0 ho hr
  go_enter Try.func19, Try.ntmps19
  go_wp2_with (first
    | (go_at_call 30; ((with_reducible refine (outside_any A n cap l false HN.out (by omega) HO.out _ (by repeat (first | exact HC.out | apply Kd.C_alloc | apply Kd.C_drewN)) hc0).mono ?_); rintro e w' ⟨rfl, ⟨nd, rfl⟩⟩))
    | (go_at_call 27; ((with_reducible refine (ranks_any (n : Int) a b (0, 0) HR.out _).mono ?_); rintro e w2 ⟨rfl, hb⟩; have HB : Aside0 (Below w.heap.size w w2) := ⟨below_step (by repeat (first | exact Below.refl _ _ | apply below_alloc | apply pw_below_drewN | apply below_drew)) hb⟩; clear hb)))
  go_ret3
  exact ⟨rfl, HB.out⟩
set_option maxRecDepth 100000 in
set_option maxHeartbeats 4000000 in
theorem med_fine (A : Option Addr) (cap : Nat) (l : List Int) (n : Nat) (a b : Int) (hn : l.length = n) (h50 : n ≤ 50) (ho : outB l = false) (k : Int) (hr : rankR (n : Int) a b = (k, 0)) (hk : k ≠ 0) (h0 : 1 ≤ n) (i1 i2 : Int) (e1 : IntKind.i64.wrap (k - 1) = i1) (e2 : IntKind.i64.wrap ((n : Int) - k) = i2) (p1 : decide (0 ≤ i1) = true) (p2 : decide (i1 < (n : Int)) = true) (p3 : decide (0 ≤ i2) = true) (p4 : decide (i2 < (n : Int)) = true) (w : World) (hr0 : Kd.C (Kd.int .i64) w A n l) (hc0 : n ≤ cap) :
    Calls Try.prog 19 #[.slice A n cap, .agg #[.int .i64 a, .int .i64 b]] w fun e w' => e = .returned (.tuple #[.int .i64 (rd (asc l) i1), .int .i64 (rd (asc l) i2), .int .i64 0]) ∧ Below w.heap.size w w' := by
  have HN := Aside0.mk hn
  have HC := Aside0.mk hr0
  have HO := Aside0.mk ho
  have HR := Aside0.mk hr
  have hb0 : (k == 0) = false := beq_eq_false_iff_ne.mpr hk
  clear hn hr0 ho hr
  go_enter Try.func19, Try.ntmps19
  go_wp2_with (first
    | (go_at_call 30; ((with_reducible refine (outside_any A n cap l false HN.out (by omega) HO.out _ (by repeat (first | exact HC.out | apply Kd.C_alloc | apply Kd.C_drewN)) hc0).mono ?_); rintro e w' ⟨rfl, ⟨nd, rfl⟩⟩))
    | (go_at_call 27; ((with_reducible refine (ranks_any (n : Int) a b (k, 0) HR.out _).mono ?_); rintro e w2 ⟨rfl, hb⟩; have HB : Aside0 (Below w.heap.size w w2) := ⟨below_step (by repeat (first | exact Below.refl _ _ | apply below_alloc | apply pw_below_drewN | apply below_drew)) hb⟩; clear hb))
    | (go_at_call 47; ((with_reducible refine (values_any A n cap _).mono ?_); rintro e w' ⟨rfl, rfl⟩))
    | (go_at_call 46; (with_reducible refine (sorted_at A n cap _ l HN.out (by omega) (by omega) _ w2 (Kd.C_below HC.out HB.out) rfl rfl).mono ?_); rintro e w3 ⟨ad, cap', rfl, hcell, hb3⟩
       have hx1 := hcell i1 (of_decide_eq_true p1) (of_decide_eq_true p2)
       have hx2 := hcell i2 (of_decide_eq_true p3) (of_decide_eq_true p4)
       have HB3 : Aside0 (Below w.heap.size w w3) := ⟨below_step (by repeat (first | exact HB.out | apply below_alloc)) hb3⟩
       have s1 := eq_true (of_decide_eq_true p1)
       have s2 := eq_true (of_decide_eq_true p2)
       have s3 := eq_true (of_decide_eq_true p3)
       have s4 := eq_true (of_decide_eq_true p4)
       clear hcell hb3))
  go_quiet (fail)
  try go_wp2
  go_ret3
  exact ⟨rfl, by repeat (first | exact HB3.out | apply below_alloc | apply pw_below_drewN | apply below_drew)⟩
/-- Median, told at once. -/
def sampling_Median.f (l : List Int) (a b : Int) : Option (Int × Int × Int) := if l.length ≤ 1152921504606846976 then some (medR l a b) else none
theorem sampling_Median.calls (A0 : Option Addr) (c0 : Nat) (l0 : List Int) (a b r1 r2 r3 : Int) (w : World) (hr0 : Kd.C (Kd.int .i64) w A0 l0.length l0) (hc0 : l0.length ≤ c0) (h : sampling_Median.f l0 a b = some (r1, r2, r3)) :
    Calls Try.prog 19 #[.slice A0 l0.length c0, .agg #[.int .i64 a, .int .i64 b]] w fun e w' => e = .returned (.tuple #[.int .i64 r1, .int .i64 r2, .int .i64 r3]) ∧ Below w.heap.size w w' := by
  unfold sampling_Median.f at h
  split at h
  case isFalse => cases h
  case isTrue hl =>
    have h := Option.some.inj h
    unfold medR at h
    by_cases h50 : 50 < l0.length
    · rw [if_pos h50] at h
      cases h
      exact med_odd A0 c0 l0 _ a b rfl (.inl h50) hl w hr0 hc0
    · rw [if_neg h50] at h
      by_cases ho : outB l0 = true
      · rw [if_pos ho] at h
        cases h
        exact med_odd A0 c0 l0 _ a b rfl (.inr ho) hl w hr0 hc0
      · rw [if_neg ho] at h
        replace ho := Bool.eq_false_iff.mpr ho
        obtain ⟨⟨k, e_⟩, hr⟩ : ∃ r, rankR (l0.length : Int) a b = r := ⟨_, rfl⟩
        have hb := rank_bound l0 a b (by omega)
        rw [hr] at h hb
        dsimp only at h hb
        by_cases he : e_ = 0
        · subst he
          obtain ⟨h0, h1⟩ := hb rfl
          rw [if_pos rfl] at h
          by_cases hk : k = 0
          · subst hk
            rw [if_pos rfl] at h
            cases h
            exact med_none A0 c0 l0 _ a b rfl (by omega) ho hr w hr0 hc0
          · rw [if_neg hk] at h
            cases h
            exact med_fine A0 c0 l0 _ a b rfl (by omega) ho k hr hk (by omega) (k - 1) ((l0.length : Int) - k) (IntWalk.i64_in _ (by omega)) (IntWalk.i64_in _ (by omega)) (decide_eq_true (by omega)) (decide_eq_true (by omega)) (decide_eq_true (by omega)) (decide_eq_true (by omega)) w hr0 hc0
        · rw [if_neg he] at h
          cases h
          exact med_err A0 c0 l0 _ a b rfl (by omega) ho k _ hr he w hr0 hc0
end Go.Proofs.Ytcgjgpdandjicaa.B
