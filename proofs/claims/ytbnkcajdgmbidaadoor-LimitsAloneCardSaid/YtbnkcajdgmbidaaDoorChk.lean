/- Check of package limits: the rejected elements, ascending, each once. -/
import Derived.Test.YtbnkcajdgmbidaaDoorFnd
import Derived.Test.YtbnkcajdgmbidaaDoorShelf
import Derived.Shelf.SlIter.Collect
import Derived.Sort.OwnSortedInts
import Derived.Shelf.Slices.Cells
namespace Go.Proofs.YtbnkcajdgmbidaaDoor.B
open Go.RowKit Go.Proofs.YtbnkcajdgmbidaaDoorW.PrintWords Go.Proofs.YtbnkcajdgmbidaaDoorW.PrintLast Go.Proofs.YtbnkcajdgmbidaaDoorW.PrintMore
set_option linter.unusedVariables false
set_option linter.unusedSimpArgs false
/-- The elements whose readings are outside of the limits. -/
def rej (l : List S30) : List Int := (l.filter fun x => !grossB x.f0 x.f1).map (·.f0)
theorem rej_yes (l : List S30) (i : Nat) (h : i < l.length) (hg : grossB l[i].f0 l[i].f1 = false) : rej (l.take (i + 1)) = rej (l.take i) ++ [l[i].f0] := by
  unfold rej
  rw [List.take_succ_eq_append_getElem h, List.filter_append, List.map_append]
  simp [hg]
theorem rej_no (l : List S30) (i : Nat) (h : i < l.length) (hg : grossB l[i].f0 l[i].f1 = true) : rej (l.take (i + 1)) = rej (l.take i) := by
  unfold rej
  rw [List.take_succ_eq_append_getElem h, List.filter_append, List.map_append]
  simp [hg]
theorem rej_le (l : List S30) (i : Nat) : (rej (l.take i)).length ≤ i := by
  unfold rej
  rw [List.length_map]
  exact Nat.le_trans (List.length_filter_le _ _) (by rw [List.length_take]; omega)
theorem info_three : ∃ i, Tryd.prog.info? 3 = some i ∧ i.zero = some (.int .i64 0) ∧ i.size = 1 ∧ i.bytes = 8 := info_parts (by kernel_rfl)
/-- The slice that the call owns, with its own shape. -/
def Out (w : World) (v : Value) (xs : List Int) (W : World) : Prop := (∃ A c, v = .slice A xs.length c) ∧ W.ownsRow w.heap.size 3 1 v xs.length (xs.map (Value.int .i64))
theorem out_step {w W W1 : World} {v : Value} {xs : List Int} (h : Out w v xs W) (hb : Below W.heap.size W W1) : Out w v xs W1 := by
  refine ⟨h.1, h.2.1, ?_⟩
  rcases h.2.2 with h2 | ⟨g, cap, cur, rfl, hg, hh, r⟩
  · exact .inl h2
  · exact .inr ⟨g, cap, cur, rfl, hg, (hb.block g (Array.getElem?_eq_some_iff.1 hh).1).trans hh, r⟩
theorem out_shape {w W : World} {v : Value} {xs : List Int} {n : Nat} (h : W.ownsRow w.heap.size 3 1 v n (xs.map (Value.int .i64))) (hn : n = xs.length) : Out w v xs W := by
  subst hn
  refine ⟨?_, h⟩
  rcases h.2 with ⟨rfl, h0⟩ | ⟨g, cap, cur, rfl, _⟩
  · exact ⟨none, 0, by rw [h0]⟩
  · exact ⟨_, _, rfl⟩
theorem app_step {w W w3 : World} {v v' : Value} {xs ys : List Int} {o : Obj} {m : Nat} (hb : Below w.heap.size w W) (ho : Out w v xs W) (hm : ys.length = m)
    (h' : w3.ownsRow w.heap.size 3 1 v' (xs.length + m) (xs.map (Value.int .i64) ++ ys.map (Value.int .i64))) (hg : (W.alloc o).grownBy w3 v.ownBlock) : Out w v' (xs ++ ys) w3 ∧ Below w.heap.size w w3 := by
  have hs := hb.size
  refine ⟨?_, (hb.alloc hs _).grown hg (by simp; omega) (fun q hq => ((ho.2.alloc o).lt q hq).1)⟩
  rw [← List.map_append] at h'
  exact out_shape h' (by rw [List.length_append, hm])
theorem gross_eq (e v : Int) (b : Bool) (h : grossB e v = b) (w : World) (hL : Laid w) : Calls Tryd.prog 16 #[.agg #[.int .i64 e, .int .i64 v]] w fun x w' => x = .returned (.bool b) ∧ Below w.heap.size w w' := by
  subst h
  exact limits_Gross.any e v w hL
theorem out_alloc {w W W1 : World} {v : Value} {xs : List Int} (h : Out w v xs W) (o : Obj) (hb : Below (W.alloc o).heap.size (W.alloc o) W1) : Out w v xs W1 := out_step (out_step h ((Below.refl W.heap.size W).alloc (Nat.le_refl _) o)) hb
theorem find19_at (A0 : Option Addr) (c0 n : Nat) (l0 : List S30) (c v : Int) (b : Bool) (hn : l0.length = n) (hl : n ≤ 1000000) (h1 : (fnd l0 c).1 = v) (h2 : cmpd l0 c = b) (w : World) (hr0 : Kd.C k30 w A0 n l0) :
    Calls Tryd.prog 19 #[.slice A0 n c0, .int .i64 c] w fun e w' => e = .returned (.tuple #[.int .i64 v, .bool b]) ∧ Below w.heap.size w w' := by
  subst hn h1 h2
  exact find19_any A0 c0 l0 c hl w hr0
theorem cell_two_new (w : World) (a b : Value) (t : TypeId) : ∀ (j : Nat) (u : Value), [a, b][j]? = some u → (w.alloc (.cells #[a, b] t)).cell? ((⟨w.heap.size, 0, none⟩ : Addr).add j) = some u := by
  intro j u h
  match j, h with
  | 0, h => rw [← h]; exact (blk_cell (blk_new w _) 0).trans rfl
  | 1, h => rw [← h]; exact (blk_cell (blk_new w _) 1).trans rfl
theorem two_one (a b : Int) : ∀ u ∈ [Value.int .i64 a, Value.int .i64 b], u.oneCell' = true := by
  intro u hu
  rcases List.mem_cons.1 hu with rfl | hu
  · rfl
  · rw [List.mem_singleton.1 hu]; rfl
def wetL (b2 b3 : Bool) (v2 v3 : Int) : List Int := if (b2 && (b3 && decide (v2 < v3))) = true then [2, 3] else []
def stormL (b4 b5 : Bool) (v4 v5 : Int) : List Int := if (b4 && (b5 && decide (810000 < IntKind.i64.wrap (IntKind.i64.wrap (v4 * v4) + IntKind.i64.wrap (v5 * v5))))) = true then [4, 5] else []
theorem len_two {xs ys : List Int} {a b : Int} {N : Nat} (h : ys = xs ++ [a, b]) (hl : xs.length + 2 ≤ N) : ys.length ≤ N := by
  rw [h, List.length_append]
  exact hl
theorem size_al {w W : World} {o : Obj} (h : Below w.heap.size w W) : w.heap.size ≤ (W.alloc o).heap.size := by
  have := h.size
  simp
  omega
/-- The numbers, ascending. -/
def asc (l : List Int) : List Int := l.mergeSort fun x y => decide (x ≤ y)
theorem asc_length (l : List Int) : (asc l).length = l.length := by unfold asc; simp
theorem sort_any {w W : World} {A : Option Addr} {c : Nat} {xs : List Int} (hl : xs.length ≤ 10000) (hb : Below w.heap.size w W) (ho : Out w (.slice A xs.length c) xs W) :
    Calls Tryd.prog 20 #[.slice A xs.length c] W fun e w' => e = .returned (.tuple #[]) ∧ Out w (.slice A xs.length c) (asc xs) w' ∧ Below w.heap.size w w' := by
  rcases ho.2.2 with ⟨hn, hz⟩ | ⟨g, cap, cur, hv, hbase, hgb, r1, r2, r3, r4⟩
  · have hx : xs = [] := List.eq_nil_of_length_eq_zero hz
    subst hx
    have cS := AnyM.slices_Sort_int_none laySort A c W
    change Calls Tryd.prog 20 _ _ _ at cS
    refine cS.mono ?_
    rintro e w' ⟨rfl, rfl⟩
    exact ⟨rfl, by rw [show asc ([] : List Int) = [] by simp [asc]]; exact ho, hb⟩
  · injection hv with h1 h2 h3
    subst h1 h3
    have hH : Go.Sort.Holds (Value.int .i64) W g 0 xs.toArray := holds_of_blockI hgb (by rw [← Nat.mul_one xs.length]; exact r4)
    have hgl : g < W.heap.size := (Array.getElem?_eq_some_iff.1 hgb).1
    have cS := AnyM.slices_Sort_int laySort g 0 c xs W hH hgl (by omega)
    change Calls Tryd.prog 20 _ _ _ at cS
    refine cS.mono ?_
    rintro e w' ⟨rfl, nn, os, rfl⟩
    have hla : (asc xs).length = xs.length := asc_length xs
    have hs := ownsRow_sortedI (n := nn) (os := os) hla hbase hgb r1 r2 r3
    refine ⟨rfl, ⟨⟨_, _, by rw [hla]⟩, by rw [hla]; exact hs⟩, hb.grown (grownBy_sortedI _) hb.size (fun j hj => by cases hj; exact hbase)⟩
theorem owns_take {w : World} {base g n k cap : Nat} {ts : List Int} (hk : k ≤ n) (h : w.ownsRow base 3 1 (.slice (some ⟨g, 0, none⟩) n cap) n (ts.map (Value.int .i64))) : w.ownsRow base 3 1 (.slice (some ⟨g, 0, none⟩) k cap) k ((ts.take k).map (Value.int .i64)) := by
  have hl := h.1
  rw [List.length_map] at hl
  refine ⟨by rw [List.length_map, List.length_take]; omega, ?_⟩
  rcases h.2 with ⟨h', _⟩ | ⟨g', cap', cur, h', hb, hg, r1, r2, r3, r4⟩
  · cases h'
  · simp only [Value.slice.injEq, Option.some.injEq, Addr.mk.injEq, and_true, true_and] at h'
    obtain ⟨rfl, rfl⟩ := h'
    refine .inr ⟨g, cap, cur, rfl, hb, hg, by omega, r2, r3, ?_⟩
    rw [List.map_take, ← r4, List.take_take]
    congr 1
    omega
theorem compact_any {w W : World} {A : Option Addr} {c n : Nat} {xs : List Int} (hn : xs.length = n) (hl : n ≤ 10000) (hb : Below w.heap.size w W) (ho : Out w (.slice A n c) xs W) :
    Calls Tryd.prog 21 #[.slice A n c] W fun e w' => ∃ v, e = .returned v ∧ Out w v (Lib.compact xs) w' ∧ Below w.heap.size w w' := by
  subst hn
  rcases ho.2.2 with ⟨hn, hz⟩ | ⟨g, cap, cur, hv, hbase, hgb, r1, r2, r3, r4⟩
  · have hx : xs = [] := List.eq_nil_of_length_eq_zero hz
    subst hx
    have cS := AnyG.slices_Compact_int_empty layCompact A c W
    change Calls Tryd.prog 21 _ _ _ at cS
    refine cS.mono ?_
    rintro e w' ⟨rfl, rfl⟩
    exact ⟨_, rfl, ho, hb⟩
  · injection hv with h1 h2 h3
    subst h1 h3
    have hH : Go.Sort.Holds (Value.int .i64) W g 0 xs.toArray := holds_of_blockI hgb (by rw [← Nat.mul_one xs.length]; exact r4)
    have cS := AnyG.slices_Compact_int layCompact g 0 c xs W hH (by omega) r1
    change Calls Tryd.prog 21 _ _ _ at cS
    refine cS.mono ?_
    rintro e w' ⟨rfl, q, rfl⟩
    have hle := Lib.compact_length_le xs
    have hlt : (Lib.compact xs ++ List.replicate (xs.length - (Lib.compact xs).length) 0).length = xs.length := by rw [List.length_append, List.length_replicate]; omega
    have hs := ownsRow_sortedI (n := q) (os := #[]) hlt hbase hgb r1 r2 r3
    have hgr := grownBy_sortedI (w := W) (g := g) (n := q) (os := #[]) (Lib.compact xs ++ List.replicate (xs.length - (Lib.compact xs).length) 0).toArray
    have eg : ∀ X : World, Go.Sort.grow X #[] = X := fun X => by simp [Go.Sort.grow]
    rw [eg] at hs hgr
    have ht := owns_take hle hs
    rw [List.take_left] at ht
    exact ⟨_, rfl, ⟨⟨_, _, rfl⟩, ht⟩, hb.grown hgr hb.size (fun j hj => by cases hj; exact hbase)⟩
set_option maxRecDepth 100000 in
set_option maxHeartbeats 40000000 in
theorem check8 (A : Option Addr) (cap n : Nat) (l : List S30) (hn : l.length = n) (hl : n ≤ 1000) (v2 v3 v4 v5 : Int) (b2 b3 b4 b5 : Bool) (e2 : (fnd l 2).1 = v2) (c2 : cmpd l 2 = b2) (e3 : (fnd l 3).1 = v3) (c3 : cmpd l 3 = b3) (e4 : (fnd l 4).1 = v4) (c4 : cmpd l 4 = b4) (e5 : (fnd l 5).1 = v5) (c5 : cmpd l 5 = b5) (w : World) (hL : Laid w) (hr0 : Kd.C k30 w A n l) :
    Calls Tryd.prog 8 #[.slice A n cap] w fun e w' => ∃ v, e = .returned v ∧ Out w v (Lib.compact (asc (rej l ++ wetL b2 b3 v2 v3 ++ stormL b4 b5 v4 v5))) w' ∧ Below w.heap.size w w' := by
  have HN := Aside0.mk hn
  have HC := Aside0.mk hr0
  have HL := Aside0.mk hL
  have H2 := Aside0.mk (And.intro e2 c2)
  have H3 := Aside0.mk (And.intro e3 c3)
  have H4 := Aside0.mk (And.intro e4 c4)
  have H5 := Aside0.mk (And.intro e5 c5)
  clear hr0 hL e2 c2 e3 c3 e4 c4 e5 c5
  obtain ⟨i0, hi, hz0, hz1, hz2⟩ := info_three
  go_enter Tryd.func8, Tryd.ntmps8
  go_wp2
  go_loopw [3, 5, 16] (fun v3 _ i wr => ∃ k : Nat, k ≤ n ∧ i = .int .i64 k ∧ Aside0 (Out w v3 (rej (l.take k)) wr) ∧ Aside0 (Below w.heap.size w wr))
    (fun _ _ i _ => n - (intOf i).toNat)
  case atStart => exact ⟨0, Nat.zero_le _, rfl, ⟨⟨⟨none, 0, rfl⟩, World.ownsRow_nil _ _ _ _⟩⟩, ⟨Below.refl _ _⟩⟩
  case round =>
    obtain ⟨k, hk, rfl, HO, HB⟩ := hrel
    obtain ⟨⟨Ao, co, rfl⟩, how⟩ := HO.out
    by_cases hlt : k < n
    · have hkl : k < l.length := by omega
      have hCw : Kd.C k30 wr A n l := Kd.C_below HC.out HB.out
      obtain ⟨ad, eA, hx0, hx1⟩ := at_T30 hCw (k : Int) (by omega) (by omega)
      cases eA
      simp only [Int.toNat_natCast] at hx0 hx1
      have e30 : rd_T30 l (k : Int) = l[k] := rd30_nat l k hkl
      rw [e30] at hx0 hx1
      have q0 : (0 ≤ (k : Int)) = True := eq_true (by omega)
      have q1 : ((k : Int) < (n : Int)) = True := eq_true (by omega)
      have hle := rej_le l k
      clear hCw how e30
      by_cases hg : grossB l[k].f0 l[k].f1 = true
      · have hr := rej_no l k hkl hg
        go_wp2_with (go_at_call 16; ((with_reducible refine (gross_eq _ _ true hg _ (laid_below HL.out (below_alloc HB.out _))).mono ?_); rintro e w2 ⟨rfl, hb⟩; have HB2 : Aside0 (Below w.heap.size w w2) := ⟨below_step (below_alloc HB.out _) hb⟩; have HO2 : Aside0 (Out w (.slice Ao (rej (l.take k)).length co) (rej (l.take k)) w2) := ⟨out_alloc HO.out _ hb⟩; clear hb))
        go_roundw
        case rel => exact ⟨k + 1, by omega, by go_num, by rw [hr]; exact HO2, HB2⟩
        case measure => simp [intOf]; omega
      · replace hg := Bool.eq_false_iff.mpr hg
        have hr := rej_yes l k hkl hg
        go_wp2_with (first
          | (go_at_call 16; ((with_reducible refine (gross_eq _ _ false hg _ (laid_below HL.out (below_alloc HB.out _))).mono ?_); rintro e w2 ⟨rfl, hb⟩; have HB2 : Aside0 (Below w.heap.size w w2) := ⟨below_step (below_alloc HB.out _) hb⟩; have HO2 : Aside0 (Out w (.slice Ao (rej (l.take k)).length co) (rej (l.take k)) w2) := ⟨out_alloc HO.out _ hb⟩; have hbx : w2.cell? ⟨wr.heap.size, 0, none⟩ = some (.int .i64 l[k].f0) := (hb.cell (p := ⟨wr.heap.size, 0, none⟩) (by simp)).trans ((blk_cell (blk_new wr _) 0).trans rfl); clear hb))
          | (at_builtin; refine wpList_append_own _ rfl _ _ 22 rfl w.heap.size 3 i0 (.int .i64 0) 1 8 Tryd.underlying22 hi hz0 hz1 hz2 rfl (by decide) _ _ _ rfl (HO2.out.2.alloc _) ⟨_, 0, none⟩ 1 1 [.int .i64 l[k].f0] rfl rfl (cell_one_new _ _ _) (fun x hx => by simp at hx; subst hx; rfl) (by unfold maxLen; omega) (by omega) (by have := HB2.out.size; simp; omega) ?_; intro v' w3 hown' hg3 hnil3))
        obtain ⟨HO4, HB4⟩ := app_step (ys := [l[k].f0]) HB2.out HO2.out rfl hown' hg3
        obtain ⟨⟨A4, c4, rfl⟩, _⟩ := id HO4
        go_roundw
        case rel => exact ⟨k + 1, by omega, by go_num, by rw [hr]; exact ⟨HO4⟩, ⟨HB4⟩⟩
        case measure => simp [intOf]; omega
    · obtain rfl : n = k := by omega
      clear how
      have hle := rej_le l n
      have et : l.take n = l := List.take_of_length_le (by omega)
      rw [et] at HO hle ⊢
      obtain ⟨xs1, hxs1⟩ : ∃ x, x = rej l := ⟨_, rfl⟩
      rw [← hxs1] at HO hle ⊢
      have HX1 := Aside0.mk hxs1
      clear hxs1 et
      go_upto_region 10 with (first | (go_at_call 19; ((with_reducible refine (find19_at A cap n l 2 v2 b2 HN.out (by omega) H2.out.1 H2.out.2 _ (Kd.C_below HC.out HB.out)).mono ?_); rintro e w6 ⟨rfl, hb⟩; have n0_ := Aside0.mk (below_step HB.out hb); have n1_ := Aside0.mk (out_step HO.out hb); clear HB HO hb; have HB := n0_; have HO := n1_; clear n0_ n1_)) | (go_at_call 19; ((with_reducible refine (find19_at A cap n l 3 v3 b3 HN.out (by omega) H3.out.1 H3.out.2 _ (Kd.C_below HC.out HB.out)).mono ?_); rintro e w6 ⟨rfl, hb⟩; have n0_ := Aside0.mk (below_step HB.out hb); have n1_ := Aside0.mk (out_step HO.out hb); clear HB HO hb; have HB := n0_; have HO := n1_; clear n0_ n1_)))
      go_cut [47] from 48 (fun s47 wc => s47 = .bool (b2 && (b3 && decide (v2 < v3))) ∧ Aside0 (Below w.heap.size w wc) ∧ Aside0 (Out w (.slice Ao xs1.length co) xs1 wc))
      case first =>
        cases b2 <;> cases b3 <;> go_wp2
        all_goals
          go_meet
          case rel => exact ⟨by first | rfl | (simp; done) | (simp [*]; done), HB, HO⟩
      case rest =>
        obtain ⟨rfl, HB1, HO1⟩ := hcut
        clear HB HO
        have HB := HB1
        have HO := HO1
        clear HB1 HO1
        by_cases hwet : (b2 && (b3 && decide (v2 < v3))) = true
        · rw [hwet]
          go_upto_region 14 with (first | (go_at_call 19; ((with_reducible refine (find19_at A cap n l 4 v4 b4 HN.out (by omega) H4.out.1 H4.out.2 _ (Kd.C_below HC.out HB.out)).mono ?_); rintro e w6 ⟨rfl, hb⟩; have n0_ := Aside0.mk (below_step HB.out hb); have n1_ := Aside0.mk (out_step HO.out hb); clear HB HO hb; have HB := n0_; have HO := n1_; clear n0_ n1_)) | (go_at_call 19; ((with_reducible refine (find19_at A cap n l 5 v5 b5 HN.out (by omega) H5.out.1 H5.out.2 _ (Kd.C_below HC.out HB.out)).mono ?_); rintro e w6 ⟨rfl, hb⟩; have n0_ := Aside0.mk (below_step HB.out hb); have n1_ := Aside0.mk (out_step HO.out hb); clear HB HO hb; have HB := n0_; have HO := n1_; clear n0_ n1_)) | (at_builtin; (refine wpList_append_own _ rfl _ _ 22 rfl w.heap.size 3 i0 (.int .i64 0) 1 8 Tryd.underlying22 hi hz0 hz1 hz2 rfl (by decide) _ _ _ rfl (HO.out.2.alloc _) ⟨_, 0, none⟩ 2 2 [.int .i64 2, .int .i64 3] rfl rfl (cell_two_new _ _ _ _) (two_one _ _) (by unfold maxLen; omega) (by omega) (size_al HB.out) ?_); (intro v' w8 hown' hg3 hnil3; obtain ⟨n1_, n0_⟩ := app_step (ys := [2, 3]) HB.out HO.out rfl hown' hg3; obtain ⟨xs2, hx_⟩ : ∃ x, x = xs1 ++ [2, 3] := ⟨_, rfl⟩; rw [← hx_] at n1_; have hl_xs2 : xs2.length ≤ 1002 := len_two hx_ (by omega); have H_xs2 := Aside0.mk hx_; clear hx_; obtain ⟨⟨A4, c4, rfl⟩, _⟩ := id n1_; clear HB HO; have HB := Aside0.mk n0_; have HO := Aside0.mk n1_; clear n0_ n1_ hown' hg3 hnil3)))
          go_cut [74] from 75 (fun s74 wc => s74 = .bool (b4 && (b5 && decide (810000 < IntKind.i64.wrap (IntKind.i64.wrap (v4 * v4) + IntKind.i64.wrap (v5 * v5))))) ∧ Aside0 (Below w.heap.size w wc) ∧ Aside0 (Out w (.slice A4 xs2.length c4) xs2 wc))
          case first =>
            cases b4 <;> cases b5 <;> go_wp2
            all_goals
              go_meet
              case rel => exact ⟨by first | rfl | (simp; done) | (simp [*]; done) | (simp only [i64_w]; first | rfl | (simp [*]; done)) | (simp [*, i64_w]; done), HB, HO⟩
          case rest =>
            obtain ⟨rfl, HB1, HO1⟩ := hcut
            clear HB HO
            have HB := HB1
            have HO := HO1
            clear HB1 HO1
            by_cases hst : (b4 && (b5 && decide (810000 < IntKind.i64.wrap (IntKind.i64.wrap (v4 * v4) + IntKind.i64.wrap (v5 * v5))))) = true
            · rw [hst]
              go_upto_region 16 with ((at_builtin; (refine wpList_append_own _ rfl _ _ 22 rfl w.heap.size 3 i0 (.int .i64 0) 1 8 Tryd.underlying22 hi hz0 hz1 hz2 rfl (by decide) _ _ _ rfl (HO.out.2.alloc _) ⟨_, 0, none⟩ 2 2 [.int .i64 4, .int .i64 5] rfl rfl (cell_two_new _ _ _ _) (two_one _ _) (by unfold maxLen; omega) (by omega) (size_al HB.out) ?_); (intro v' w8 hown' hg3 hnil3; obtain ⟨n1_, n0_⟩ := app_step (ys := [4, 5]) HB.out HO.out rfl hown' hg3; obtain ⟨xs3, hx_⟩ : ∃ x, x = xs2 ++ [4, 5] := ⟨_, rfl⟩; rw [← hx_] at n1_; have hl_xs3 : xs3.length ≤ 1004 := len_two hx_ (by omega); have H_xs3 := Aside0.mk hx_; clear hx_; obtain ⟨⟨A5, c5, rfl⟩, _⟩ := id n1_; clear HB HO; have HB := Aside0.mk n0_; have HO := Aside0.mk n1_; clear n0_ n1_ hown' hg3 hnil3)))
              go_wp2_with (first | (go_at_call 20; ((with_reducible refine (sort_any (by omega) HB.out HO.out).mono ?_); rintro e w9 ⟨rfl, n1_, n0_⟩; clear HB HO; have HB := Aside0.mk n0_; have HO := Aside0.mk n1_; clear n0_ n1_)) | (go_at_call 21; ((with_reducible refine (compact_any (asc_length _) (by omega) HB.out HO.out).mono ?_); rintro e w10 ⟨v, rfl, n1_, n0_⟩; clear HB HO; have HB := Aside0.mk n0_; have HO := Aside0.mk n1_; clear n0_ n1_)))
              go_ret
              exact ⟨v, rfl, by unfold wetL stormL; rw [if_pos hwet, if_pos hst, ← HX1.out, ← H_xs2.out, ← H_xs3.out]; exact HO.out, HB.out⟩
            · rw [Bool.eq_false_iff.mpr hst]
              go_upto_region 16 with fail
              go_wp2_with (first | (go_at_call 20; ((with_reducible refine (sort_any (by omega) HB.out HO.out).mono ?_); rintro e w9 ⟨rfl, n1_, n0_⟩; clear HB HO; have HB := Aside0.mk n0_; have HO := Aside0.mk n1_; clear n0_ n1_)) | (go_at_call 21; ((with_reducible refine (compact_any (asc_length _) (by omega) HB.out HO.out).mono ?_); rintro e w10 ⟨v, rfl, n1_, n0_⟩; clear HB HO; have HB := Aside0.mk n0_; have HO := Aside0.mk n1_; clear n0_ n1_)))
              go_ret
              exact ⟨v, rfl, by unfold wetL stormL; rw [if_pos hwet, if_neg hst, ← HX1.out, ← H_xs2.out, List.append_nil]; exact HO.out, HB.out⟩
        · rw [Bool.eq_false_iff.mpr hwet]
          go_upto_region 14 with (first | (go_at_call 19; ((with_reducible refine (find19_at A cap n l 4 v4 b4 HN.out (by omega) H4.out.1 H4.out.2 _ (Kd.C_below HC.out HB.out)).mono ?_); rintro e w6 ⟨rfl, hb⟩; have n0_ := Aside0.mk (below_step HB.out hb); have n1_ := Aside0.mk (out_step HO.out hb); clear HB HO hb; have HB := n0_; have HO := n1_; clear n0_ n1_)) | (go_at_call 19; ((with_reducible refine (find19_at A cap n l 5 v5 b5 HN.out (by omega) H5.out.1 H5.out.2 _ (Kd.C_below HC.out HB.out)).mono ?_); rintro e w6 ⟨rfl, hb⟩; have n0_ := Aside0.mk (below_step HB.out hb); have n1_ := Aside0.mk (out_step HO.out hb); clear HB HO hb; have HB := n0_; have HO := n1_; clear n0_ n1_)))
          go_cut [74] from 75 (fun s74 wc => s74 = .bool (b4 && (b5 && decide (810000 < IntKind.i64.wrap (IntKind.i64.wrap (v4 * v4) + IntKind.i64.wrap (v5 * v5))))) ∧ Aside0 (Below w.heap.size w wc) ∧ Aside0 (Out w (.slice Ao xs1.length co) xs1 wc))
          case first =>
            cases b4 <;> cases b5 <;> go_wp2
            all_goals
              go_meet
              case rel => exact ⟨by first | rfl | (simp; done) | (simp [*]; done) | (simp only [i64_w]; first | rfl | (simp [*]; done)) | (simp [*, i64_w]; done), HB, HO⟩
          case rest =>
            obtain ⟨rfl, HB1, HO1⟩ := hcut
            clear HB HO
            have HB := HB1
            have HO := HO1
            clear HB1 HO1
            by_cases hst : (b4 && (b5 && decide (810000 < IntKind.i64.wrap (IntKind.i64.wrap (v4 * v4) + IntKind.i64.wrap (v5 * v5))))) = true
            · rw [hst]
              go_upto_region 16 with ((at_builtin; (refine wpList_append_own _ rfl _ _ 22 rfl w.heap.size 3 i0 (.int .i64 0) 1 8 Tryd.underlying22 hi hz0 hz1 hz2 rfl (by decide) _ _ _ rfl (HO.out.2.alloc _) ⟨_, 0, none⟩ 2 2 [.int .i64 4, .int .i64 5] rfl rfl (cell_two_new _ _ _ _) (two_one _ _) (by unfold maxLen; omega) (by omega) (size_al HB.out) ?_); (intro v' w8 hown' hg3 hnil3; obtain ⟨n1_, n0_⟩ := app_step (ys := [4, 5]) HB.out HO.out rfl hown' hg3; obtain ⟨xs3, hx_⟩ : ∃ x, x = xs1 ++ [4, 5] := ⟨_, rfl⟩; rw [← hx_] at n1_; have hl_xs3 : xs3.length ≤ 1004 := len_two hx_ (by omega); have H_xs3 := Aside0.mk hx_; clear hx_; obtain ⟨⟨A5, c5, rfl⟩, _⟩ := id n1_; clear HB HO; have HB := Aside0.mk n0_; have HO := Aside0.mk n1_; clear n0_ n1_ hown' hg3 hnil3)))
              go_wp2_with (first | (go_at_call 20; ((with_reducible refine (sort_any (by omega) HB.out HO.out).mono ?_); rintro e w9 ⟨rfl, n1_, n0_⟩; clear HB HO; have HB := Aside0.mk n0_; have HO := Aside0.mk n1_; clear n0_ n1_)) | (go_at_call 21; ((with_reducible refine (compact_any (asc_length _) (by omega) HB.out HO.out).mono ?_); rintro e w10 ⟨v, rfl, n1_, n0_⟩; clear HB HO; have HB := Aside0.mk n0_; have HO := Aside0.mk n1_; clear n0_ n1_)))
              go_ret
              exact ⟨v, rfl, by unfold wetL stormL; rw [if_neg hwet, if_pos hst, ← HX1.out, List.append_nil, ← H_xs3.out]; exact HO.out, HB.out⟩
            · rw [Bool.eq_false_iff.mpr hst]
              go_upto_region 16 with fail
              go_wp2_with (first | (go_at_call 20; ((with_reducible refine (sort_any (by omega) HB.out HO.out).mono ?_); rintro e w9 ⟨rfl, n1_, n0_⟩; clear HB HO; have HB := Aside0.mk n0_; have HO := Aside0.mk n1_; clear n0_ n1_)) | (go_at_call 21; ((with_reducible refine (compact_any (asc_length _) (by omega) HB.out HO.out).mono ?_); rintro e w10 ⟨v, rfl, n1_, n0_⟩; clear HB HO; have HB := Aside0.mk n0_; have HO := Aside0.mk n1_; clear n0_ n1_)))
              go_ret
              exact ⟨v, rfl, by unfold wetL stormL; rw [if_neg hwet, if_neg hst, ← HX1.out, List.append_nil, List.append_nil]; exact HO.out, HB.out⟩
/-- What Check answers. -/
def checkR (l : List S30) : List Int := Lib.compact (asc (rej l ++ wetL (cmpd l 2) (cmpd l 3) (fnd l 2).1 (fnd l 3).1 ++ stormL (cmpd l 4) (cmpd l 5) (fnd l 4).1 (fnd l 5).1))
def limits_Check.f (l : List S30) : Option (List Int) := if l.length ≤ 1000 then some (checkR l) else none
theorem limits_Check.calls (A0 : Option Addr) (c0 : Nat) (l0 : List S30) (r : List Int) (w : World) (hL : Laid w) (hr0 : Kd.C k30 w A0 l0.length l0) (hc0 : l0.length ≤ c0) (h : limits_Check.f l0 = some r) :
    Calls Tryd.prog 8 #[.slice A0 l0.length c0] w fun e w' => ∃ v0_ : Value, e = .returned v0_ ∧ Kd.R (Kd.int .i64) 3 w' w.heap.size (fun _ => True) v0_ r ∧ Below w.heap.size w w' := by
  unfold limits_Check.f at h
  split at h
  case isFalse => cases h
  case isTrue hl =>
    obtain rfl := Option.some.inj h
    refine (check8 A0 c0 l0.length l0 rfl hl _ _ _ _ _ _ _ _ rfl rfl rfl rfl rfl rfl rfl rfl w hL hr0).mono ?_
    rintro e w' ⟨v, rfl, ho, hb⟩
    exact ⟨v, rfl, Kd.R_of_own ho.2 (fun _ _ => trivial), hb⟩
end Go.Proofs.YtbnkcajdgmbidaaDoor.B
