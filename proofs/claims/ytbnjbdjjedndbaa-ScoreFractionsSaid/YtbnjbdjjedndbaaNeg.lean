/- Negate of package synopticref22: the two's complement of two words. -/
import Derived.Test.YtbnjbdjjedndbaaWide
import Derived.Shelf.Spec.BitsCarry
import Derived.Laws.Bits64
import Derived.Laws.DeepNot64
namespace Go.Proofs.Ytbnjbdjjedndbaa.B
open Go.RowKit Go.Proofs.YtbnjbdjjedndbaaW.PrintWords Go.Proofs.YtbnjbdjjedndbaaW.PrintLast Go.Proofs.YtbnjbdjjedndbaaW.PrintMore
set_option linter.unusedVariables false

theorem add64 (x y c : Int) (hx : 0 ≤ x) (hx2 : x < 18446744073709551616) (hy : 0 ≤ y) (hy2 : y < 18446744073709551616) (hc0 : 0 ≤ c) (hc : c ≤ 1) (w : World) : (callFunc 70 #[.int .u64 x, .int .u64 y, .int .u64 c]).run Try.prog w =
    .ok (.value (.tuple #[.int .u64 ((x + y + c) % 18446744073709551616), .int .u64 ((x + y + c) / 18446744073709551616)])) w := by
  obtain ⟨x, rfl⟩ := Int.eq_ofNat_of_zero_le hx
  obtain ⟨y, rfl⟩ := Int.eq_ofNat_of_zero_le hy
  obtain ⟨c, rfl⟩ := Int.eq_ofNat_of_zero_le hc0
  rw [run_callFunc_extern (fn := Try.f70) Try.func70 (by kernel_rfl) (by kernel_rfl) (by kernel_rfl) (e := add64Entry) (by kernel_rfl), run_add64 x y c (by omega) (by omega) (by omega) (by omega)]
  simp only [Result.andThen]
theorem add64_0 (x y : Int) (hx : 0 ≤ x) (hx2 : x < 18446744073709551616) (hy : 0 ≤ y) (hy2 : y < 18446744073709551616) (w : World) : (callFunc 70 #[.int .u64 x, .int .u64 y, .int .u64 0]).run Try.prog w =
    .ok (.value (.tuple #[.int .u64 ((x + y) % 18446744073709551616), .int .u64 ((x + y) / 18446744073709551616)])) w := by
  simpa using add64 x y 0 hx hx2 hy hy2 (Int.le_refl 0) (by decide) w

/-- Add of a word pair and 1, for the hi that the convert gives. -/
theorem Add_is (ah al bh bl : Int) (h1 : 0 ≤ IntKind.u64.wrap ah ∧ IntKind.u64.wrap ah < 18446744073709551616) (h2 : 0 ≤ al ∧ al < 18446744073709551616) (h3 : 0 ≤ IntKind.u64.wrap bh ∧ IntKind.u64.wrap bh < 18446744073709551616) (h4 : 0 ≤ bl ∧ bl < 18446744073709551616) (w : World) :
    Calls Try.prog 69 #[.agg #[.int .i64 ah, .int .u64 al], .agg #[.int .i64 bh, .int .u64 bl]] w fun e w' =>
      e = .returned (.agg #[.int .i64 (wrap64 ((IntKind.u64.wrap ah + IntKind.u64.wrap bh + (al + bl) / 18446744073709551616) % 18446744073709551616)), .int .u64 ((al + bl) % 18446744073709551616)]) ∧ Below w.heap.size w w' := by
  obtain ⟨a1, a2⟩ := h1; obtain ⟨b1, b2⟩ := h2; obtain ⟨c1, c2⟩ := h3; obtain ⟨d1, d2⟩ := h4
  have k0 : 0 ≤ (al + bl) / 18446744073709551616 := by omega
  have k1 : (al + bl) / 18446744073709551616 ≤ 1 := by omega
  go_enter Try.func69, Try.ntmps69
  go_wp2_with (first | simp only [add64_0 al bl b1 b2 d1 d2] | simp only [add64 _ _ _ a1 a2 c1 c2 k0 k1])
  simp [bodyPost, results, Try.results69, go_sem]
  exact below_alloc (below_alloc (below_alloc (Below.refl _ _) _) _) _

theorem max64 : IntKind.max .u64 = 18446744073709551615 := by decide
theorem nat_not (x : Nat) (h : x < 18446744073709551616) : 18446744073709551615 ^^^ x = 18446744073709551615 - x := by
  have e : (BitVec.allOnes 64 ^^^ BitVec.ofNat 64 x) = ~~~ (BitVec.ofNat 64 x) := by rw [BitVec.allOnes_xor]
  have q := congrArg BitVec.toNat e
  rw [BitVec.toNat_xor, BitVec.toNat_not, BitVec.toNat_ofNat, BitVec.toNat_allOnes, Nat.mod_eq_of_lt (by omega)] at q
  omega
theorem xor_word (x : Int) (h : 0 ≤ x ∧ x < 18446744073709551616) : Go.bits .xor .u64 18446744073709551615 x = 18446744073709551615 - x := by
  obtain ⟨n, rfl⟩ := Int.eq_ofNat_of_zero_le h.1
  have e := bits_xor_u64_nat 18446744073709551615 n (by omega) (by omega)
  rw [nat_not n (by omega)] at e
  refine e.trans ?_
  omega
theorem Negate_is (ah al : Int) (h1 : 0 ≤ ah ∧ ah ≤ 9223372036854775807) (h2 : 0 ≤ al ∧ al < 18446744073709551616) (w : World) :
    Calls Try.prog 64 #[.agg #[.int .i64 ah, .int .u64 al]] w fun e w' =>
      e = .returned (.agg #[.int .i64 (wrap64 (-1 - ah + (18446744073709551616 - al) / 18446744073709551616)), .int .u64 ((18446744073709551616 - al) % 18446744073709551616)]) ∧ Below w.heap.size w w' := by
  have e1 := xor_word al h2
  have e2 : Go.bits .xor .i64 (-1) ah = -1 - ah := by
    obtain ⟨n, rfl⟩ := Int.eq_ofNat_of_zero_le h1.1
    exact i64_not n (by omega)
  go_enter Try.func64, Try.ntmps64
  go_wp2_with fail
  all_goals
    simp only [max64, e1]
    refine (Add_is (-1 - ah) (18446744073709551615 - al) 0 1 (by rw [u64_wrap]; omega) (by omega) (by rw [u64_wrap]; omega) (by omega) _).mono ?_
    rintro e w2 ⟨rfl, hb⟩
    obtain ⟨W, hW⟩ : ∃ W, W = ((w.alloc (Obj.cells #[Value.int IntKind.i64 ah, Value.int IntKind.u64 al] 59)).alloc (Obj.cells #[Value.int IntKind.i64 0, Value.int IntKind.u64 0] 59)) := ⟨_, rfl⟩
    have hB : Below w.heap.size w W := by rw [hW]; exact below_alloc (below_alloc (Below.refl _ _) _) _
    have BK : W.heap[w.heap.size + 1]? = some (.cells #[.int .i64 0, .int .u64 0] 59 (0, 0)) := by rw [hW]; have := Deep.blk_alloc_new (w.alloc (Obj.cells #[Value.int IntKind.i64 ah, Value.int IntKind.u64 al] 59)) (Obj.cells #[Value.int IntKind.i64 0, Value.int IntKind.u64 0] 59); simpa using this
    rw [← hW] at hb
    have BK2 := blk_below (blk_below BK (below_alloc (Below.refl _ _) _)) hb
    have hB2 := below_step (below_alloc hB _) hb
    have hc0 := blk_cell BK2 0
    have hc1 := blk_cell BK2 1
    have hf0 := blk_frozen BK2 0
    have hf1 := blk_frozen BK2 1
    go_wp2_with fail
    refine bodyPost_ret (results_cell_row rfl _ _ (w.heap.size + 1) 59 #[.int .i64 (wrap64 ((IntKind.u64.wrap (-1 - ah) + IntKind.u64.wrap 0 + (18446744073709551615 - al + 1) / 18446744073709551616) % 18446744073709551616)), .int .u64 ((18446744073709551615 - al + 1) % 18446744073709551616)] (0, 0) _ rfl (blk_put (cs := #[.int .i64 (wrap64 ((IntKind.u64.wrap (-1 - ah) + IntKind.u64.wrap 0 + (18446744073709551615 - al + 1) / 18446744073709551616) % 18446744073709551616)), .int .u64 0]) (blk_put (cs := #[.int .i64 0, .int .u64 0]) BK2 0 _ rfl) 1 _ rfl) Try.underlying59 rfl (by kernel_rfl)) rfl ?_
    refine ⟨?_, below_set (below_set hB2 (by omega)) (by omega)⟩
    have eX : wrap64 ((IntKind.u64.wrap (-1 - ah) + IntKind.u64.wrap 0 + (18446744073709551615 - al + 1) / 18446744073709551616) % 18446744073709551616) = wrap64 (-1 - ah + (18446744073709551616 - al) / 18446744073709551616) := by
      rw [u64_wrap, u64_wrap]; unfold wrap64; omega
    have eY : (18446744073709551615 - al + 1) % 18446744073709551616 = (18446744073709551616 - al) % 18446744073709551616 := by omega
    rw [eX, eY]
/-- The negative of a word pair that is not negative. -/
def synopticref22_Negate.f (a0_0 a0_1 : Int) : Option (Int × Int) := if 0 ≤ a0_0 ∧ a0_0 ≤ 9223372036854775807 ∧ 0 ≤ a0_1 ∧ a0_1 < 18446744073709551616 then some (wrap64 (-1 - a0_0 + (18446744073709551616 - a0_1) / 18446744073709551616), (18446744073709551616 - a0_1) % 18446744073709551616) else none
theorem synopticref22_Negate.calls (a0_0 a0_1 r1 r2 : Int) (w : World) (h : synopticref22_Negate.f a0_0 a0_1 = some (r1, r2)) :
    Calls Try.prog 64 #[.agg #[.int .i64 a0_0, .int .u64 a0_1]] w fun e w' => e = .returned (.agg #[.int .i64 r1, .int .u64 r2]) ∧ Below w.heap.size w w' := by
  unfold synopticref22_Negate.f at h
  split at h
  case isTrue c =>
    obtain ⟨c1, c2, c3, c4⟩ := c
    simp only [Option.some.injEq, Prod.mk.injEq] at h
    obtain ⟨rfl, rfl⟩ := h
    exact Negate_is a0_0 a0_1 ⟨c1, c2⟩ ⟨c3, c4⟩ w
  case isFalse => cases h
end Go.Proofs.Ytbnjbdjjedndbaa.B
