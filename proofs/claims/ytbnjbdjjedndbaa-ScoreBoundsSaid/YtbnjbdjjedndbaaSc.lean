/- The four functions in the table of scores, and the table. -/
import Derived.Test.YtbnjbdjjedndbaaRed
import Derived.Test.YtbnjbdjjedndbaaBA
import Derived.Lib.Hide
namespace Go.Proofs.Ytbnjbdjjedndbaa.B
open Go.RowKit Go.Proofs.YtbnjbdjjedndbaaW.PrintWords Go.Proofs.YtbnjbdjjedndbaaW.PrintLast Go.Proofs.YtbnjbdjjedndbaaW.PrintMore

theorem sc65 (h a m o : Int) (w : World) : Calls Try.prog 65 #[.agg #[.int .i64 h, .int .i64 a, .int .i64 m, .int .i64 o]] w fun e w' => e = .returned (.tuple #[.int .i64 h, .int .i64 (wrap64 (h + m))]) ∧ Below w.heap.size w w' := by
  go_enter Try.func65, Try.ntmps65
  go_wp2_with fail
  go_quiet (fail)
  go_wp2
  go_ret2
  exact ⟨rfl, pw_below_drewN (below_alloc (Below.refl _ _) _) _⟩
theorem sc66 (h a m o : Int) (w : World) : Calls Try.prog 66 #[.agg #[.int .i64 h, .int .i64 a, .int .i64 m, .int .i64 o]] w fun e w' => e = .returned (.tuple #[.int .i64 a, .int .i64 (wrap64 (h + a))]) ∧ Below w.heap.size w w' := by
  go_enter Try.func66, Try.ntmps66
  go_wp2_with fail
  go_quiet (fail)
  go_wp2
  go_ret2
  exact ⟨rfl, pw_below_drewN (below_alloc (Below.refl _ _) _) _⟩
theorem sc67 (h a m o : Int) (w : World) : Calls Try.prog 67 #[.agg #[.int .i64 h, .int .i64 a, .int .i64 m, .int .i64 o]] w fun e w' => e = .returned (.tuple #[.int .i64 h, .int .i64 (wrap64 (wrap64 (h + a) + m))]) ∧ Below w.heap.size w w' := by
  go_enter Try.func67, Try.ntmps67
  go_wp2_with fail
  go_quiet (fail)
  go_wp2
  go_ret2
  exact ⟨rfl, pw_below_drewN (below_alloc (Below.refl _ _) _) _⟩
set_option maxHeartbeats 400000 in
theorem sc68 (h a m o : Int) (w : World) : Calls Try.prog 68 #[.agg #[.int .i64 h, .int .i64 a, .int .i64 m, .int .i64 o]] w fun e w' => e = .returned (.tuple #[.int .i64 (wrap64 (2 * wrap64 (wrap64 (h * o) - wrap64 (a * m)))), .int .i64 (wrap64 (wrap64 (wrap64 (h + m) * wrap64 (m + o)) + wrap64 (wrap64 (h + a) * wrap64 (a + o))))]) ∧ Below w.heap.size w w' := by
  go_enter Try.func68, Try.ntmps68
  go_wp2_with fail
  go_quiet (fail)
  go_wp2
  go_ret2
  exact ⟨rfl, pw_below_drewN (below_alloc (Below.refl _ _) _) _⟩
theorem sc58 (w : World) : Calls Try.prog 58 #[] w fun e w' => e = .returned (.slice (some ⟨w.heap.size, 0, none⟩) 4 4) ∧ w' = w.alloc (.cells #[.func (Fn.func 65) #[] #[], .func (Fn.func 66) #[] #[], .func (Fn.func 67) #[] #[], .func (Fn.func 68) #[] #[]] 82) := by
  go_enter Try.func58, Try.ntmps58
  go_wp2_with fail
  go_ret
  exact ⟨rfl, rfl⟩
end Go.Proofs.Ytbnjbdjjedndbaa.B
