/- A call of a function value that lies in a slot, in a region that is told order by order. -/
import Derived.Test.YtbnjbdjjedndbaaB1
namespace Go.Proofs.Ytbnjbdjjedndbaa.B
open Go.RowKit Go.Proofs.YtbnjbdjjedndbaaW.PrintWords Go.Proofs.YtbnjbdjjedndbaaW.PrintLast Go.Proofs.YtbnjbdjjedndbaaW.PrintMore
set_option linter.unusedVariables false
variable {P : Program} {ops : Array Oper} {Q : Exit → Act → World → Prop}
theorem goesV_ {oi : Oper} {N : Option Tmp} {a : Act} {w : World} {K : Act → World → Prop} {f : FuncId} {s : Tmp} {fn : Func} {az : Array Operand} {ts : Array TypeId} (hf : P.funcs[f]? = some fn) (hname : (fn.name == "runtime.NumGoroutine") = false) (hb : fn.body.isSome = true) (args : Array Value)
    (hw : Region.wanted oi (yielded ops a.tmps) = true) (hN : oi.dst = N) (hop : oi.op = .call { callee := .value (.tmp s), args := az, argTypes := ts }) (hs : a.eval (.tmp s) = .func (.func f) #[] #[]) (hargs : az.map a.eval = args)
    (h : Calls P f args w fun e w' => ∃ v, e = .returned v ∧ K (a.put N v) w') : if Region.wanted oi (yielded ops a.tmps) = true then Oper.wp P oi a w K Q else K (a.put N undef) w := by
  refine call_ f args hw hN ?_ h
  have he := enters_ hf hname hb args w
  unfold execOp
  simp [hop, resolve, Deferred.ofValue, invoke, hs, hargs, he]
theorem field42_ (a b c d : Value) (w : World) : Sem.run Try.prog (Instr.field 42 (.agg #[a, b, c, d]) 0) w = .ok a w := by rfl
end Go.Proofs.Ytbnjbdjjedndbaa.B
