/- DERIVED. Calls through a variable that holds a closure: what it has captured is handed over behind the arguments. Conditions: those that each lemma names. -/
import Derived.Test.YtmgjccpolkhhhaaId
namespace Go.Proofs.Ytmgjccpolkhhhaa.Ic
open Go.Shelf Go.RowKit Go.Lib Go.Proofs.Ytmgjccpolkhhhaa.PAll Go.Proofs.YtmgjccpolkhhhaaW.PrintWords Go.Proofs.YtmgjccpolkhhhaaW.PrintLast Go.Proofs.Ytmgjccpolkhhhaa.Hl Go.Proofs.Ytmgjccpolkhhhaa.In Go.Proofs.Ytmgjccpolkhhhaa.Is Go.Proofs.Ytmgjccpolkhhhaa.Id
set_option linter.unusedSimpArgs false
set_option linter.unusedVariables false
variable {P : Program} {ops : Array Oper} {Q : Exit → Act → World → Prop} {rest : List Oper}
theorem run_closure {oi : Oper} {a : Act} {w : World} {t : Tmp} {f : FuncId} {fn : Func} {xa : Array Operand} {ts : Array TypeId} (hf : P.funcs[f]? = some fn) (hname : (fn.name == "runtime.NumGoroutine") = false) (hb : fn.body.isSome = true) (args cap : Array Value)
    (hop : oi.op = .call { callee := .value (.tmp t), args := xa, argTypes := ts }) (hargs : xa.map a.eval = args) (hv : a.eval (.tmp t) = .func (.func f) #[] cap) : (execOp a.eval oi).run P w = .ok (.enter f (args ++ cap)) w := by
  have he := enters_ hf hname hb (args ++ cap) w
  unfold execOp
  simp [hop, resolve, Deferred.ofValue, invoke, hv, hargs, he]
/-- A call of a closure, in a plain region. -/
theorem goesLC {oi : Oper} {a : Act} {w : World} (N : Option Tmp) (hd : oi.dst = N) (hg : oi.guard = none) {t : Tmp} {f : FuncId} {fn : Func} {xa : Array Operand} {ts : Array TypeId} (hf : P.funcs[f]? = some fn) (hname : (fn.name == "runtime.NumGoroutine") = false) (hb : fn.body.isSome = true) (args cap : Array Value)
    (hop : oi.op = .call { callee := .value (.tmp t), args := xa, argTypes := ts }) (hargs : xa.map a.eval = args) (hv : a.eval (.tmp t) = .func (.func f) #[] cap)
    (h : Calls P f (args ++ cap) w fun e w' => ∃ v, e = .returned v ∧ wpList P ops Q rest (a.put N v) w') : wpList P ops Q (oi :: rest) a w := by
  refine wpList_plain hg fun K hK => ?_
  have hrun := run_closure (P := P) (w := w) hf hname hb args cap hop hargs hv
  unfold Oper.wp
  rw [hrun, Oper.upon_enter]
  refine h.mono fun e w'' hh => ?_
  obtain ⟨v, rfl, hk⟩ := hh
  subst hd
  exact hK _ _ hk
/-- The same, in a region that draws its order. -/
theorem goesC {oi : Oper} {N : Option Tmp} {a : Act} {w : World} {K : Act → World → Prop} {t : Tmp} {f : FuncId} {fn : Func} {xa : Array Operand} {ts : Array TypeId} (hf : P.funcs[f]? = some fn) (hname : (fn.name == "runtime.NumGoroutine") = false) (hb : fn.body.isSome = true) (args cap : Array Value)
    (hw : Region.wanted oi (yielded ops a.tmps) = true) (hN : oi.dst = N) (hop : oi.op = .call { callee := .value (.tmp t), args := xa, argTypes := ts }) (hargs : xa.map a.eval = args) (hv : a.eval (.tmp t) = .func (.func f) #[] cap)
    (h : Calls P f (args ++ cap) w fun e w' => ∃ v, e = .returned v ∧ K (a.put N v) w') : if Region.wanted oi (yielded ops a.tmps) = true then Oper.wp P oi a w K Q else K (a.put N undef) w :=
  call_ f (args ++ cap) hw hN (run_closure (P := P) (w := w) hf hname hb args cap hop hargs hv) h
end Go.Proofs.Ytmgjccpolkhhhaa.Ic
