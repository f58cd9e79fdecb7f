/- A region that draws its order, each of whose operations tells one value in every world of a class and leaves a world of it: walked once, in the order of the text (no law is stated here; each says its conditions). -/
import Derived.Test.YtdmoembbgcoeaaaSt
import Derived.Deep.QuietTactic
import Derived.BigQuiet
namespace Go.Proofs.Ytdmoembbgcoeaaa.St
open Go.RowKit Go.Proofs.YtdmoembbgcoeaaaW.PrintWords Go.Proofs.YtdmoembbgcoeaaaW.PrintLast
set_option linter.unusedVariables false
/-- The lexical walk, behind a name that nothing opens. -/
structure WQ (P : Program) (ops : Array Oper) (C : World → Prop) (Q : Act → Prop) (l : List Oper) (a : Act) : Prop where mk :: (out : wpQuiet P ops C Q l a)
section
variable {P : Program} {ops : Array Oper} {o : Oper} {a : Act} {rest : List Oper} {C : World → Prop} {Q : Act → Prop}
theorem q_start {id : Nat} {Q : Exit → Act → World → Prop} {w : World} {l : List Oper} (hm : P.follows .mixedOrders = true) (hB : Region.lexB .any l.toArray = true) (C : World → Prop) (hC : C w.drew)
    (h : WQ P l.toArray C (fun a' => ∀ w', C w' → Q .normal a' w') l a) : (Code.region id l.toArray true).wp P Q a w := wp_region_quiet (C := C) hm hB hC (by simpa using h.out)
theorem q_op {v : Value} {a' : Act} (hw : Region.wanted o (yielded ops a.tmps) = true) (hy : ∀ w, C w → (execOp a.eval o).run P w = .ok (.value v) w) (ha : a.put o.dst v = a') (h : WQ P ops C Q rest a') : WQ P ops C Q (o :: rest) a := by
  subst ha
  refine ⟨BigFrame.wpQuiet_want hw (fun K hK => ⟨v, fun w hC => ?_, hK _ h.out⟩)⟩
  unfold Oper.quietAt
  rw [hy w hC]
  exact ⟨rfl, rfl⟩
theorem q_off {a' : Act} (hw : Region.wanted o (yielded ops a.tmps) = false) (ha : a.put o.dst undef = a') (h : WQ P ops C Q rest a') : WQ P ops C Q (o :: rest) a := by
  subst ha
  exact ⟨BigFrame.wpQuiet_skip hw h.out⟩
theorem q_call {a' : Act} {f : FuncId} {fn : Func} {as : Array Operand} {ts : Array TypeId} (hf : P.funcs[f]? = some fn) (hname : (fn.name == "runtime.NumGoroutine") = false) (hb : fn.body.isSome = true) (args : Array Value)
    (hw : Region.wanted o (yielded ops a.tmps) = true) (hop : o.op = .call { callee := .value (.func f), args := as, argTypes := ts }) (hargs : as.map a.eval = args) (v : Value)
    (hc : ∀ w, C w → Calls P f args w fun e w'' => e = .returned v ∧ C w'') (ha : a.put o.dst v = a') (h : WQ P ops C Q rest a') : WQ P ops C Q (o :: rest) a := by
  subst ha
  refine ⟨BigFrame.wpQuiet_want hw (fun K hK => ⟨v, fun w hC => ?_, hK _ h.out⟩)⟩
  unfold Oper.quietAt
  have he := enters_ hf hname hb args w
  have hrun : (execOp a.eval o).run P w = .ok (.enter f args) w := by
    unfold execOp
    simp [hop, resolve, Deferred.ofValue, invoke, Act.eval, hargs, he]
  rw [hrun]
  exact ⟨rfl, hc w hC⟩
theorem q_nil (h : Q a) : WQ P ops C Q [] a := ⟨wpQuiet_nil h⟩
end
end Go.Proofs.Ytdmoembbgcoeaaa.St
