/- Steps of the walk that the printed words lack: a call of a slot that holds a function without captured variables. -/
import Derived.Test.YtlajpfdmbagedaaDoorWMore
namespace Go.Proofs.YtlajpfdmbagedaaDoorW.PrintWords
open Go.RowKit Go.Proofs.YtlajpfdmbagedaaDoorW.PrintLast Go.Proofs.YtlajpfdmbagedaaDoorW.PrintMore
section
variable {P : Program} {ops : Array Oper} {Q : Exit → Act → World → Prop}
/-- The operation is a call of what a slot holds. -/
theorem gate_tmp {rest : List Oper} {o : Oper} {a : Act} {W : World} {t : Tmp} {as : Array Operand} {ts : Array TypeId} (_ho : o.op = .call { callee := .value (.tmp t), args := as, argTypes := ts })
    (h : wpList P ops Q (o :: rest) a W) : wpList P ops Q (o :: rest) a W := h
/-- A call, in a plain region, of a function that a slot holds. -/
theorem goesT_ {rest : List Oper} {oi : Oper} {a : Act} {w : World} (N : Option Tmp) (hd : oi.dst = N) (hg : oi.guard = none) {f : FuncId} {fn : Func} {t : Tmp} {as : Array Operand} {ts : Array TypeId}
    (hf : P.funcs[f]? = some fn) (hname : (fn.name == "runtime.NumGoroutine") = false) (hb : fn.body.isSome = true) (args : Array Value)
    (hop : oi.op = .call { callee := .value (.tmp t), args := as, argTypes := ts }) (hv : a.eval (.tmp t) = .func (.func f) #[] #[]) (hargs : as.map a.eval = args)
    (h : Calls P f args w fun e w' => ∃ v, e = .returned v ∧ wpList P ops Q rest (a.put N v) w') : wpList P ops Q (oi :: rest) a w := by
  refine wpList_plain hg fun K hK => ?_
  have he := enters_ hf hname hb args w
  have hrun : (execOp a.eval oi).run P w = .ok (.enter f args) w := by
    unfold execOp
    simp [hop, resolve, Deferred.ofValue, invoke, hv, hargs, he]
  unfold Oper.wp
  rw [hrun, Oper.upon_enter]
  refine h.mono fun e w'' hh => ?_
  obtain ⟨v, rfl, hk⟩ := hh
  subst hd
  exact hK _ _ hk
end
end Go.Proofs.YtlajpfdmbagedaaDoorW.PrintWords
namespace Go.Proofs.YtlajpfdmbagedaaDoorW.PrintWords
open Go.RowKit Go.Proofs.YtlajpfdmbagedaaDoorW.PrintLast Go.Proofs.YtlajpfdmbagedaaDoorW.PrintMore
theorem lit_of {a : ByteArray} {l : List UInt8} (h : a.toList = l) : a = ⟨l.toArray⟩ := by
  rw [ByteArray.toList_eq] at h
  cases a
  subst h
  rfl
/-- A cell of an elder world stands where only what is newer has been written. -/
theorem cb_cell {w W : World} {ad : Addr} {v : Value} (h : w.cell? ad = some v) (hb : Below w.heap.size w W) : W.cell? ad = some v := by
  have hlt := World.block_lt_of_cell? w ad h
  unfold World.cell? at h ⊢
  rw [hb.block ad.block hlt]
  exact h
theorem cb_lt {w : World} {b o : Nat} {v : Value} (h : w.cell? ⟨b, o, none⟩ = some v) : b < w.heap.size := World.block_lt_of_cell? w ⟨b, o, none⟩ h
section
variable {P : Program} {ops : Array Oper} {Q : Exit → Act → World → Prop}
/-- A call, in a plain region, of a closure that a slot holds: what it captured stands behind its own arguments. -/
theorem goesC_ {rest : List Oper} {oi : Oper} {a : Act} {w : World} (N : Option Tmp) (hd : oi.dst = N) (hg : oi.guard = none) {f : FuncId} {fn : Func} {t : Tmp} {as : Array Operand} {ts : Array TypeId}
    (hf : P.funcs[f]? = some fn) (hname : (fn.name == "runtime.NumGoroutine") = false) (hb : fn.body.isSome = true) (args cap full : Array Value) (hfull : args ++ cap = full)
    (hop : oi.op = .call { callee := .value (.tmp t), args := as, argTypes := ts }) (hv : a.eval (.tmp t) = .func (.func f) #[] cap) (hargs : as.map a.eval = args)
    (h : Calls P f full w fun e w' => ∃ v, e = .returned v ∧ wpList P ops Q rest (a.put N v) w') : wpList P ops Q (oi :: rest) a w := by
  refine wpList_plain hg fun K hK => ?_
  subst hfull
  have he := enters_ hf hname hb (args ++ cap) w
  have hrun : (execOp a.eval oi).run P w = .ok (.enter f (args ++ cap)) w := by
    unfold execOp
    simp [hop, resolve, Deferred.ofValue, invoke, hv, hargs, he]
  unfold Oper.wp
  rw [hrun, Oper.upon_enter]
  refine h.mono fun e w'' hh => ?_
  obtain ⟨v, rfl, hk⟩ := hh
  subst hd
  exact hK _ _ hk
end
end Go.Proofs.YtlajpfdmbagedaaDoorW.PrintWords
