/- Steps of the walk that the printed words lack: a call of a slot that holds a function without captured variables. -/
import Derived.Test.YtenbofpmbdibjaaWMore
namespace Go.Proofs.YtenbofpmbdibjaaW.PrintWords
open Go.RowKit Go.Proofs.YtenbofpmbdibjaaW.PrintLast Go.Proofs.YtenbofpmbdibjaaW.PrintMore
section
variable {P : Program} {ops : Array Oper} {Q : Exit → Act → World → Prop}
/-- The operation is a call of what a slot holds. -/
theorem gate_tmp {rest : List Oper} {o : Oper} {a : Act} {W : World} {t : Tmp} {as : Array Operand} {ts : Array TypeId} (_ho : o.op = .call { callee := .value (.tmp t), args := as, argTypes := ts })
    (h : wpList P ops Q (o :: rest) a W) : wpList P ops Q (o :: rest) a W := h
/-- A call, in a plain region, of a function that a slot holds. -/
theorem goesT_ {rest : List Oper} {oi : Oper} {a : Act} {w : World} (N : Option Tmp) (hd : oi.dst = N) (hg : oi.guard = none) {f : FuncId} {fn : Func} {t : Tmp} {as : Array Operand} {ts : Array TypeId}
    (hf : P.funcs[f]? = some fn) (hname : (fn.name == "runtime.NumGoroutine") = false) (hb : fn.body.isSome = true) (args : Array Value)
    (hop : oi.op = .call { callee := .value (.tmp t), args := as, argTypes := ts }) (hv : a.eval (.tmp t) = .func (.func f) #[] #[]) (hargs : as.map a.eval = args)
    (h : Calls P f args w fun e w' => ∃ v, e = .returned v ∧ wpList P ops Q rest (a.put N v) w') : wpList P ops Q (oi :: rest) a w := by
  refine wpList_plain hg fun K hK => ?_
  have he := enters_ hf hname hb args w
  have hrun : (execOp a.eval oi).run P w = .ok (.enter f args) w := by
    unfold execOp
    simp [hop, resolve, Deferred.ofValue, invoke, hv, hargs, he]
  unfold Oper.wp
  rw [hrun, Oper.upon_enter]
  refine h.mono fun e w'' hh => ?_
  obtain ⟨v, rfl, hk⟩ := hh
  subst hd
  exact hK _ _ hk
end
end Go.Proofs.YtenbofpmbdibjaaW.PrintWords
namespace Go.Proofs.YtenbofpmbdibjaaW.PrintWords
open Go.RowKit Go.Proofs.YtenbofpmbdibjaaW.PrintLast Go.Proofs.YtenbofpmbdibjaaW.PrintMore
theorem lit_of {a : ByteArray} {l : List UInt8} (h : a.toList = l) : a = ⟨l.toArray⟩ := by
  rw [ByteArray.toList_eq] at h
  cases a
  subst h
  rfl
/-- A cell of an elder world stands where only what is newer has been written. -/
theorem cb_cell {w W : World} {ad : Addr} {v : Value} (h : w.cell? ad = some v) (hb : Below w.heap.size w W) : W.cell? ad = some v := by
  have hlt := World.block_lt_of_cell? w ad h
  unfold World.cell? at h ⊢
  rw [hb.block ad.block hlt]
  exact h
theorem cb_lt {w : World} {b o : Nat} {v : Value} (h : w.cell? ⟨b, o, none⟩ = some v) : b < w.heap.size := World.block_lt_of_cell? w ⟨b, o, none⟩ h
section
variable {P : Program} {ops : Array Oper} {Q : Exit → Act → World → Prop}
/-- A call, in a plain region, of a closure that a slot holds: what it captured stands behind its own arguments. -/
theorem goesC_ {rest : List Oper} {oi : Oper} {a : Act} {w : World} (N : Option Tmp) (hd : oi.dst = N) (hg : oi.guard = none) {f : FuncId} {fn : Func} {t : Tmp} {as : Array Operand} {ts : Array TypeId}
    (hf : P.funcs[f]? = some fn) (hname : (fn.name == "runtime.NumGoroutine") = false) (hb : fn.body.isSome = true) (args cap full : Array Value) (hfull : args ++ cap = full)
    (hop : oi.op = .call { callee := .value (.tmp t), args := as, argTypes := ts }) (hv : a.eval (.tmp t) = .func (.func f) #[] cap) (hargs : as.map a.eval = args)
    (h : Calls P f full w fun e w' => ∃ v, e = .returned v ∧ wpList P ops Q rest (a.put N v) w') : wpList P ops Q (oi :: rest) a w := by
  refine wpList_plain hg fun K hK => ?_
  subst hfull
  have he := enters_ hf hname hb (args ++ cap) w
  have hrun : (execOp a.eval oi).run P w = .ok (.enter f (args ++ cap)) w := by
    unfold execOp
    simp [hop, resolve, Deferred.ofValue, invoke, hv, hargs, he]
  unfold Oper.wp
  rw [hrun, Oper.upon_enter]
  refine h.mono fun e w'' hh => ?_
  obtain ⟨v, rfl, hk⟩ := hh
  subst hd
  exact hK _ _ hk
end
end Go.Proofs.YtenbofpmbdibjaaW.PrintWords
namespace Go.Proofs.YtenbofpmbdibjaaW.PrintWords
open Go.RowKit
/-- Of two texts one stands ahead, or they are the same. -/
theorem bytesLess_total (a b : List UInt8) : (Op.bytesLess a b || a == b) = !(Op.bytesLess b a) := by
  induction a generalizing b with
  | nil => cases b <;> rfl
  | cons x a ih =>
    cases b with
    | nil => rfl
    | cons y b =>
      have := ih b
      simp only [Op.bytesLess]
      by_cases h : x = y
      · subst h
        have e : (x :: a == x :: b) = (a == b) := by rw [Bool.eq_iff_iff, beq_iff_eq, beq_iff_eq]; simp
        have hi : decide (x < x) = false := decide_eq_false (by rw [UInt8.lt_iff_toNat_lt]; omega)
        rw [e, hi]
        simpa using this
      · have hne : x.toNat ≠ y.toNat := fun e => h (UInt8.toNat_inj.1 e)
        have e : (x :: a == y :: b) = false := by rw [beq_eq_false_iff_ne]; intro q; injection q with q; exact h q
        have e1 : (x == y) = false := beq_eq_false_iff_ne.mpr h
        have e2 : (y == x) = false := beq_eq_false_iff_ne.mpr (fun q => h q.symm)
        rw [e, e1, e2, Bool.false_and, Bool.false_and, Bool.or_false, Bool.or_false, Bool.or_false, Bool.eq_iff_iff]
        simp only [decide_eq_true_eq, Bool.not_eq_true', decide_eq_false_iff_not, UInt8.lt_iff_toNat_lt]
        omega
theorem str_leq (t : TypeId) (a b : ByteArray) : binOp .leq t (.string a) (.string b) = pure (.bool (!(Op.bytesLess b.toList a.toList))) := by
  rw [← bytesLess_total]; simp [binOp, Op.stringOp]
theorem str_gtr (t : TypeId) (a b : ByteArray) : binOp .gtr t (.string a) (.string b) = pure (.bool (Op.bytesLess b.toList a.toList)) := by
  rw [show Op.bytesLess b.toList a.toList = !(!(Op.bytesLess b.toList a.toList)) from (Bool.not_not _).symm, ← bytesLess_total]; simp [binOp, Op.stringOp]
theorem str_geq (t : TypeId) (a b : ByteArray) : binOp .geq t (.string a) (.string b) = pure (.bool (!(Op.bytesLess a.toList b.toList))) := by simp [binOp, Op.stringOp]
/-- What is shared lies in the blocks that are told: another block is not its own. -/
theorem Kd.V_away {α : Type} {d : Kd α} {e base g : Nat} {ok : Nat → Prop} {W : World} {v : Value} {xs : List α} (h : d.V e W base ok v xs) (hok : ∀ k, ok k → k ≠ g)
    (hl : 0 < xs.length := by first | omega | exact Int.ofNat_lt.1 (show (0 : Int) < _ from of_decide_eq_true (by assumption)) | exact Int.ofNat_lt.1 (show (0 : Int) < _ from of_eq_true (by assumption)) | exact Nat.lt_of_le_of_lt (Nat.zero_le _) (Int.ofNat_lt.1 (show (1 : Int) < _ from of_decide_eq_true (by assumption))))
    (hd : 0 < d.sz := by first | decide | exact Nat.zero_lt_succ _) : some g ≠ v.ownBlock := by
  obtain ⟨A, c, rfl, _, hF⟩ := h
  obtain ⟨ad, _, rfl, _, _, _, hin⟩ := F_get hF (xs[0]'hl) 0 (by omega) (by omega)
  intro he
  simp only [Value.ownBlock] at he
  injection he with he
  exact hok _ (hin hd) he.symm
end Go.Proofs.YtenbofpmbdibjaaW.PrintWords
