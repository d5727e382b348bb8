-- Printed by this session's own program (wip/tools/mkprint.py) out of the translation. Not trusted: Lean checks it.
import Derived.Test.YthcldodehfdhiaaProg
import Derived.Below
import Derived.Deep.Draws
import Derived.Deep.AppendLies
import Derived.Maps.AppendAt
import Derived.OwnWalk
import Derived.Laws.BytesArg
import Derived.Laws.MakeOwn
import Derived.Laws.OwnMore
import Derived.Deep.OwnRows
import Derived.Tactics
import Derived.Lib.ConvBytes
import Derived.Laws.Slices
import Derived.WalkKit
import Derived.KernelRfl
import Derived.RowKit3
import Derived.Deep.LoopGhost
import Derived.Deep.QuietTactic
import Derived.BigQuiet
import Derived.WideLaws
import Derived.Deep.DeepCutAuto
import Derived.Deep.CutBlock
import Derived.Deep.RegionHeld3
import Derived.Laws.Rows
import Derived.Lib.AppendStr
import Derived.ArgAppend
import Derived.Laws.IdiomCopy
import Derived.OrdersHeld
import Derived.Laws.BitsLemmas
import Derived.RowKit
import Derived.Test.YthcldodehfdhiaaWWords
import Derived.Test.YthcldodehfdhiaaWLast
import Derived.Test.YthcldodehfdhiaaWTab
import Derived.Test.YthcldodehfdhiaaWFour
import Derived.Test.YthcldodehfdhiaaWQPut
import Derived.Test.YthcldodehfdhiaaWApart
import Derived.Test.YthcldodehfdhiaaWArr
import Derived.Test.YthcldodehfdhiaaWZeros
import Derived.Test.YthcldodehfdhiaaWFoot
import Derived.Test.YthcldodehfdhiaaWKept
import Derived.Test.YthcldodehfdhiaaWShare
import Derived.Test.YthcldodehfdhiaaWN
import Derived.Test.YthcldodehfdhiaaWFootNe
import Derived.Test.YthcldodehfdhiaaWAt
import Derived.Test.YthcldodehfdhiaaWEqStruct
import Derived.Test.YthcldodehfdhiaaWRepsOne
import Derived.Test.YthcldodehfdhiaaWInv
import Derived.Test.YthcldodehfdhiaaWInvWords
import Derived.Test.YthcldodehfdhiaaWGuard
import Derived.Test.YthcldodehfdhiaaWNEv
import Derived.Test.YthcldodehfdhiaaWMore
namespace Go.Proofs.Ythcldodehfdhiaa.P
open Go.RowKit Go.Proofs.YthcldodehfdhiaaW.PrintWords Go.Proofs.YthcldodehfdhiaaW.PrintLast Go.Proofs.YthcldodehfdhiaaW.PrintMore
attribute [local go_sem] max2_int min2_int max_two min_two max_three min_three max_four min_four   -- for this text's walks alone
set_option linter.unusedVariables false
set_option linter.unusedSimpArgs false



def errW : Option Int → Value
  | none => .nilIface
  | some c => .iface 0 (.int .i64 c)
theorem errW_none : errW none = .nilIface := rfl
theorem errW_some (c : Int) : errW (some c) = .iface 0 (.int .i64 c) := rfl

theorem info3 : (Try.prog.info? 3).map (fun i => (i.zero, i.size, i.bytes)) = some (some (.int .i64 0), 1, 8) := by kernel_rfl
theorem info4 : (Try.prog.info? 4).map (fun i => (i.zero, i.size, i.bytes)) = some (some (.bool false), 1, 1) := by kernel_rfl
-- the values' own types


/-! A region that draws its order, whose operations read and whose calls make: one walk, in the text's order, over all worlds that lie behind the one at its head. -/
section
variable {P : Program} {ops : Array Oper} {C : World → Prop} {Q : Act → Prop} {o : Oper} {rest : List Oper} {a : Act}
theorem qb_region {id : Nat} {l : List Oper} {Q : Exit → Act → World → Prop} {w : World} (hm : P.follows .mixedOrders = true) (hB : Region.lexB .any l.toArray = true)
    (h : wpQuiet P l.toArray (fun w' => Below w.heap.size w w') (fun a' => ∀ w', Below w.heap.size w w' → Q .normal a' w') l a) : (Code.region id l.toArray true).wp P Q a w :=
  wp_region_quiet hm hB (show Below w.heap.size w w.drew from below_drew (Below.refl _ _)) h
theorem qb_skip (a' : Act) (hw : Region.wanted o (yielded ops a.tmps) = false) (ha : a.put o.dst undef = a') (h : wpQuiet P ops C Q rest a') : wpQuiet P ops C Q (o :: rest) a := by
  subst ha
  simp only [wpQuiet, hw]
  exact h
theorem qb_val (v : Value) (a' : Act) (hw : Region.wanted o (yielded ops a.tmps) = true) (hr : ∀ w', C w' → (execOp a.eval o).run P w' = .ok (.value v) w') (ha : a.put o.dst v = a') (h : wpQuiet P ops C Q rest a') : wpQuiet P ops C Q (o :: rest) a := by
  subst ha
  simp only [wpQuiet, hw, if_true]
  refine ⟨v, fun w' hc => ?_, h⟩
  unfold Oper.quietAt
  rw [hr w' hc]
  exact ⟨rfl, rfl⟩
theorem qb_callN (N : Tmp) (_ : o.dst = some N) (h : wpQuiet P ops C Q (o :: rest) a) : wpQuiet P ops C Q (o :: rest) a := h
theorem qb_call (N : Tmp) (hd : o.dst = some N) (v : Value) (a' : Act) (hw : Region.wanted o (yielded ops a.tmps) = true) {f : FuncId} {fn : Func} {us : Array Operand} {ts : Array TypeId} (hf : P.funcs[f]? = some fn) (hname : (fn.name == "runtime.NumGoroutine") = false) (hb : fn.body.isSome = true) (args : Array Value)
    (hop : o.op = .call { callee := .value (.func f), args := us, argTypes := ts }) (hargs : us.map a.eval = args) (hc : ∀ w', C w' → Calls P f args w' fun e w'' => e = .returned v ∧ C w'') (ha : a.put (some N) v = a') (h : wpQuiet P ops C Q rest a') : wpQuiet P ops C Q (o :: rest) a := by
  subst ha
  simp only [wpQuiet, hw, if_true]
  refine ⟨v, fun w' hcw => ?_, by rw [hd]; exact h⟩
  unfold Oper.quietAt
  have he := enters_ hf hname hb args w'
  have hrun : (execOp a.eval o).run P w' = .ok (.enter f args) w' := by
    unfold execOp
    simp [hop, resolve, Deferred.ofValue, invoke, Act.eval, hargs, he]
  rw [hrun]
  exact ⟨rfl, hc w' hcw⟩
end

def OFn (K : Nat) : Prop := ∃ fn, Try.prog.funcs[K]? = some fn ∧ (fn.name == "runtime.NumGoroutine") = false ∧ fn.body.isSome = true
theorem below_steps_1 {a b c : World} (h : Below a.heap.size a b) (h1 : Below b.heap.size b c) : Below a.heap.size a c := below_step h h1
theorem below_steps_2 {a b c d : World} (h : Below a.heap.size a b) (h1 : Below b.heap.size b c) (h2 : Below c.heap.size c d) : Below a.heap.size a d := below_step (below_step h h1) h2
theorem gate_calleeO {P : Program} {ops : Array Oper} {o : Oper} {rest : List Oper} {a : Act} {Q : Exit → Act → World → Prop} {W : World} {t : Tmp} {us : Array Operand} {ts : Array TypeId} (_ho : o.op = .call { callee := .value (.tmp t), args := us, argTypes := ts }) (h : wpList P ops Q (o :: rest) a W) : wpList P ops Q (o :: rest) a W := h
theorem goesO_run {oi : Oper} {a : Act} {w : World} {f : Nat} {F C : Array Value} {t : Tmp} {us : Array Operand} {ts : Array TypeId} (hG : OFn f) (args : Array Value)
    (hop : oi.op = .call { callee := .value (.tmp t), args := us, argTypes := ts }) (hargs : us.map a.eval = args) (hv : a.eval (.tmp t) = .func (.func f) F C) :
    (execOp a.eval oi).run Try.prog w = .ok (.enter f (F ++ args ++ C)) w := by
  obtain ⟨fn, hf, hname, hb⟩ := hG
  have he := enters_ hf hname hb (F ++ args ++ C) w
  have e1 : a.tmps.getD t undef = .func (.func f) F C := hv
  unfold execOp
  simp only [hop, resolve, Act.eval, e1]
  rw [Array.append_assoc] at he ⊢
  simp [Deferred.ofValue, invoke, hargs, he]
theorem goesO_ {ops : Array Oper} {Q : Exit → Act → World → Prop} {oi : Oper} {N : Option Tmp} {a : Act} {w : World} {K : Act → World → Prop} {f : Nat} {F C : Array Value} {t : Tmp} {us : Array Operand} {ts : Array TypeId} (hG : OFn f) (args : Array Value)
    (hw : Region.wanted oi (yielded ops a.tmps) = true) (hN : oi.dst = N) (hop : oi.op = .call { callee := .value (.tmp t), args := us, argTypes := ts }) (hargs : us.map a.eval = args) (hv : a.eval (.tmp t) = .func (.func f) F C)
    (h : Calls Try.prog f (F ++ args ++ C) w fun e w' => ∃ v, e = .returned v ∧ K (a.put N v) w') : if Region.wanted oi (yielded ops a.tmps) = true then Oper.wp Try.prog oi a w K Q else K (a.put N undef) w :=
  call_ f _ hw hN (goesO_run hG args hop hargs hv) h
theorem goesOL_ {ops : Array Oper} {Q : Exit → Act → World → Prop} {rest : List Oper} {oi : Oper} {a : Act} {w : World} (N : Option Tmp) (hd : oi.dst = N) (hg : oi.guard = none) {f : Nat} {F C : Array Value} {t : Tmp} {us : Array Operand} {ts : Array TypeId} (hG : OFn f) (args : Array Value)
    (hop : oi.op = .call { callee := .value (.tmp t), args := us, argTypes := ts }) (hargs : us.map a.eval = args) (hv : a.eval (.tmp t) = .func (.func f) F C)
    (h : Calls Try.prog f (F ++ args ++ C) w fun e w' => ∃ v, e = .returned v ∧ wpList Try.prog ops Q rest (a.put N v) w') : wpList Try.prog ops Q (oi :: rest) a w := by
  refine wpList_plain hg fun K hK => ?_
  have hrun := goesO_run (w := w) hG args hop hargs hv
  unfold Oper.wp
  rw [hrun, Oper.upon_enter]
  refine h.mono fun e w'' hh => ?_
  obtain ⟨v, rfl, hk⟩ := hh
  subst hd
  exact hK _ _ hk

abbrev OC32 (w0 : World) (fx : Int → Int → Option (Int)) (K : Nat) (F C : Array Value) : Prop := ∀ (a0 : Int) (a1 : Int) (r : Int) (w : World) (_ : Below w0.heap.size w0 w) (_ : fx a0 a1 = some r),
    Calls Try.prog K (F ++ #[.int .i64 a0, .int .i64 a1] ++ C) w fun e w' => e = .returned (.int .i64 r) ∧ Below w.heap.size w w'
theorem OC32.step {w0 w1 : World} {fx : Int → Int → Option (Int)} {K : Nat} {F C : Array Value} (h : OC32 w0 fx K F C) (hb : Below w0.heap.size w0 w1) : OC32 w1 fx K F C := by
  intro z0 z1 z2 w  hb2 he
  exact h z0 z1 z2 w  (below_step hb hb2) he

abbrev OC33 (w0 : World) (fx : Int → Option (Int)) (K : Nat) (F C : Array Value) : Prop := ∀ (a0 : Int) (r : Int) (w : World) (_ : Below w0.heap.size w0 w) (_ : fx a0 = some r),
    Calls Try.prog K (F ++ #[.int .i64 a0] ++ C) w fun e w' => e = .returned (.int .i64 r) ∧ Below w.heap.size w w'
theorem OC33.step {w0 w1 : World} {fx : Int → Option (Int)} {K : Nat} {F C : Array Value} (h : OC33 w0 fx K F C) (hb : Below w0.heap.size w0 w1) : OC33 w1 fx K F C := by
  intro z0 z1 w  hb2 he
  exact h z0 z1 w  (below_step hb hb2) he

abbrev OC35 (w0 : World) (fx : Int → Int → Option (Bool)) (K : Nat) (F C : Array Value) : Prop := ∀ (a0 : Int) (a1 : Int) (r : Bool) (w : World) (_ : Below w0.heap.size w0 w) (_ : fx a0 a1 = some r),
    Calls Try.prog K (F ++ #[.int .i64 a0, .int .i64 a1] ++ C) w fun e w' => e = .returned (.bool r) ∧ Below w.heap.size w w'
theorem OC35.step {w0 w1 : World} {fx : Int → Int → Option (Bool)} {K : Nat} {F C : Array Value} (h : OC35 w0 fx K F C) (hb : Below w0.heap.size w0 w1) : OC35 w1 fx K F C := by
  intro z0 z1 z2 w  hb2 he
  exact h z0 z1 z2 w  (below_step hb hb2) he

end Go.Proofs.Ythcldodehfdhiaa.P
