-- Several texts in one (wip/tools/merge.py).
import Derived.Test.YtjjkagnbdfofbaaProg
import Derived.Below
import Derived.Deep.Draws
import Derived.Deep.AppendLies
import Derived.Maps.AppendAt
import Derived.OwnWalk
import Derived.Laws.BytesArg
import Derived.Laws.MakeOwn
import Derived.Laws.OwnMore
import Derived.Deep.OwnRows
import Derived.Tactics
import Derived.Lib.ConvBytes
import Derived.Laws.Slices
import Derived.WalkKit
import Derived.KernelRfl
import Derived.RowKit3
import Derived.Deep.LoopGhost
import Derived.Deep.QuietTactic
import Derived.BigQuiet
import Derived.WideLaws
import Derived.Deep.DeepCutAuto
import Derived.Deep.CutBlock
import Derived.Deep.RegionHeld3
import Derived.Laws.Rows
import Derived.Lib.AppendStr
import Derived.ArgAppend
import Derived.Laws.IdiomCopy
import Derived.OrdersHeld
import Derived.Laws.BitsLemmas
import Derived.RowKit
import Derived.Test.YtjjkagnbdfofbaaV
import Derived.Test.YtjjkagnbdfofbaaM1
section
namespace Go.Proofs.Ytjjkagnbdfofbaa.P
open Go.RowKit Go.Proofs.YtjjkagnbdfofbaaW.PrintWords Go.Proofs.YtjjkagnbdfofbaaW.PrintLast Go.Proofs.YtjjkagnbdfofbaaW.PrintMore
attribute [local go_sem] max2_int min2_int max_two min_two max_three min_three max_four min_four   -- for this text's walks alone
set_option linter.unusedVariables false
set_option linter.unusedSimpArgs false

def errW : Option Int → Value
  | none => .nilIface
  | some c => .iface 0 (.int .i64 c)
theorem errW_none : errW none = .nilIface := rfl
theorem errW_some (c : Int) : errW (some c) = .iface 0 (.int .i64 c) := rfl

theorem info3 : (Try.prog.info? 3).map (fun i => (i.zero, i.size, i.bytes)) = some (some (.int .i64 0), 1, 8) := by kernel_rfl
theorem info4 : (Try.prog.info? 4).map (fun i => (i.zero, i.size, i.bytes)) = some (some (.bool false), 1, 1) := by kernel_rfl
theorem info24 : (Try.prog.info? 24).map (fun i => (i.zero, i.size, i.bytes)) = some (some (.slice none 0 0), 1, 24) := by kernel_rfl
-- the values' own types
def rd_L3 (xs : List (List Int)) (i : Int) : (List Int) := xs.getD i.toNat ([] : List Int)
theorem at_L3 {w : World} {A : Option Addr} {n : Nat} {xs : List (List Int)} (h : Kd.C (Kd.slice 3 (Kd.int .i64)) w A n xs) (i : Int) (h0 : 0 ≤ i) (h1 : i < n) : ∃ ad A0 c0, A = some ad ∧ w.cell? (ad.add i.toNat) = some (.slice A0 (rd_L3 xs i).length c0) ∧ (rd_L3 xs i).length ≤ c0 ∧ (Kd.int .i64).C w A0 (rd_L3 xs i).length (rd_L3 xs i) := by
  obtain ⟨ad, c, e, _, hK, hc0⟩ := Kd.C_get h ([] : List Int) i h0 h1
  have hc : ∀ j u, c[j]? = some u → w.cell? (ad.add (i.toNat * 1 + j)) = some u := hc0
  obtain ⟨A0, c0, rfl, l0, g0⟩ := hK
  exact ⟨ad, A0, c0, e, by have hq := hc 0 _ rfl; rwa [Nat.mul_one, Nat.add_zero] at hq, l0, g0⟩

section
variable {P : Program} {ops : Array Oper} {C : World → Prop} {Q : Act → Prop} {o : Oper} {rest : List Oper} {a : Act}
structure QW (P : Program) (ops : Array Oper) (C : World → Prop) (Q : Act → Prop) (l : List Oper) (a : Act) : Prop where
  out : wpQuiet P ops C Q l a
theorem qb_region {id : Nat} {l : List Oper} {Q : Exit → Act → World → Prop} {w : World} (hm : P.follows .mixedOrders = true) (hB : Region.lexB .any l.toArray = true)
    (h : QW P l.toArray (fun w' => Below w.heap.size w w') (fun a' => ∀ w', Below w.heap.size w w' → Q .normal a' w') l a) : (Code.region id l.toArray true).wp P Q a w :=
  wp_region_quiet hm hB (show Below w.heap.size w w.drew from below_drew (Below.refl _ _)) h.out
theorem qb_nil (h : Q a) : QW P ops C Q [] a := ⟨wpQuiet_nil h⟩
theorem qb_skip (a' : Act) (hw : Region.wanted o (yielded ops a.tmps) = false) (ha : a.put o.dst undef = a') (h : QW P ops C Q rest a') : QW P ops C Q (o :: rest) a := by
  replace h := h.out
  refine ⟨?_⟩
  subst ha
  simp only [wpQuiet, hw]
  exact h
theorem qb_val (v : Value) (a' : Act) (hw : Region.wanted o (yielded ops a.tmps) = true) (hr : ∀ w', C w' → (execOp a.eval o).run P w' = .ok (.value v) w') (ha : a.put o.dst v = a') (h : QW P ops C Q rest a') : QW P ops C Q (o :: rest) a := by
  replace h := h.out
  refine ⟨?_⟩
  subst ha
  simp only [wpQuiet, hw, if_true]
  refine ⟨v, fun w' hc => ?_, h⟩
  unfold Oper.quietAt
  rw [hr w' hc]
  exact ⟨rfl, rfl⟩
theorem qb_callN (N : Tmp) (_ : o.dst = some N) (h : QW P ops C Q (o :: rest) a) : QW P ops C Q (o :: rest) a := h
theorem qb_callA (N : Tmp) (hd : o.dst = some N) {f : FuncId} {fn : Func} {us : Array Operand} {ts : Array TypeId} (hf : P.funcs[f]? = some fn) (hname : (fn.name == "runtime.NumGoroutine") = false) (hb : fn.body.isSome = true) {args : Array Value}
    (hop : o.op = .call { callee := .value (.func f), args := us, argTypes := ts }) (v : Value) (a' : Act) (hw : Region.wanted o (yielded ops a.tmps) = true) (hc : ∀ w', C w' → Calls P f args w' fun e w'' => e = .returned v ∧ C w'') (hargs : us.map a.eval = args) (ha : a.put (some N) v = a') (h : QW P ops C Q rest a') : QW P ops C Q (o :: rest) a := by
  replace h := h.out
  refine ⟨?_⟩
  subst ha
  simp only [wpQuiet, hw, if_true]
  refine ⟨v, fun w' hcw => ?_, by rw [hd]; exact h⟩
  unfold Oper.quietAt
  have he := enters_ hf hname hb args w'
  have hrun : (execOp a.eval o).run P w' = .ok (.enter f args) w' := by
    unfold execOp
    simp [hop, resolve, Deferred.ofValue, invoke, Act.eval, hargs, he]
  rw [hrun]
  exact ⟨rfl, hc w' hcw⟩
theorem qb_call (N : Tmp) (hd : o.dst = some N) {f : FuncId} {fn : Func} {us : Array Operand} {ts : Array TypeId} (hf : P.funcs[f]? = some fn) (hname : (fn.name == "runtime.NumGoroutine") = false) (hb : fn.body.isSome = true) {args : Array Value}
    (hop : o.op = .call { callee := .value (.func f), args := us, argTypes := ts }) (v : Value) (a' : Act) (hw : Region.wanted o (yielded ops a.tmps) = true) (hc : ∀ w', C w' → Calls P f args w' fun e w'' => e = .returned v ∧ C w'') (hargs : us.toList.map a.eval = args.toList) (ha : a.put (some N) v = a') (h : QW P ops C Q rest a') : QW P ops C Q (o :: rest) a :=
  qb_callA N hd hf hname hb hop v a' hw hc (by rw [← Array.toList_inj, Array.toList_map]; exact hargs) ha h
theorem qb_b {f : FuncId} {args : Array Value} {w0 w : World} {v : Value} (hb : Below w0.heap.size w0 w) (h : Calls P f args w fun e w' => e = .returned v ∧ Below w.heap.size w w') : Calls P f args w fun e w'' => e = .returned v ∧ Below w0.heap.size w0 w'' :=
  h.mono fun _ _ h_ => ⟨h_.1, below_step hb h_.2⟩
theorem qb_d {f : FuncId} {args : Array Value} {w0 w : World} {v : Value} (hb : Below w0.heap.size w0 w) (h : Calls P f args w fun e w' => e = .returned v ∧ Drawn0 w w') : Calls P f args w fun e w'' => e = .returned v ∧ Below w0.heap.size w0 w'' :=
  h.mono fun _ _ h_ => ⟨h_.1, below_step hb h_.2.below⟩
end

def OFn (K : Nat) : Prop := ∃ fn, Try.prog.funcs[K]? = some fn ∧ (fn.name == "runtime.NumGoroutine") = false ∧ fn.body.isSome = true
theorem gate_calleeO {P : Program} {ops : Array Oper} {o : Oper} {rest : List Oper} {a : Act} {Q : Exit → Act → World → Prop} {W : World} {t : Tmp} {us : Array Operand} {ts : Array TypeId} (_ho : o.op = .call { callee := .value (.tmp t), args := us, argTypes := ts }) (h : wpList P ops Q (o :: rest) a W) : wpList P ops Q (o :: rest) a W := h
theorem goesO_run {oi : Oper} {a : Act} {w : World} {f : Nat} {F C : Array Value} {t : Tmp} {us : Array Operand} {ts : Array TypeId} (hG : OFn f) (args : Array Value)
    (hop : oi.op = .call { callee := .value (.tmp t), args := us, argTypes := ts }) (hargs : us.map a.eval = args) (hv : a.eval (.tmp t) = .func (.func f) F C) :
    (execOp a.eval oi).run Try.prog w = .ok (.enter f (F ++ args ++ C)) w := by
  obtain ⟨fn, hf, hname, hb⟩ := hG
  have he := enters_ hf hname hb (F ++ args ++ C) w
  have e1 : a.tmps.getD t undef = .func (.func f) F C := hv
  unfold execOp
  simp only [hop, resolve, Act.eval, e1]
  rw [Array.append_assoc] at he ⊢
  simp [Deferred.ofValue, invoke, hargs, he]
theorem goesO_ {ops : Array Oper} {Q : Exit → Act → World → Prop} {oi : Oper} {N : Option Tmp} {a : Act} {w : World} {K : Act → World → Prop} {f : Nat} {F C : Array Value} {t : Tmp} {us : Array Operand} {ts : Array TypeId} (hG : OFn f) (args : Array Value)
    (hw : Region.wanted oi (yielded ops a.tmps) = true) (hN : oi.dst = N) (hop : oi.op = .call { callee := .value (.tmp t), args := us, argTypes := ts }) (hargs : us.map a.eval = args) (hv : a.eval (.tmp t) = .func (.func f) F C)
    (h : Calls Try.prog f (F ++ args ++ C) w fun e w' => ∃ v, e = .returned v ∧ K (a.put N v) w') : if Region.wanted oi (yielded ops a.tmps) = true then Oper.wp Try.prog oi a w K Q else K (a.put N undef) w :=
  call_ f _ hw hN (goesO_run hG args hop hargs hv) h
theorem goesOL_ {ops : Array Oper} {Q : Exit → Act → World → Prop} {rest : List Oper} {oi : Oper} {a : Act} {w : World} (N : Option Tmp) (hd : oi.dst = N) (hg : oi.guard = none) {f : Nat} {F C : Array Value} {t : Tmp} {us : Array Operand} {ts : Array TypeId} (hG : OFn f) (args : Array Value)
    (hop : oi.op = .call { callee := .value (.tmp t), args := us, argTypes := ts }) (hargs : us.map a.eval = args) (hv : a.eval (.tmp t) = .func (.func f) F C)
    (h : Calls Try.prog f (F ++ args ++ C) w fun e w' => ∃ v, e = .returned v ∧ wpList Try.prog ops Q rest (a.put N v) w') : wpList Try.prog ops Q (oi :: rest) a w := by
  refine wpList_plain hg fun K hK => ?_
  have hrun := goesO_run (w := w) hG args hop hargs hv
  unfold Oper.wp
  rw [hrun, Oper.upon_enter]
  refine h.mono fun e w'' hh => ?_
  obtain ⟨v, rfl, hk⟩ := hh
  subst hd
  exact hK _ _ hk

abbrev OC45 (w0 : World) (fx : Int → Option (Bool)) (K : Nat) (F C : Array Value) : Prop := ∀ (a0 : Int) (r : Bool) (w : World) (_ : Below w0.heap.size w0 w) (_ : fx a0 = some r),
    Calls Try.prog K (F ++ #[.int .i64 a0] ++ C) w fun e w' => e = .returned (.bool r) ∧ Below w.heap.size w w'
theorem OC45.step {w0 w1 : World} {fx : Int → Option (Bool)} {K : Nat} {F C : Array Value} (h : OC45 w0 fx K F C) (hb : Below w0.heap.size w0 w1) : OC45 w1 fx K F C := by
  intro z0 z1 w  hb2 he
  exact h z0 z1 w  (below_step hb hb2) he

abbrev OC48 (w0 : World) (fx : Int → Option (Int)) (K : Nat) (F C : Array Value) : Prop := ∀ (a0 : Int) (r : Int) (w : World) (_ : Below w0.heap.size w0 w) (_ : fx a0 = some r),
    Calls Try.prog K (F ++ #[.int .i64 a0] ++ C) w fun e w' => e = .returned (.int .i64 r) ∧ Below w.heap.size w w'
theorem OC48.step {w0 w1 : World} {fx : Int → Option (Int)} {K : Nat} {F C : Array Value} (h : OC48 w0 fx K F C) (hb : Below w0.heap.size w0 w1) : OC48 w1 fx K F C := by
  intro z0 z1 w  hb2 he
  exact h z0 z1 w  (below_step hb hb2) he

abbrev OC50 (w0 : World) (fx : Int → Int → Option (Int)) (K : Nat) (F C : Array Value) : Prop := ∀ (a0 : Int) (a1 : Int) (r : Int) (w : World) (_ : Below w0.heap.size w0 w) (_ : fx a0 a1 = some r),
    Calls Try.prog K (F ++ #[.int .i64 a0, .int .i64 a1] ++ C) w fun e w' => e = .returned (.int .i64 r) ∧ Below w.heap.size w w'
theorem OC50.step {w0 w1 : World} {fx : Int → Int → Option (Int)} {K : Nat} {F C : Array Value} (h : OC50 w0 fx K F C) (hb : Below w0.heap.size w0 w1) : OC50 w1 fx K F C := by
  intro z0 z1 z2 w  hb2 he
  exact h z0 z1 z2 w  (below_step hb hb2) he

abbrev OC51 (w0 : World) (fx : Int → Int → Option (Bool)) (K : Nat) (F C : Array Value) : Prop := ∀ (a0 : Int) (a1 : Int) (r : Bool) (w : World) (_ : Below w0.heap.size w0 w) (_ : fx a0 a1 = some r),
    Calls Try.prog K (F ++ #[.int .i64 a0, .int .i64 a1] ++ C) w fun e w' => e = .returned (.bool r) ∧ Below w.heap.size w w'
theorem OC51.step {w0 w1 : World} {fx : Int → Int → Option (Bool)} {K : Nat} {F C : Array Value} (h : OC51 w0 fx K F C) (hb : Below w0.heap.size w0 w1) : OC51 w1 fx K F C := by
  intro z0 z1 z2 w  hb2 he
  exact h z0 z1 z2 w  (below_step hb hb2) he

theorem zf1_ {P Q A0_ : Prop} (h : P) (a0_ : A0_) (hs : A0_ → P → Q := by intro a0_ h_; repeat (first | (with_reducible first | exact h_ | refine blk_drewN ?_ _ | refine blk_drew ?_ | refine blk_alloc ?_ _) | refine blk_far ?_ (show _ ≠ _ from a0_) _)) : Q := hs a0_ h
theorem bc4_ {w : World} {g : Nat} {t : TypeId} {v0 v1 v2 v3 : Value} (h : w.heap[g]? = some (.cells #[v0, v1, v2, v3] t (0, 0))) : w.cell? ⟨g, 0, none⟩ = some v0 ∧ w.cell? ⟨g, 1, none⟩ = some v1 ∧ w.cell? ⟨g, 2, none⟩ = some v2 ∧ w.cell? ⟨g, 3, none⟩ = some v3 := ⟨(blk_cell h 0).trans rfl, (blk_cell h 1).trans rfl, (blk_cell h 2).trans rfl, (blk_cell h 3).trans rfl⟩
theorem bf4_ {w : World} {g : Nat} {t : TypeId} {v0 v1 v2 v3 : Value} (h : w.heap[g]? = some (.cells #[v0, v1, v2, v3] t (0, 0))) : w.cell? ⟨g, 0, none⟩ = some v0 ∧ w.cell? ⟨g, 1, none⟩ = some v1 ∧ w.cell? ⟨g, 2, none⟩ = some v2 ∧ w.cell? ⟨g, 3, none⟩ = some v3 ∧ w.frozen? ⟨g, 0, none⟩ = false ∧ w.frozen? ⟨g, 1, none⟩ = false ∧ w.frozen? ⟨g, 2, none⟩ = false ∧ w.frozen? ⟨g, 3, none⟩ = false := ⟨(blk_cell h 0).trans rfl, (blk_cell h 1).trans rfl, (blk_cell h 2).trans rfl, (blk_cell h 3).trans rfl, blk_frozen h 0, blk_frozen h 1, blk_frozen h 2, blk_frozen h 3⟩
theorem rf_ {α : Type} {d : Kd α} {e base g t : Nat} {w w2 : World} {ok : Nat → Prop} {v : Value} {xs : List α} {cells : Array Value} (h : d.R e w base ok v xs) (hb : w.heap[g]? = some (.cells cells t (0, 0))) (ht : ∀ q, q ∈ e :: d.E → q ≠ t := by decide) (hs : d.R e w base (fun k => ok k ∧ k ≠ g) v xs → d.R e w2 base (fun k => ok k ∧ k ≠ g) v xs := by intro h_; repeat (first | exact h_ | refine Kd.R_far ?_ (fun _ hk => hk.2) _)) : d.R e w2 base ok v xs := Kd.R_mono (hs (Kd.R_types h hb ht)) (fun _ h_ => h_.1)
theorem gs_ {w W : World} {g : Nat} (hg : g = W.heap.size) (h : Below w.heap.size w W) : w.heap.size ≤ g := by rw [hg]; exact below_size h
theorem nl_ {a b n : Nat} (hg : b = n) (h : a < n) : a ≠ b := by omega
theorem ng_ {a b n : Nat} (hg : b = n) (h : a < n) : b ≠ a := by omega
theorem bx_ {P : Program} {ops : Array Oper} {rest : List Oper} {o : Oper} {a : Act} {Q : Exit → Act → World → Prop} {W : World} {N : Tmp} {cs : Array Value} {t : TypeId} (h : ∀ g, g = W.heap.size → ∀ w1, w1.heap[g]? = some (.cells cs t (0, 0)) → Below W.heap.size W w1 → wpList P ops Q rest (a.put o.dst (.pointer (some ⟨g, 0, none⟩))) w1) (hgd : o.guard = none := by rfl) (hd : o.dst = some N := by rfl) (hrun : (execOp a.eval o).run P W = .ok (.value (.pointer (some ⟨W.heap.size, 0, none⟩))) (W.alloc (.cells cs t (0, 0))) := by first | (go_simp; done) | (go_simp; rfl)) : wpList P ops Q (o :: rest) a W := box_event hgd hd hrun h
theorem la_ {α : Type} {a b : α} (h : a = b := by (try simp only [List.map_toArray, List.map_cons, List.map_nil]); first | done | rfl | (simp only [List.length_drop, List.length_take]; rfl)) : a = b := h
theorem sm_ {p : Prop} (h : p := by first | rfl | (simp; done) | (simp [*]; done)) : p := h
theorem dt_ {p : Prop} [Decidable p] (h : decide p = true := by first | (with_reducible assumption) | assumption) : p := of_decide_eq_true h
theorem an_ {p : Prop} (h : p := by first | rfl | (simp [errW_none, errW_some] <;> rfl) | (simp [*, errW_none, errW_some] <;> rfl)) : p := h
theorem sd_ {p : Prop} (h : p) : Aside0 p := ⟨h⟩
theorem kp_ {P Q : Prop} (h : P) (hs : P → Q := by intro h_; repeat (first | exact h_ | (with_reducible refine Kd.C_alloc ?_ _) | (with_reducible refine Kd.C_drewN ?_ _) | (with_reducible refine Kd.C_drew ?_))) : Q := hs h
theorem kc_ {α : Type} {d : Kd α} {w w1 w2 : World} {A : Option Addr} {n : Nat} {xs : List α} (h : d.C w A n xs) (hb : Below w.heap.size w w1) (hs : d.C w1 A n xs → d.C w2 A n xs := by intro h_; repeat (first | exact h_ | (with_reducible refine Kd.C_alloc ?_ _) | (with_reducible refine Kd.C_drewN ?_ _) | (with_reducible refine Kd.C_drew ?_))) : d.C w2 A n xs := hs (Kd.C_below h hb)
theorem bz_ {w w1 : World} {g : Nat} {o : Obj} (h : w.heap[g]? = some o) (hs : w.heap[g]? = some o → w1.heap[g]? = some o := by intro h_; (with_reducible repeat (first | refine blk_drewN ?_ _ | refine blk_drew ?_ | refine blk_alloc ?_ _)); exact h_) : w1.heap[g]? = some o := hs h
theorem bb_ {w w1 w2 : World} {g : Nat} {o : Obj} (h : w.heap[g]? = some o) (hb : Below w1.heap.size w1 w2) (hs : w.heap[g]? = some o → w1.heap[g]? = some o := by intro h_; (with_reducible repeat (first | refine blk_drewN ?_ _ | refine blk_drew ?_ | refine blk_alloc ?_ _)); exact h_) : w2.heap[g]? = some o := blk_below (hs h) hb
theorem bl_ {w w1 : World} {g : Nat} {o : Obj} (h : w.heap[g]? = some o) (hs : w.heap[g]? = some o → w1.heap[g]? = some o := by intro h_; (with_reducible repeat (first | refine blk_drewN ?_ _ | refine blk_drew ?_ | refine blk_alloc ?_ _)); exact h_) : g < w1.heap.size := blk_lt (hs h)
theorem ro_ {P Q : Prop} (h : P) (hs : P → Q := by intro h_; (with_reducible repeat (first | apply Kd.R_alloc | apply Kd.R_drewN | apply Kd.R_drew)); exact h_) : Q := hs h
theorem bw0_ {w w1 w2 : World} (h : Below w.heap.size w w1)  (hs : Below w.heap.size w w1 → Below w.heap.size w w2 := by intro  h_; repeat (first | (with_reducible first | exact h_ | apply below_alloc | apply pw_below_drewN | apply below_drew1) | exact h_)) : Below w.heap.size w w2 := hs  h
theorem bw1_ {w w1 w2 : World} {b0_ : Nat} (h : Below w.heap.size w w1) (g0_ : w.heap.size ≤ b0_) (hs : w.heap.size ≤ b0_ → Below w.heap.size w w1 → Below w.heap.size w w2 := by intro g0_ h_; repeat (first | (with_reducible first | exact h_ | apply below_alloc | apply pw_below_drewN | apply below_drew1 | refine below_set ?_ g0_) | exact h_)) : Below w.heap.size w w2 := hs g0_ h
theorem bw2_ {w w1 w2 : World} {b0_ b1_ : Nat} (h : Below w.heap.size w w1) (g0_ : w.heap.size ≤ b0_) (g1_ : w.heap.size ≤ b1_) (hs : w.heap.size ≤ b0_ → w.heap.size ≤ b1_ → Below w.heap.size w w1 → Below w.heap.size w w2 := by intro g0_ g1_ h_; repeat (first | (with_reducible first | exact h_ | apply below_alloc | apply pw_below_drewN | apply below_drew1 | refine below_set ?_ g0_ | refine below_set ?_ g1_) | exact h_)) : Below w.heap.size w w2 := hs g0_ g1_ h
theorem bw3_ {w w1 w2 : World} {b0_ b1_ b2_ : Nat} (h : Below w.heap.size w w1) (g0_ : w.heap.size ≤ b0_) (g1_ : w.heap.size ≤ b1_) (g2_ : w.heap.size ≤ b2_) (hs : w.heap.size ≤ b0_ → w.heap.size ≤ b1_ → w.heap.size ≤ b2_ → Below w.heap.size w w1 → Below w.heap.size w w2 := by intro g0_ g1_ g2_ h_; repeat (first | (with_reducible first | exact h_ | apply below_alloc | apply pw_below_drewN | apply below_drew1 | refine below_set ?_ g0_ | refine below_set ?_ g1_ | refine below_set ?_ g2_) | exact h_)) : Below w.heap.size w w2 := hs g0_ g1_ g2_ h
theorem bw4_ {w w1 w2 : World} {b0_ b1_ b2_ b3_ : Nat} (h : Below w.heap.size w w1) (g0_ : w.heap.size ≤ b0_) (g1_ : w.heap.size ≤ b1_) (g2_ : w.heap.size ≤ b2_) (g3_ : w.heap.size ≤ b3_) (hs : w.heap.size ≤ b0_ → w.heap.size ≤ b1_ → w.heap.size ≤ b2_ → w.heap.size ≤ b3_ → Below w.heap.size w w1 → Below w.heap.size w w2 := by intro g0_ g1_ g2_ g3_ h_; repeat (first | (with_reducible first | exact h_ | apply below_alloc | apply pw_below_drewN | apply below_drew1 | refine below_set ?_ g0_ | refine below_set ?_ g1_ | refine below_set ?_ g2_ | refine below_set ?_ g3_) | exact h_)) : Below w.heap.size w w2 := hs g0_ g1_ g2_ g3_ h
section
variable {c : Prop} {d : Decidable c} {α β : Type} {A B : Option α} {r : α} {G : Prop}
theorem ih_ (k : decide c = true → A = some r → G) : (if c then A else none) = some r → G := by
  intro h
  by_cases hc : c
  · exact k (decide_eq_true hc) (by rw [if_pos hc] at h; exact h)
  · rw [if_neg hc] at h; exact absurd h (by simp)
theorem ip_ (k : c → A = some r → G) : (if c then A else none) = some r → G := ih_ fun a => k (of_decide_eq_true a)
theorem il_ (k : Aside0 c → A = some r → G) : (if c then A else none) = some r → G := ip_ fun a => k ⟨a⟩
theorem ic_ (k : decide c = true → A = some r → G) (l : decide c = false → B = some r → G) : (if c then A else B) = some r → G := by
  intro h
  by_cases hc : c
  · exact k (decide_eq_true hc) (by rw [if_pos hc] at h; exact h)
  · exact l (decide_eq_false hc) (by rw [if_neg hc] at h; exact h)
theorem it_ {d : Decidable (true = true)} (h : (if true = true then A else B) = some r) : A = some r := by rw [if_pos rfl] at h; exact h
theorem if_ {d : Decidable (false = true)} (h : (if false = true then A else B) = some r) : B = some r := by rw [if_neg Bool.false_ne_true] at h; exact h
theorem bt_ (b : Bool) : b = true ∨ b = false := by cases b <;> simp
theorem ob_ {o : Option β} {f : β → Option α} (k : ∀ t, Aside0 (o = some t) → f t = some r → G) : o.bind f = some r → G := by
  intro h
  obtain ⟨t, h1, h2⟩ := Option.bind_eq_some_iff.mp h
  exact k t ⟨h1⟩ h2
theorem oc_ {o : Option β} {f : β → Option α} (h : o.bind f = some r) : ∃ t, Aside0 (o = some t) ∧ f t = some r := by
  obtain ⟨t, h1, h2⟩ := Option.bind_eq_some_iff.mp h
  exact ⟨t, ⟨h1⟩, h2⟩
theorem oy_ {a : β} {f : β → Option α} (k : ∀ y, Aside0 (y = a) → f y = some r → G) : (some a).bind f = some r → G := fun h => k a ⟨rfl⟩ h
end
theorem ab_ {w W : World} {A : Option Addr} {n : Nat} {xs : List Bool} (h : Kd.bool.C w A n xs) (hb : Below w.heap.size w W) (i : Int) (hp : decide (0 ≤ i) = true := by assumption) (hq : decide (i < n) = true := by assumption) : ∃ ad, A = some ad ∧ W.cell? (ad.add i.toNat) = some (.bool (rdOf false xs i)) ∧ (0 ≤ i) = True ∧ (i < n) = True := by
  obtain ⟨ad, e, hx⟩ := Kd.at_bool h i (of_decide_eq_true hp) (of_decide_eq_true hq)
  exact ⟨ad, e, (hb.cell (World.block_lt_of_cell? w _ hx)).trans hx, eq_true (of_decide_eq_true hp), eq_true (of_decide_eq_true hq)⟩
theorem ai_ {k : IntKind} {w W : World} {A : Option Addr} {n : Nat} {xs : List Int} (h : (Kd.int k).C w A n xs) (hb : Below w.heap.size w W) (i : Int) (hp : decide (0 ≤ i) = true := by assumption) (hq : decide (i < n) = true := by assumption) : ∃ ad, A = some ad ∧ W.cell? (ad.add i.toNat) = some (.int k (rd xs i)) ∧ (0 ≤ i) = True ∧ (i < n) = True := by
  obtain ⟨ad, e, hx⟩ := Kd.at_int h i (of_decide_eq_true hp) (of_decide_eq_true hq)
  exact ⟨ad, e, (hb.cell (World.block_lt_of_cell? w _ hx)).trans hx, eq_true (of_decide_eq_true hp), eq_true (of_decide_eq_true hq)⟩
theorem qx_ {w W : World} {a : Addr} {v : Value} (hb : Below w.heap.size w W) (h : w.cell? a = some v) : W.cell? a = some v := (hb.cell (World.block_lt_of_cell? _ _ h)).trans h
theorem qy_ {α : Type} {d : Kd α} {w W : World} {A : Option Addr} {n : Nat} {xs : List α} (h : Aside0 (d.C w A n xs)) (hb : Below w.heap.size w W) : d.C W A n xs := Kd.C_below h.out hb
theorem bk_ {w : World} {g : Nat} {t : TypeId} {cs : Array Value} {v : Value} (h : Aside0 (w.heap[g]? = some (.cells cs t (0, 0)))) (i : Nat) (e : cs[i]? = some v := by rfl) : w.cell? ⟨g, i, none⟩ = some v := (blk_cell h.out i).trans e
theorem nn_ {p : Prop} (h : p := by first | exact Kd.R_nil _ _ _ _ _ | exact Kd.N_nil _ _ _ _ _ | exact Kd.V_nil _ _ _ _ _ | exact Kd.Q_nil _ _ _ _ _ | exact Kd.S_nil _ _ _ _ _) : p := h
section
variable {P : Program} {md : Region.Mode} {ops : Array Oper} {Q : Exit → Act → World → Prop} {S : World → Prop} {ds : List Nat} {N : Tmp} {oi : Oper} {v : Value} {fuel : Nat} {l : Array Bool} {a a' : Act} {w : World}
theorem pv_ (i : Nat) (hi : ops[i]? = some oi) (hN : oi.dst = some N) (hc : anyB md ops l (l.setIfInBounds i true) i = true) (h : wpAnyLast P md ops Q S ds fuel (l.setIfInBounds i true) a' w)
    (hw : Region.wanted oi (yielded ops a.tmps) = true := by rfl) (hy : ∀ w', (execOp a.eval oi).run P w' = .ok (.value v) w' := by intro w'; go_simp; with_reducible rfl) (ha : a.put (some N) v = a' := by simp only [Act.put, List.setIfInBounds_toArray, List.set_cons_zero, List.set_cons_succ, i64_w, i32_w]; rfl) (hQ : ∀ c a w, Q (.panic c) (a.put oi.dst v) w → Q (.panic c) a w := by exact fun _ _ _ h => h) : wpAnyLast P md ops Q S ds (fuel + 1) l a w :=
  pure_ _ hi hN hc hQ (Or.inl ⟨hw, hy⟩) ha h
theorem pu_ (i : Nat) (hi : ops[i]? = some oi) (hN : oi.dst = some N) (hc : anyB md ops l (l.setIfInBounds i true) i = true) (h : wpAnyLast P md ops Q S ds fuel (l.setIfInBounds i true) a' w)
    (hw : Region.wanted oi (yielded ops a.tmps) = false := by rfl) (ha : a.put (some N) undef = a' := by simp only [Act.put, List.setIfInBounds_toArray, List.set_cons_zero, List.set_cons_succ, i64_w, i32_w]; rfl) (hQ : ∀ c a w, Q (.panic c) (a.put oi.dst undef) w → Q (.panic c) a w := by exact fun _ _ _ h => h) : wpAnyLast P md ops Q S ds (fuel + 1) l a w :=
  pure_ _ hi hN hc hQ (Or.inr ⟨hw, rfl⟩) ha h
theorem tk_ (i : Nat) (hi : ops[i]? = some oi) (hN : oi.dst = some N) (hc : takeB md ops ds l (l.setIfInBounds i true) i = true) (hS : S w) (hy : ∀ w', S w' → (execOp a.eval oi).run P w' = .ok (.value v) w') (h : wpAnyLast P md ops Q S ds fuel (l.setIfInBounds i true) a' w)
    (hw : Region.wanted oi (yielded ops a.tmps) = true := by rfl) (ha : a.put (some N) v = a' := by simp only [Act.put, List.setIfInBounds_toArray, List.set_cons_zero, List.set_cons_succ, i64_w, i32_w]; rfl) (hQ : ∀ c a w, Q (.panic c) (a.put oi.dst v) w → Q (.panic c) a w := by exact fun _ _ _ h => h) : wpAnyLast P md ops Q S ds (fuel + 1) l a w :=
  take_ _ hi hN hc hQ (Or.inl ⟨hw, hy⟩) hS ha h
theorem on_ (i : Nat) {N : Option Tmp} (hi : ops[i]? = some oi) (hN : oi.dst = N) (hc : readyB md ops l (l.setIfInBounds i true) i = true)
    (h : ∀ K : Act → World → Prop, Shut (∀ a' w', S w' → (S w' → wpAnyLast P md ops Q S ds fuel (l.setIfInBounds i true) a' w') → K a' w') → if Region.wanted oi (yielded ops a.tmps) = true then Oper.wp P oi a w K Q else K (a.put N undef) w) (hd : i ∉ ds := by decide) : wpAnyLast P md ops Q S ds (fuel + 1) l a w :=
  one_ _ hi hN hc hd h
theorem nm_ (h : wpAnyLast P md ops Q S ds fuel l a' w) (ha : a = a' := by show Act.put _ (some _) _ = _; simp only [Act.put, List.setIfInBounds_toArray, List.set_cons_zero, List.set_cons_succ, i64_w, i32_w]; rfl) : wpAnyLast P md ops Q S ds fuel l a w := norm_ ha h
end
def c4_ (g : Nat) (a b c d : Value) (w : World) : Prop := w.cell? ⟨g, 0, none⟩ = some a ∧ w.cell? ⟨g, 1, none⟩ = some b ∧ w.cell? ⟨g, 2, none⟩ = some c ∧ w.cell? ⟨g, 3, none⟩ = some d
theorem kb0_ {P Q  : Prop} (h : P)  (hs : P → Q := by intro  h_; repeat (first | (with_reducible first | exact h_ | apply KeepBut.set_ | apply keep_drewN | apply keep_drew | apply keep_alloc) | exact h_)) : Q := hs  h
theorem kb1_ {P Q A0_ : Prop} (h : P) (a0_ : A0_) (hs : A0_ → P → Q := by intro a0_ h_; repeat (first | (with_reducible first | exact h_ | apply KeepBut.set_ | apply keep_drewN | apply keep_drew | apply keep_alloc | refine keep_far ?_ a0_ _) | exact h_)) : Q := hs a0_ h
theorem kb2_ {P Q A0_ A1_ : Prop} (h : P) (a0_ : A0_) (a1_ : A1_) (hs : A0_ → A1_ → P → Q := by intro a0_ a1_ h_; repeat (first | (with_reducible first | exact h_ | apply KeepBut.set_ | apply keep_drewN | apply keep_drew | apply keep_alloc | refine keep_far ?_ a0_ _ | refine keep_far ?_ a1_ _) | exact h_)) : Q := hs a0_ a1_ h

end Go.Proofs.Ytjjkagnbdfofbaa.P
end

section
/- Lists of marks, all of them; lists put in order. -/
set_option linter.unusedSimpArgs false
set_option linter.unusedVariables false
namespace Go.Proofs.Ytjjkagnbdfofbaa.Pure
open Go.RowKit Go.Proofs.Ytjjkagnbdfofbaa.P Go.Proofs.YtjjkagnbdfofbaaW.PrintWords Go.Proofs.YtjjkagnbdfofbaaW.PrintLast
theorem w64v {x : Int} (h1 : -9223372036854775808 ≤ x) (h2 : x ≤ 9223372036854775807) : wrap64 x = x := by unfold wrap64; omega
theorem and_low (x j : Nat) (hx : x < 4611686018427387904) (hj : j ≤ 2) : Go.bits .and .i64 (x : Int) ((2 ^ j - 1 : Nat) : Int) = ((x % 2 ^ j : Nat) : Int) := by
  have h1 : (BitVec.ofInt 64 (x : Int)).toNat = x := by rw [BitVec.toNat_ofInt]; omega
  have h3 : (2 ^ j - 1 : Nat) < 4 := by rcases j with _ | _ | _ | j <;> simp_all
  have h2 : (BitVec.ofInt 64 ((2 ^ j - 1 : Nat) : Int)).toNat = 2 ^ j - 1 := by rw [BitVec.toNat_ofInt]; omega
  have h4 : (BitVec.ofInt 64 (x : Int) &&& BitVec.ofInt 64 ((2 ^ j - 1 : Nat) : Int)).toNat = x % 2 ^ j := by rw [BitVec.toNat_and, h1, h2, Nat.and_two_pow_sub_one_eq_mod]
  show IntKind.i64.wrap ((BitVec.ofInt 64 (x : Int) &&& BitVec.ofInt 64 ((2 ^ j - 1 : Nat) : Int)).toNat : Int) = _
  rw [h4, i64_w, w64v (by omega) (by have := Nat.mod_le x (2 ^ j); omega)]
theorem and3 (x : Nat) (hx : x < 4611686018427387904) : Go.bits .and .i64 (x : Int) 3 = ((x % 4 : Nat) : Int) := and_low x 2 hx (by decide)
theorem and1 (x : Nat) (hx : x < 4611686018427387904) : Go.bits .and .i64 (x : Int) 1 = ((x % 2 : Nat) : Int) := and_low x 1 hx (by decide)
theorem shr_nat (x g : Nat) (hg : g ≤ 64) : shr .i64 (x : Int) (g : Int) = ((x / 2 ^ g : Nat) : Int) := by
  unfold shr
  rw [Int.toNat_natCast, Nat.min_eq_left (by exact hg), Int.natCast_ediv, Int.natCast_pow]
  rfl
theorem shl_nat (N : Nat) (hN : N ≤ 16) : shl .i64 1 (N : Int) = ((2 ^ N : Nat) : Int) := by
  have h : ∀ q : Nat, q < 17 → shl .i64 1 (q : Int) = ((2 ^ q : Nat) : Int) := by decide
  exact h N (by omega)
def bitsm : Nat → Nat → List Bool
  | 0, _ => []
  | m + 1, y => decide (y % 2 = 1) :: bitsm m (y / 2)
theorem bitsm_len : ∀ m y, (bitsm m y).length = m
  | 0, _ => rfl
  | m + 1, y => by simp [bitsm, bitsm_len m]
theorem fm_congr {α β : Type} {f g : α → Option β} : ∀ {l : List α}, (∀ x, x ∈ l → f x = g x) → l.filterMap f = l.filterMap g
  | [], _ => rfl
  | a :: l, h => by rw [List.filterMap_cons, List.filterMap_cons, h a (List.mem_cons_self ..), fm_congr fun x hx => h x (List.mem_cons_of_mem _ hx)]
def allM : Nat → List (List Bool)
  | 0 => [[]]
  | m + 1 => (allM m).map (true :: ·) ++ (allM m).map (false :: ·)
theorem allM_len : ∀ m, (allM m).length = 2 ^ m
  | 0 => rfl
  | m + 1 => by rw [allM, List.length_append, List.length_map, List.length_map, allM_len m, Nat.pow_succ]; omega
theorem range_two : ∀ K : Nat, (List.range (2 * K)).Perm ((List.range K).map (fun y => 2 * y + 1) ++ (List.range K).map (fun y => 2 * y))
  | 0 => by simp
  | K + 1 => by
    rw [show 2 * (K + 1) = 2 * K + 1 + 1 by omega, List.range_succ, List.range_succ, List.range_succ (n := K), List.map_append, List.map_append]
    have ih := range_two K
    have h1 : (List.range (2 * K) ++ [2 * K] ++ [2 * K + 1]).Perm (((List.range K).map (fun y => 2 * y + 1) ++ (List.range K).map (fun y => 2 * y)) ++ [2 * K] ++ [2 * K + 1]) := (ih.append_right _).append_right _
    refine h1.trans ?_
    rw [List.append_assoc, List.append_assoc, List.append_assoc]
    refine List.Perm.append_left _ ?_
    rw [← List.append_assoc]
    exact List.perm_append_comm
theorem enumM : ∀ m : Nat, ((List.range (2 ^ m)).map (bitsm m)).Perm (allM m)
  | 0 => by simp [bitsm, allM, List.range_succ]
  | m + 1 => by
    rw [Nat.pow_succ, Nat.mul_comm]
    refine ((range_two (2 ^ m)).map _).trans ?_
    rw [List.map_append, List.map_map, List.map_map]
    have e1 : (List.range (2 ^ m)).map (bitsm (m + 1) ∘ fun y => 2 * y + 1) = ((List.range (2 ^ m)).map (bitsm m)).map (true :: ·) := by
      rw [List.map_map]
      refine List.map_congr_left fun y _ => ?_
      show bitsm (m + 1) (2 * y + 1) = true :: bitsm m y
      rw [bitsm, show (2 * y + 1) / 2 = y by omega, decide_eq_true (by omega)]
    have e2 : (List.range (2 ^ m)).map (bitsm (m + 1) ∘ fun y => 2 * y) = ((List.range (2 ^ m)).map (bitsm m)).map (false :: ·) := by
      rw [List.map_map]
      refine List.map_congr_left fun y _ => ?_
      show bitsm (m + 1) (2 * y) = false :: bitsm m y
      rw [bitsm, show (2 * y) / 2 = y by omega, decide_eq_false (by omega)]
    rw [e1, e2, allM]
    exact ((enumM m).map _).append ((enumM m).map _)
theorem skip4 {β : Type} (g : Nat → Option β) (h : ∀ x, x % 4 ≠ 2 → g x = none) : ∀ K : Nat, (List.range (4 * K)).filterMap g = (List.range K).filterMap (fun y => g (4 * y + 2))
  | 0 => by simp
  | K + 1 => by
    rw [show 4 * (K + 1) = 4 * K + 1 + 1 + 1 + 1 by omega, List.range_succ, List.range_succ, List.range_succ, List.range_succ, List.range_succ (n := K)]
    simp only [List.filterMap_append, skip4 g h K, List.filterMap_cons, List.filterMap_nil, h (4 * K) (by omega), h (4 * K + 1) (by omega), h (4 * K + 1 + 1 + 1) (by omega), List.append_nil]
def memL : List Bool → Int → List Int
  | [], _ => []
  | b :: bs, i => if b = true then i :: memL bs (i + 1) else memL bs (i + 1)
theorem memL_len : ∀ (s : List Bool) (i : Int), (memL s i).length ≤ s.length
  | [], _ => by simp [memL]
  | b :: bs, i => by
    have := memL_len bs (i + 1)
    unfold memL
    split <;> simp <;> omega
/-- The lists that a set of marks tells, ahead of which pre stands. -/
def viewsL (M : List Bool → Bool) (m : Nat) (pre : List Bool) : List (List Int) := (allM m).filterMap fun v => if M (pre ++ v) = true then some (memL (pre ++ v) 0) else none
theorem viewsL_zero (M : List Bool → Bool) (pre : List Bool) : viewsL M 0 pre = if M pre = true then [memL pre 0] else [] := by
  unfold viewsL allM
  simp only [List.filterMap_cons, List.filterMap_nil, List.append_nil]
  by_cases c : M pre = true
  · simp [c]
  · simp [c]
theorem viewsL_succ (M : List Bool → Bool) (m : Nat) (pre : List Bool) : viewsL M (m + 1) pre = viewsL M m (pre ++ [true]) ++ viewsL M m (pre ++ [false]) := by
  unfold viewsL
  rw [allM, List.filterMap_append, List.filterMap_map, List.filterMap_map]
  congr 1 <;> (refine fm_congr fun v _ => ?_; simp)
theorem viewsL_len (M : List Bool → Bool) (m : Nat) (pre : List Bool) : (viewsL M m pre).length ≤ 2 ^ m := by
  unfold viewsL
  refine Nat.le_trans (List.length_filterMap_le _ _) ?_
  rw [allM_len]; exact Nat.le_refl _
/-- The same, by the sets' numbers. -/
theorem viewsL_sets (M : List Bool → Bool) (m : Nat) : ((List.range (2 ^ (m + 2))).filterMap fun x => if x % 4 = 2 then (if M (bitsm (m + 2) x) = true then some (memL (bitsm (m + 2) x) 0) else none) else none).Perm (viewsL M m [false, true]) := by
  rw [show 2 ^ (m + 2) = 4 * 2 ^ m by rw [Nat.pow_add]; omega, skip4 _ (fun x hx => by rw [if_neg hx])]
  have e : ∀ y, bitsm (m + 2) (4 * y + 2) = [false, true] ++ bitsm m y := fun y => by
    rw [bitsm, bitsm, decide_eq_false (by omega), decide_eq_true (by omega), show (4 * y + 2) / 2 / 2 = y by omega]; rfl
  have e2 : ((List.range (2 ^ m)).filterMap fun y => if (4 * y + 2) % 4 = 2 then (if M (bitsm (m + 2) (4 * y + 2)) = true then some (memL (bitsm (m + 2) (4 * y + 2)) 0) else none) else none) = ((List.range (2 ^ m)).map (bitsm m)).filterMap (fun v => if M ([false, true] ++ v) = true then some (memL ([false, true] ++ v) 0) else none) := by
    rw [List.filterMap_map]
    refine fm_congr fun y _ => ?_
    rw [if_pos (by omega), e]
    rfl
  rw [e2]
  exact (enumM m).filterMap _
def findK (x : List Int) (out : List (List Int)) : Nat → Nat
  | 0 => 0
  | k + 1 => if cmpL x (out.getD k []) < 0 then findK x out k else k + 1
theorem findK_le (x : List Int) (out : List (List Int)) : ∀ k, findK x out k ≤ k
  | 0 => Nat.le_refl 0
  | k + 1 => by
    have := findK_le x out k
    unfold findK
    split <;> omega
def insL (out : List (List Int)) (x : List Int) : List (List Int) := out.take (findK x out out.length) ++ x :: out.drop (findK x out out.length)
theorem insL_len (out : List (List Int)) (x : List Int) : (insL out x).length = out.length + 1 := by
  have := findK_le x out out.length
  unfold insL
  simp; omega
theorem insL_perm (out : List (List Int)) (x : List Int) : (insL out x).Perm (out ++ [x]) := by
  unfold insL
  refine (List.perm_middle).trans ?_
  rw [List.take_append_drop]
  exact (List.perm_append_comm (l₁ := [x]) (l₂ := out))
theorem findK_after (x : List Int) (out : List (List Int)) : ∀ k j, findK x out k ≤ j → j < k → cmpL x (out.getD j []) < 0
  | 0, j, _, h => absurd h (by omega)
  | k + 1, j, h1, h2 => by
    unfold findK at h1
    by_cases c : cmpL x (out.getD k []) < 0
    · rw [if_pos c] at h1
      by_cases e : j = k
      · rw [e]; exact c
      · exact findK_after x out k j h1 (by omega)
    · rw [if_neg c] at h1; omega
theorem findK_ahead (x : List Int) (out : List (List Int)) : ∀ k, 0 < findK x out k → ¬ cmpL x (out.getD (findK x out k - 1) []) < 0
  | 0, h => absurd h (by simp [findK])
  | k + 1, h => by
    unfold findK at h ⊢
    by_cases c : cmpL x (out.getD k []) < 0
    · rw [if_pos c] at h ⊢; exact findK_ahead x out k h
    · rw [if_neg c]; exact c
theorem insL_sorted (out : List (List Int)) (x : List Int) (hs : out.Pairwise fun a b => cmpL a b ≤ 0) : (insL out x).Pairwise fun a b => cmpL a b ≤ 0 := by
  have hK := findK_le x out out.length
  have hi := List.pairwise_iff_getElem.1 hs
  have gd : ∀ j (hj : j < out.length), out.getD j [] = out[j] := fun j hj => by rw [List.getD_eq_getElem?_getD, List.getElem?_eq_getElem hj]; rfl
  have af : ∀ j (hj : j < out.length), findK x out out.length ≤ j → cmpL x out[j] ≤ 0 := fun j hj h => by
    have := findK_after x out out.length j h hj
    rw [gd j hj] at this; omega
  have ah : ∀ j (hj : j < out.length), j < findK x out out.length → cmpL out[j] x ≤ 0 := fun j hj h => by
    have h1 := findK_ahead x out out.length (by omega)
    have hq : findK x out out.length - 1 < out.length := by omega
    rw [gd _ hq] at h1
    have h2 := cmpL_neg x out[findK x out out.length - 1]
    by_cases e : j = findK x out out.length - 1
    · subst e; omega
    · have h3 := hi j (findK x out out.length - 1) hj hq (by omega)
      exact cmpL_trans _ _ _ h3 (by omega)
  unfold insL
  rw [List.pairwise_append]
  refine ⟨hs.sublist (List.take_sublist _ _), ?_, ?_⟩
  · rw [List.pairwise_cons]
    refine ⟨fun y hy => ?_, hs.sublist (List.drop_sublist _ _)⟩
    obtain ⟨j, hj, rfl⟩ := List.mem_iff_getElem.1 hy
    rw [List.getElem_drop]
    exact af _ (by rw [List.length_drop] at hj; omega) (Nat.le_add_right _ _)
  · intro a ha b hb
    obtain ⟨j, hj, rfl⟩ := List.mem_iff_getElem.1 ha
    rw [List.length_take] at hj
    rw [List.getElem_take]
    have a1 := ah j (by omega) (by omega)
    rcases List.mem_cons.1 hb with rfl | hb
    · exact a1
    · obtain ⟨q, hq, rfl⟩ := List.mem_iff_getElem.1 hb
      rw [List.length_drop] at hq
      rw [List.getElem_drop]
      exact cmpL_trans _ _ _ a1 (af _ (by omega) (Nat.le_add_right _ _))
theorem insAll (all : List (List Int)) : ∀ out : List (List Int), (out.Pairwise fun a b => cmpL a b ≤ 0) → ((all.foldl insL out).Pairwise fun a b => cmpL a b ≤ 0) ∧ (all.foldl insL out).Perm (out ++ all) := by
  induction all with
  | nil => intro out h; exact ⟨h, by simp⟩
  | cons x xs ih =>
    intro out h
    obtain ⟨h1, h2⟩ := ih (insL out x) (insL_sorted out x h)
    refine ⟨h1, h2.trans ?_⟩
    refine ((insL_perm out x).append_right xs).trans ?_
    rw [List.append_assoc]
    exact List.Perm.refl _
theorem insAll_sort (all : List (List Int)) : all.foldl insL [] = sortL all := by
  obtain ⟨h1, h2⟩ := insAll all [] List.Pairwise.nil
  exact sort_one (by simpa using h2) h1
theorem sortL_perm {a b : List (List Int)} (h : a.Perm b) : sortL a = sortL b := by
  obtain ⟨h1, h2⟩ := insAll a [] List.Pairwise.nil
  rw [← insAll_sort a]
  exact sort_one ((show (a.foldl insL []).Perm a by simpa using h2).trans h) h1
theorem sortL_len (l : List (List Int)) : (sortL l).length = l.length := (List.mergeSort_perm l _).length_eq
theorem sortL_mem {l : List (List Int)} {x : List Int} : x ∈ sortL l ↔ x ∈ l := (List.mergeSort_perm l _).mem_iff
end Go.Proofs.Ytjjkagnbdfofbaa.Pure
end
