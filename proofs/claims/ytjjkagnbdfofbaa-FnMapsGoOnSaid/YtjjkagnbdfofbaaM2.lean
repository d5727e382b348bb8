-- Several texts in one (wip/tools/merge.py).
import Derived.Test.YtjjkagnbdfofbaaProg
import Derived.Below
import Derived.Deep.Draws
import Derived.Deep.AppendLies
import Derived.Maps.AppendAt
import Derived.OwnWalk
import Derived.Laws.BytesArg
import Derived.Laws.MakeOwn
import Derived.Laws.OwnMore
import Derived.Deep.OwnRows
import Derived.Tactics
import Derived.Lib.ConvBytes
import Derived.Laws.Slices
import Derived.WalkKit
import Derived.KernelRfl
import Derived.RowKit3
import Derived.Deep.LoopGhost
import Derived.Deep.QuietTactic
import Derived.BigQuiet
import Derived.WideLaws
import Derived.Deep.DeepCutAuto
import Derived.Deep.CutBlock
import Derived.Deep.RegionHeld3
import Derived.Laws.Rows
import Derived.Lib.AppendStr
import Derived.ArgAppend
import Derived.Laws.IdiomCopy
import Derived.OrdersHeld
import Derived.Laws.BitsLemmas
import Derived.RowKit
import Derived.Test.YtjjkagnbdfofbaaV
import Derived.ProofKit
import Derived.ChangeArms
import Derived.Deep.Slices
import Derived.Lib.SmallJoins
section
namespace Go.Proofs.Ytjjkagnbdfofbaa.P
open Go.RowKit Go.Proofs.YtjjkagnbdfofbaaW.PrintWords Go.Proofs.YtjjkagnbdfofbaaW.PrintLast Go.Proofs.YtjjkagnbdfofbaaW.PrintMore
attribute [local go_sem] max2_int min2_int max_two min_two -- for this text's walks alone
set_option linter.unusedVariables false
set_option linter.unusedSimpArgs false

def errW : Option Int → Value
  | none => .nilIface
  | some c => .iface 0 (.int .i64 c)
theorem errW_none : errW none = .nilIface := rfl
theorem errW_some (c : Int) : errW (some c) = .iface 0 (.int .i64 c) := rfl

theorem info3 : (Try.prog.info? 3).map (fun i => (i.zero, i.size, i.bytes)) = some (some (.int .i64 0), 1, 8) := by kernel_rfl
theorem info4 : (Try.prog.info? 4).map (fun i => (i.zero, i.size, i.bytes)) = some (some (.bool false), 1, 1) := by kernel_rfl
theorem info24 : (Try.prog.info? 24).map (fun i => (i.zero, i.size, i.bytes)) = some (some (.slice none 0 0), 1, 24) := by kernel_rfl
-- the values' own types
def rd_L3 (xs : List (List Int)) (i : Int) : (List Int) := xs.getD i.toNat ([] : List Int)
theorem at_L3 {w : World} {A : Option Addr} {n : Nat} {xs : List (List Int)} (h : Kd.C (Kd.slice 3 (Kd.int .i64)) w A n xs) (i : Int) (h0 : 0 ≤ i) (h1 : i < n) : ∃ ad A0 c0, A = some ad ∧ w.cell? (ad.add i.toNat) = some (.slice A0 (rd_L3 xs i).length c0) ∧ (rd_L3 xs i).length ≤ c0 ∧ (Kd.int .i64).C w A0 (rd_L3 xs i).length (rd_L3 xs i) := by
  obtain ⟨ad, c, e, _, hK, hc0⟩ := Kd.C_get h ([] : List Int) i h0 h1
  have hc : ∀ j u, c[j]? = some u → w.cell? (ad.add (i.toNat * 1 + j)) = some u := hc0
  obtain ⟨A0, c0, rfl, l0, g0⟩ := hK
  exact ⟨ad, A0, c0, e, by have hq := hc 0 _ rfl; rwa [Nat.mul_one, Nat.add_zero] at hq, l0, g0⟩

section
variable {P : Program} {ops : Array Oper} {C : World → Prop} {Q : Act → Prop} {o : Oper} {rest : List Oper} {a : Act}
structure QW (P : Program) (ops : Array Oper) (C : World → Prop) (Q : Act → Prop) (l : List Oper) (a : Act) : Prop where
  out : wpQuiet P ops C Q l a
theorem qb_region {id : Nat} {l : List Oper} {Q : Exit → Act → World → Prop} {w : World} (hm : P.follows .mixedOrders = true) (hB : Region.lexB .any l.toArray = true)
    (h : QW P l.toArray (fun w' => Below w.heap.size w w') (fun a' => ∀ w', Below w.heap.size w w' → Q .normal a' w') l a) : (Code.region id l.toArray true).wp P Q a w :=
  wp_region_quiet hm hB (show Below w.heap.size w w.drew from below_drew (Below.refl _ _)) h.out
theorem qb_nil (h : Q a) : QW P ops C Q [] a := ⟨wpQuiet_nil h⟩
theorem qb_skip (a' : Act) (hw : Region.wanted o (yielded ops a.tmps) = false) (ha : a.put o.dst undef = a') (h : QW P ops C Q rest a') : QW P ops C Q (o :: rest) a := by
  replace h := h.out
  refine ⟨?_⟩
  subst ha
  simp only [wpQuiet, hw]
  exact h
theorem qb_val (v : Value) (a' : Act) (hw : Region.wanted o (yielded ops a.tmps) = true) (hr : ∀ w', C w' → (execOp a.eval o).run P w' = .ok (.value v) w') (ha : a.put o.dst v = a') (h : QW P ops C Q rest a') : QW P ops C Q (o :: rest) a := by
  replace h := h.out
  refine ⟨?_⟩
  subst ha
  simp only [wpQuiet, hw, if_true]
  refine ⟨v, fun w' hc => ?_, h⟩
  unfold Oper.quietAt
  rw [hr w' hc]
  exact ⟨rfl, rfl⟩
theorem qb_callN (N : Tmp) (_ : o.dst = some N) (h : QW P ops C Q (o :: rest) a) : QW P ops C Q (o :: rest) a := h
theorem qb_callA (N : Tmp) (hd : o.dst = some N) {f : FuncId} {fn : Func} {us : Array Operand} {ts : Array TypeId} (hf : P.funcs[f]? = some fn) (hname : (fn.name == "runtime.NumGoroutine") = false) (hb : fn.body.isSome = true) {args : Array Value}
    (hop : o.op = .call { callee := .value (.func f), args := us, argTypes := ts }) (v : Value) (a' : Act) (hw : Region.wanted o (yielded ops a.tmps) = true) (hc : ∀ w', C w' → Calls P f args w' fun e w'' => e = .returned v ∧ C w'') (hargs : us.map a.eval = args) (ha : a.put (some N) v = a') (h : QW P ops C Q rest a') : QW P ops C Q (o :: rest) a := by
  replace h := h.out
  refine ⟨?_⟩
  subst ha
  simp only [wpQuiet, hw, if_true]
  refine ⟨v, fun w' hcw => ?_, by rw [hd]; exact h⟩
  unfold Oper.quietAt
  have he := enters_ hf hname hb args w'
  have hrun : (execOp a.eval o).run P w' = .ok (.enter f args) w' := by
    unfold execOp
    simp [hop, resolve, Deferred.ofValue, invoke, Act.eval, hargs, he]
  rw [hrun]
  exact ⟨rfl, hc w' hcw⟩
theorem qb_call (N : Tmp) (hd : o.dst = some N) {f : FuncId} {fn : Func} {us : Array Operand} {ts : Array TypeId} (hf : P.funcs[f]? = some fn) (hname : (fn.name == "runtime.NumGoroutine") = false) (hb : fn.body.isSome = true) {args : Array Value}
    (hop : o.op = .call { callee := .value (.func f), args := us, argTypes := ts }) (v : Value) (a' : Act) (hw : Region.wanted o (yielded ops a.tmps) = true) (hc : ∀ w', C w' → Calls P f args w' fun e w'' => e = .returned v ∧ C w'') (hargs : us.toList.map a.eval = args.toList) (ha : a.put (some N) v = a') (h : QW P ops C Q rest a') : QW P ops C Q (o :: rest) a :=
  qb_callA N hd hf hname hb hop v a' hw hc (by rw [← Array.toList_inj, Array.toList_map]; exact hargs) ha h
theorem qb_b {f : FuncId} {args : Array Value} {w0 w : World} {v : Value} (hb : Below w0.heap.size w0 w) (h : Calls P f args w fun e w' => e = .returned v ∧ Below w.heap.size w w') : Calls P f args w fun e w'' => e = .returned v ∧ Below w0.heap.size w0 w'' :=
  h.mono fun _ _ h_ => ⟨h_.1, below_step hb h_.2⟩
theorem qb_d {f : FuncId} {args : Array Value} {w0 w : World} {v : Value} (hb : Below w0.heap.size w0 w) (h : Calls P f args w fun e w' => e = .returned v ∧ Drawn0 w w') : Calls P f args w fun e w'' => e = .returned v ∧ Below w0.heap.size w0 w'' :=
  h.mono fun _ _ h_ => ⟨h_.1, below_step hb h_.2.below⟩
end

def OFn (K : Nat) : Prop := ∃ fn, Try.prog.funcs[K]? = some fn ∧ (fn.name == "runtime.NumGoroutine") = false ∧ fn.body.isSome = true
theorem gate_calleeO {P : Program} {ops : Array Oper} {o : Oper} {rest : List Oper} {a : Act} {Q : Exit → Act → World → Prop} {W : World} {t : Tmp} {us : Array Operand} {ts : Array TypeId} (_ho : o.op = .call { callee := .value (.tmp t), args := us, argTypes := ts }) (h : wpList P ops Q (o :: rest) a W) : wpList P ops Q (o :: rest) a W := h
theorem goesO_run {oi : Oper} {a : Act} {w : World} {f : Nat} {F C : Array Value} {t : Tmp} {us : Array Operand} {ts : Array TypeId} (hG : OFn f) (args : Array Value)
    (hop : oi.op = .call { callee := .value (.tmp t), args := us, argTypes := ts }) (hargs : us.map a.eval = args) (hv : a.eval (.tmp t) = .func (.func f) F C) :
    (execOp a.eval oi).run Try.prog w = .ok (.enter f (F ++ args ++ C)) w := by
  obtain ⟨fn, hf, hname, hb⟩ := hG
  have he := enters_ hf hname hb (F ++ args ++ C) w
  have e1 : a.tmps.getD t undef = .func (.func f) F C := hv
  unfold execOp
  simp only [hop, resolve, Act.eval, e1]
  rw [Array.append_assoc] at he ⊢
  simp [Deferred.ofValue, invoke, hargs, he]
theorem goesO_ {ops : Array Oper} {Q : Exit → Act → World → Prop} {oi : Oper} {N : Option Tmp} {a : Act} {w : World} {K : Act → World → Prop} {f : Nat} {F C : Array Value} {t : Tmp} {us : Array Operand} {ts : Array TypeId} (hG : OFn f) (args : Array Value)
    (hw : Region.wanted oi (yielded ops a.tmps) = true) (hN : oi.dst = N) (hop : oi.op = .call { callee := .value (.tmp t), args := us, argTypes := ts }) (hargs : us.map a.eval = args) (hv : a.eval (.tmp t) = .func (.func f) F C)
    (h : Calls Try.prog f (F ++ args ++ C) w fun e w' => ∃ v, e = .returned v ∧ K (a.put N v) w') : if Region.wanted oi (yielded ops a.tmps) = true then Oper.wp Try.prog oi a w K Q else K (a.put N undef) w :=
  call_ f _ hw hN (goesO_run hG args hop hargs hv) h
theorem goesOL_ {ops : Array Oper} {Q : Exit → Act → World → Prop} {rest : List Oper} {oi : Oper} {a : Act} {w : World} (N : Option Tmp) (hd : oi.dst = N) (hg : oi.guard = none) {f : Nat} {F C : Array Value} {t : Tmp} {us : Array Operand} {ts : Array TypeId} (hG : OFn f) (args : Array Value)
    (hop : oi.op = .call { callee := .value (.tmp t), args := us, argTypes := ts }) (hargs : us.map a.eval = args) (hv : a.eval (.tmp t) = .func (.func f) F C)
    (h : Calls Try.prog f (F ++ args ++ C) w fun e w' => ∃ v, e = .returned v ∧ wpList Try.prog ops Q rest (a.put N v) w') : wpList Try.prog ops Q (oi :: rest) a w := by
  refine wpList_plain hg fun K hK => ?_
  have hrun := goesO_run (w := w) hG args hop hargs hv
  unfold Oper.wp
  rw [hrun, Oper.upon_enter]
  refine h.mono fun e w'' hh => ?_
  obtain ⟨v, rfl, hk⟩ := hh
  subst hd
  exact hK _ _ hk

abbrev OC45 (w0 : World) (fx : Int → Option (Bool)) (K : Nat) (F C : Array Value) : Prop := ∀ (a0 : Int) (r : Bool) (w : World) (_ : Below w0.heap.size w0 w) (_ : fx a0 = some r),
    Calls Try.prog K (F ++ #[.int .i64 a0] ++ C) w fun e w' => e = .returned (.bool r) ∧ Below w.heap.size w w'
theorem OC45.step {w0 w1 : World} {fx : Int → Option (Bool)} {K : Nat} {F C : Array Value} (h : OC45 w0 fx K F C) (hb : Below w0.heap.size w0 w1) : OC45 w1 fx K F C := by
  intro z0 z1 w  hb2 he
  exact h z0 z1 w  (below_step hb hb2) he

abbrev OC48 (w0 : World) (fx : Int → Option (Int)) (K : Nat) (F C : Array Value) : Prop := ∀ (a0 : Int) (r : Int) (w : World) (_ : Below w0.heap.size w0 w) (_ : fx a0 = some r),
    Calls Try.prog K (F ++ #[.int .i64 a0] ++ C) w fun e w' => e = .returned (.int .i64 r) ∧ Below w.heap.size w w'
abbrev OC50 (w0 : World) (fx : Int → Int → Option (Int)) (K : Nat) (F C : Array Value) : Prop := ∀ (a0 : Int) (a1 : Int) (r : Int) (w : World) (_ : Below w0.heap.size w0 w) (_ : fx a0 a1 = some r),
    Calls Try.prog K (F ++ #[.int .i64 a0, .int .i64 a1] ++ C) w fun e w' => e = .returned (.int .i64 r) ∧ Below w.heap.size w w'
abbrev OC51 (w0 : World) (fx : Int → Int → Option (Bool)) (K : Nat) (F C : Array Value) : Prop := ∀ (a0 : Int) (a1 : Int) (r : Bool) (w : World) (_ : Below w0.heap.size w0 w) (_ : fx a0 a1 = some r),
    Calls Try.prog K (F ++ #[.int .i64 a0, .int .i64 a1] ++ C) w fun e w' => e = .returned (.bool r) ∧ Below w.heap.size w w'
theorem zf1_ {P Q A0_ : Prop} (h : P) (a0_ : A0_) (hs : A0_ → P → Q := by intro a0_ h_; repeat (first | (with_reducible first | exact h_ | refine blk_drewN ?_ _ | refine blk_drew ?_ | refine blk_alloc ?_ _) | refine blk_far ?_ (show _ ≠ _ from a0_) _)) : Q := hs a0_ h
theorem bc4_ {w : World} {g : Nat} {t : TypeId} {v0 v1 v2 v3 : Value} (h : w.heap[g]? = some (.cells #[v0, v1, v2, v3] t (0, 0))) : w.cell? ⟨g, 0, none⟩ = some v0 ∧ w.cell? ⟨g, 1, none⟩ = some v1 ∧ w.cell? ⟨g, 2, none⟩ = some v2 ∧ w.cell? ⟨g, 3, none⟩ = some v3 := ⟨(blk_cell h 0).trans rfl, (blk_cell h 1).trans rfl, (blk_cell h 2).trans rfl, (blk_cell h 3).trans rfl⟩
theorem bf4_ {w : World} {g : Nat} {t : TypeId} {v0 v1 v2 v3 : Value} (h : w.heap[g]? = some (.cells #[v0, v1, v2, v3] t (0, 0))) : w.cell? ⟨g, 0, none⟩ = some v0 ∧ w.cell? ⟨g, 1, none⟩ = some v1 ∧ w.cell? ⟨g, 2, none⟩ = some v2 ∧ w.cell? ⟨g, 3, none⟩ = some v3 ∧ w.frozen? ⟨g, 0, none⟩ = false ∧ w.frozen? ⟨g, 1, none⟩ = false ∧ w.frozen? ⟨g, 2, none⟩ = false ∧ w.frozen? ⟨g, 3, none⟩ = false := ⟨(blk_cell h 0).trans rfl, (blk_cell h 1).trans rfl, (blk_cell h 2).trans rfl, (blk_cell h 3).trans rfl, blk_frozen h 0, blk_frozen h 1, blk_frozen h 2, blk_frozen h 3⟩
theorem rf_ {α : Type} {d : Kd α} {e base g t : Nat} {w w2 : World} {ok : Nat → Prop} {v : Value} {xs : List α} {cells : Array Value} (h : d.R e w base ok v xs) (hb : w.heap[g]? = some (.cells cells t (0, 0))) (ht : ∀ q, q ∈ e :: d.E → q ≠ t := by decide) (hs : d.R e w base (fun k => ok k ∧ k ≠ g) v xs → d.R e w2 base (fun k => ok k ∧ k ≠ g) v xs := by intro h_; repeat (first | with_reducible exact h_ | with_reducible apply Kd.R_alloc | with_reducible apply Kd.R_drewN | with_reducible apply Kd.R_drew | with_reducible refine Kd.R_far ?_ (fun _ hk => hk.2) _ | refine Kd.R_far ?_ (fun _ hk => hk.2) _ | exact h_)) : d.R e w2 base ok v xs := Kd.R_mono (hs (Kd.R_types h hb ht)) (fun _ h_ => h_.1)
theorem gs_ {w W : World} {g : Nat} (hg : g = W.heap.size) (h : Below w.heap.size w W) : w.heap.size ≤ g := by rw [hg]; exact below_size h
theorem nl_ {a b n : Nat} (hg : b = n) (h : a < n) : a ≠ b := by omega
theorem ng_ {a b n : Nat} (hg : b = n) (h : a < n) : b ≠ a := by omega
theorem bx_ {P : Program} {ops : Array Oper} {rest : List Oper} {o : Oper} {a : Act} {Q : Exit → Act → World → Prop} {W : World} {N : Tmp} {cs : Array Value} {t : TypeId} (h : ∀ g, g = W.heap.size → ∀ w1, w1.heap[g]? = some (.cells cs t (0, 0)) → Below W.heap.size W w1 → wpList P ops Q rest (a.put o.dst (.pointer (some ⟨g, 0, none⟩))) w1) (hgd : o.guard = none := by rfl) (hd : o.dst = some N := by rfl) (hrun : (execOp a.eval o).run P W = .ok (.value (.pointer (some ⟨W.heap.size, 0, none⟩))) (W.alloc (.cells cs t (0, 0))) := by first | (go_simp; done) | (go_simp; rfl)) : wpList P ops Q (o :: rest) a W := box_event hgd hd hrun h
theorem la_ {α : Type} {a b : α} (h : a = b := by (try simp only [List.map_toArray, List.map_cons, List.map_nil]); first | done | rfl | (simp only [List.length_drop, List.length_take]; rfl)) : a = b := h
theorem sm_ {p : Prop} (h : p := by first | rfl | (simp; done) | (simp [*]; done)) : p := h
theorem dt_ {p : Prop} [Decidable p] (h : decide p = true := by first | (with_reducible assumption) | assumption) : p := of_decide_eq_true h
theorem an_ {p : Prop} (h : p := by first | rfl | (simp [errW_none, errW_some] <;> rfl) | (simp [*, errW_none, errW_some] <;> rfl)) : p := h
theorem sd_ {p : Prop} (h : p) : Aside0 p := ⟨h⟩
theorem kp_ {P Q : Prop} (h : P) (hs : P → Q := by intro h_; repeat (first | exact h_ | (with_reducible refine Kd.C_alloc ?_ _) | (with_reducible refine Kd.C_drewN ?_ _) | (with_reducible refine Kd.C_drew ?_))) : Q := hs h
theorem kc_ {α : Type} {d : Kd α} {w w1 w2 : World} {A : Option Addr} {n : Nat} {xs : List α} (h : d.C w A n xs) (hb : Below w.heap.size w w1) (hs : d.C w1 A n xs → d.C w2 A n xs := by intro h_; repeat (first | exact h_ | (with_reducible refine Kd.C_alloc ?_ _) | (with_reducible refine Kd.C_drewN ?_ _) | (with_reducible refine Kd.C_drew ?_))) : d.C w2 A n xs := hs (Kd.C_below h hb)
theorem bz_ {w w1 : World} {g : Nat} {o : Obj} (h : w.heap[g]? = some o) (hs : w.heap[g]? = some o → w1.heap[g]? = some o := by intro h_; (with_reducible repeat (first | refine blk_drewN ?_ _ | refine blk_drew ?_ | refine blk_alloc ?_ _)); exact h_) : w1.heap[g]? = some o := hs h
theorem bb_ {w w1 w2 : World} {g : Nat} {o : Obj} (h : w.heap[g]? = some o) (hb : Below w1.heap.size w1 w2) (hs : w.heap[g]? = some o → w1.heap[g]? = some o := by intro h_; (with_reducible repeat (first | refine blk_drewN ?_ _ | refine blk_drew ?_ | refine blk_alloc ?_ _)); exact h_) : w2.heap[g]? = some o := blk_below (hs h) hb
theorem bl_ {w w1 : World} {g : Nat} {o : Obj} (h : w.heap[g]? = some o) (hs : w.heap[g]? = some o → w1.heap[g]? = some o := by intro h_; (with_reducible repeat (first | refine blk_drewN ?_ _ | refine blk_drew ?_ | refine blk_alloc ?_ _)); exact h_) : g < w1.heap.size := blk_lt (hs h)
theorem ro_ {P Q : Prop} (h : P) (hs : P → Q := by intro h_; (with_reducible repeat (first | apply Kd.R_alloc | apply Kd.R_drewN | apply Kd.R_drew)); exact h_) : Q := hs h
theorem bw0_ {w w1 w2 : World} (h : Below w.heap.size w w1)  (hs : Below w.heap.size w w1 → Below w.heap.size w w2 := by intro  h_; repeat (first | (with_reducible first | exact h_ | apply below_alloc | apply pw_below_drewN | apply below_drew1) | exact h_)) : Below w.heap.size w w2 := hs  h
theorem bw1_ {w w1 w2 : World} {b0_ : Nat} (h : Below w.heap.size w w1) (g0_ : w.heap.size ≤ b0_) (hs : w.heap.size ≤ b0_ → Below w.heap.size w w1 → Below w.heap.size w w2 := by intro g0_ h_; repeat (first | (with_reducible first | exact h_ | apply below_alloc | apply pw_below_drewN | apply below_drew1 | refine below_set ?_ g0_) | exact h_)) : Below w.heap.size w w2 := hs g0_ h
theorem bw2_ {w w1 w2 : World} {b0_ b1_ : Nat} (h : Below w.heap.size w w1) (g0_ : w.heap.size ≤ b0_) (g1_ : w.heap.size ≤ b1_) (hs : w.heap.size ≤ b0_ → w.heap.size ≤ b1_ → Below w.heap.size w w1 → Below w.heap.size w w2 := by intro g0_ g1_ h_; repeat (first | (with_reducible first | exact h_ | apply below_alloc | apply pw_below_drewN | apply below_drew1 | refine below_set ?_ g0_ | refine below_set ?_ g1_) | exact h_)) : Below w.heap.size w w2 := hs g0_ g1_ h
theorem bw3_ {w w1 w2 : World} {b0_ b1_ b2_ : Nat} (h : Below w.heap.size w w1) (g0_ : w.heap.size ≤ b0_) (g1_ : w.heap.size ≤ b1_) (g2_ : w.heap.size ≤ b2_) (hs : w.heap.size ≤ b0_ → w.heap.size ≤ b1_ → w.heap.size ≤ b2_ → Below w.heap.size w w1 → Below w.heap.size w w2 := by intro g0_ g1_ g2_ h_; repeat (first | (with_reducible first | exact h_ | apply below_alloc | apply pw_below_drewN | apply below_drew1 | refine below_set ?_ g0_ | refine below_set ?_ g1_ | refine below_set ?_ g2_) | exact h_)) : Below w.heap.size w w2 := hs g0_ g1_ g2_ h
theorem bw4_ {w w1 w2 : World} {b0_ b1_ b2_ b3_ : Nat} (h : Below w.heap.size w w1) (g0_ : w.heap.size ≤ b0_) (g1_ : w.heap.size ≤ b1_) (g2_ : w.heap.size ≤ b2_) (g3_ : w.heap.size ≤ b3_) (hs : w.heap.size ≤ b0_ → w.heap.size ≤ b1_ → w.heap.size ≤ b2_ → w.heap.size ≤ b3_ → Below w.heap.size w w1 → Below w.heap.size w w2 := by intro g0_ g1_ g2_ g3_ h_; repeat (first | (with_reducible first | exact h_ | apply below_alloc | apply pw_below_drewN | apply below_drew1 | refine below_set ?_ g0_ | refine below_set ?_ g1_ | refine below_set ?_ g2_ | refine below_set ?_ g3_) | exact h_)) : Below w.heap.size w w2 := hs g0_ g1_ g2_ g3_ h
theorem bw5_ {w w1 w2 : World} {b0_ b1_ b2_ b3_ b4_ : Nat} (h : Below w.heap.size w w1) (g0_ : w.heap.size ≤ b0_) (g1_ : w.heap.size ≤ b1_) (g2_ : w.heap.size ≤ b2_) (g3_ : w.heap.size ≤ b3_) (g4_ : w.heap.size ≤ b4_) (hs : w.heap.size ≤ b0_ → w.heap.size ≤ b1_ → w.heap.size ≤ b2_ → w.heap.size ≤ b3_ → w.heap.size ≤ b4_ → Below w.heap.size w w1 → Below w.heap.size w w2 := by intro g0_ g1_ g2_ g3_ g4_ h_; repeat (first | (with_reducible first | exact h_ | apply below_alloc | apply pw_below_drewN | apply below_drew1 | refine below_set ?_ g0_ | refine below_set ?_ g1_ | refine below_set ?_ g2_ | refine below_set ?_ g3_ | refine below_set ?_ g4_) | exact h_)) : Below w.heap.size w w2 := hs g0_ g1_ g2_ g3_ g4_ h
theorem bw6_ {w w1 w2 : World} {b0_ b1_ b2_ b3_ b4_ b5_ : Nat} (h : Below w.heap.size w w1) (g0_ : w.heap.size ≤ b0_) (g1_ : w.heap.size ≤ b1_) (g2_ : w.heap.size ≤ b2_) (g3_ : w.heap.size ≤ b3_) (g4_ : w.heap.size ≤ b4_) (g5_ : w.heap.size ≤ b5_) (hs : w.heap.size ≤ b0_ → w.heap.size ≤ b1_ → w.heap.size ≤ b2_ → w.heap.size ≤ b3_ → w.heap.size ≤ b4_ → w.heap.size ≤ b5_ → Below w.heap.size w w1 → Below w.heap.size w w2 := by intro g0_ g1_ g2_ g3_ g4_ g5_ h_; repeat (first | (with_reducible first | exact h_ | apply below_alloc | apply pw_below_drewN | apply below_drew1 | refine below_set ?_ g0_ | refine below_set ?_ g1_ | refine below_set ?_ g2_ | refine below_set ?_ g3_ | refine below_set ?_ g4_ | refine below_set ?_ g5_) | exact h_)) : Below w.heap.size w w2 := hs g0_ g1_ g2_ g3_ g4_ g5_ h
section
variable {c : Prop} {d : Decidable c} {α β : Type} {A B : Option α} {r : α} {G : Prop}
theorem ih_ (k : decide c = true → A = some r → G) : (if c then A else none) = some r → G := by
  intro h
  by_cases hc : c
  · exact k (decide_eq_true hc) (by rw [if_pos hc] at h; exact h)
  · rw [if_neg hc] at h; exact absurd h (by simp)
theorem ip_ (k : c → A = some r → G) : (if c then A else none) = some r → G := ih_ fun a => k (of_decide_eq_true a)
theorem il_ (k : Aside0 c → A = some r → G) : (if c then A else none) = some r → G := ip_ fun a => k ⟨a⟩
theorem ic_ (k : decide c = true → A = some r → G) (l : decide c = false → B = some r → G) : (if c then A else B) = some r → G := by
  intro h
  by_cases hc : c
  · exact k (decide_eq_true hc) (by rw [if_pos hc] at h; exact h)
  · exact l (decide_eq_false hc) (by rw [if_neg hc] at h; exact h)
theorem it_ {d : Decidable (true = true)} (h : (if true = true then A else B) = some r) : A = some r := by rw [if_pos rfl] at h; exact h
theorem if_ {d : Decidable (false = true)} (h : (if false = true then A else B) = some r) : B = some r := by rw [if_neg Bool.false_ne_true] at h; exact h
theorem bt_ (b : Bool) : b = true ∨ b = false := by cases b <;> simp
theorem ob_ {o : Option β} {f : β → Option α} (k : ∀ t, Aside0 (o = some t) → f t = some r → G) : o.bind f = some r → G := by
  intro h
  obtain ⟨t, h1, h2⟩ := Option.bind_eq_some_iff.mp h
  exact k t ⟨h1⟩ h2
theorem oc_ {o : Option β} {f : β → Option α} (h : o.bind f = some r) : ∃ t, Aside0 (o = some t) ∧ f t = some r := by
  obtain ⟨t, h1, h2⟩ := Option.bind_eq_some_iff.mp h
  exact ⟨t, ⟨h1⟩, h2⟩
theorem oy_ {a : β} {f : β → Option α} (k : ∀ y, Aside0 (y = a) → f y = some r → G) : (some a).bind f = some r → G := fun h => k a ⟨rfl⟩ h
end
theorem ab_ {w W : World} {A : Option Addr} {n : Nat} {xs : List Bool} (h : Kd.bool.C w A n xs) (hb : Below w.heap.size w W) (i : Int) (hp : decide (0 ≤ i) = true := by assumption) (hq : decide (i < n) = true := by assumption) : ∃ ad, A = some ad ∧ W.cell? (ad.add i.toNat) = some (.bool (rdOf false xs i)) ∧ (0 ≤ i) = True ∧ (i < n) = True := by
  obtain ⟨ad, e, hx⟩ := Kd.at_bool h i (of_decide_eq_true hp) (of_decide_eq_true hq)
  exact ⟨ad, e, (hb.cell (World.block_lt_of_cell? w _ hx)).trans hx, eq_true (of_decide_eq_true hp), eq_true (of_decide_eq_true hq)⟩
theorem ai_ {k : IntKind} {w W : World} {A : Option Addr} {n : Nat} {xs : List Int} (h : (Kd.int k).C w A n xs) (hb : Below w.heap.size w W) (i : Int) (hp : decide (0 ≤ i) = true := by assumption) (hq : decide (i < n) = true := by assumption) : ∃ ad, A = some ad ∧ W.cell? (ad.add i.toNat) = some (.int k (rd xs i)) ∧ (0 ≤ i) = True ∧ (i < n) = True := by
  obtain ⟨ad, e, hx⟩ := Kd.at_int h i (of_decide_eq_true hp) (of_decide_eq_true hq)
  exact ⟨ad, e, (hb.cell (World.block_lt_of_cell? w _ hx)).trans hx, eq_true (of_decide_eq_true hp), eq_true (of_decide_eq_true hq)⟩
theorem qx_ {w W : World} {a : Addr} {v : Value} (hb : Below w.heap.size w W) (h : w.cell? a = some v) : W.cell? a = some v := (hb.cell (World.block_lt_of_cell? _ _ h)).trans h
theorem qy_ {α : Type} {d : Kd α} {w W : World} {A : Option Addr} {n : Nat} {xs : List α} (h : Aside0 (d.C w A n xs)) (hb : Below w.heap.size w W) : d.C W A n xs := Kd.C_below h.out hb
theorem bk_ {w : World} {g : Nat} {t : TypeId} {cs : Array Value} {v : Value} (h : Aside0 (w.heap[g]? = some (.cells cs t (0, 0)))) (i : Nat) (e : cs[i]? = some v := by rfl) : w.cell? ⟨g, i, none⟩ = some v := (blk_cell h.out i).trans e
theorem nn_ {p : Prop} (h : p := by first | exact Kd.R_nil _ _ _ _ _ | exact Kd.N_nil _ _ _ _ _ | exact Kd.V_nil _ _ _ _ _ | exact Kd.Q_nil _ _ _ _ _ | exact Kd.S_nil _ _ _ _ _) : p := h
section
variable {P : Program} {md : Region.Mode} {ops : Array Oper} {Q : Exit → Act → World → Prop} {S : World → Prop} {ds : List Nat} {N : Tmp} {oi : Oper} {v : Value} {fuel : Nat} {l : Array Bool} {a a' : Act} {w : World}
theorem pv_ (i : Nat) (hi : ops[i]? = some oi) (hN : oi.dst = some N) (hc : anyB md ops l (l.setIfInBounds i true) i = true) (h : wpAnyLast P md ops Q S ds fuel (l.setIfInBounds i true) a' w)
    (hw : Region.wanted oi (yielded ops a.tmps) = true := by rfl) (hy : ∀ w', (execOp a.eval oi).run P w' = .ok (.value v) w' := by intro w'; go_simp; with_reducible rfl) (ha : a.put (some N) v = a' := by simp only [Act.put, List.setIfInBounds_toArray, List.set_cons_zero, List.set_cons_succ, i64_w, i32_w]; rfl) (hQ : ∀ c a w, Q (.panic c) (a.put oi.dst v) w → Q (.panic c) a w := by exact fun _ _ _ h => h) : wpAnyLast P md ops Q S ds (fuel + 1) l a w :=
  pure_ _ hi hN hc hQ (Or.inl ⟨hw, hy⟩) ha h
theorem pu_ (i : Nat) (hi : ops[i]? = some oi) (hN : oi.dst = some N) (hc : anyB md ops l (l.setIfInBounds i true) i = true) (h : wpAnyLast P md ops Q S ds fuel (l.setIfInBounds i true) a' w)
    (hw : Region.wanted oi (yielded ops a.tmps) = false := by rfl) (ha : a.put (some N) undef = a' := by simp only [Act.put, List.setIfInBounds_toArray, List.set_cons_zero, List.set_cons_succ, i64_w, i32_w]; rfl) (hQ : ∀ c a w, Q (.panic c) (a.put oi.dst undef) w → Q (.panic c) a w := by exact fun _ _ _ h => h) : wpAnyLast P md ops Q S ds (fuel + 1) l a w :=
  pure_ _ hi hN hc hQ (Or.inr ⟨hw, rfl⟩) ha h
theorem tk_ (i : Nat) (hi : ops[i]? = some oi) (hN : oi.dst = some N) (hc : takeB md ops ds l (l.setIfInBounds i true) i = true) (hS : S w) (hy : ∀ w', S w' → (execOp a.eval oi).run P w' = .ok (.value v) w') (h : wpAnyLast P md ops Q S ds fuel (l.setIfInBounds i true) a' w)
    (hw : Region.wanted oi (yielded ops a.tmps) = true := by rfl) (ha : a.put (some N) v = a' := by simp only [Act.put, List.setIfInBounds_toArray, List.set_cons_zero, List.set_cons_succ, i64_w, i32_w]; rfl) (hQ : ∀ c a w, Q (.panic c) (a.put oi.dst v) w → Q (.panic c) a w := by exact fun _ _ _ h => h) : wpAnyLast P md ops Q S ds (fuel + 1) l a w :=
  take_ _ hi hN hc hQ (Or.inl ⟨hw, hy⟩) hS ha h
theorem on_ (i : Nat) {N : Option Tmp} (hi : ops[i]? = some oi) (hN : oi.dst = N) (hc : readyB md ops l (l.setIfInBounds i true) i = true)
    (h : ∀ K : Act → World → Prop, Shut (∀ a' w', S w' → (S w' → wpAnyLast P md ops Q S ds fuel (l.setIfInBounds i true) a' w') → K a' w') → if Region.wanted oi (yielded ops a.tmps) = true then Oper.wp P oi a w K Q else K (a.put N undef) w) (hd : i ∉ ds := by decide) : wpAnyLast P md ops Q S ds (fuel + 1) l a w :=
  one_ _ hi hN hc hd h
theorem nm_ (h : wpAnyLast P md ops Q S ds fuel l a' w) (ha : a = a' := by show Act.put _ (some _) _ = _; simp only [Act.put, List.setIfInBounds_toArray, List.set_cons_zero, List.set_cons_succ, i64_w, i32_w]; rfl) : wpAnyLast P md ops Q S ds fuel l a w := norm_ ha h
end
def c4_ (g : Nat) (a b c d : Value) (w : World) : Prop := w.cell? ⟨g, 0, none⟩ = some a ∧ w.cell? ⟨g, 1, none⟩ = some b ∧ w.cell? ⟨g, 2, none⟩ = some c ∧ w.cell? ⟨g, 3, none⟩ = some d
theorem kb0_ {P Q  : Prop} (h : P)  (hs : P → Q := by intro  h_; repeat (first | (with_reducible first | exact h_ | apply KeepBut.set_ | apply keep_drewN | apply keep_drew | apply keep_alloc) | exact h_)) : Q := hs  h
theorem kb1_ {P Q A0_ : Prop} (h : P) (a0_ : A0_) (hs : A0_ → P → Q := by intro a0_ h_; repeat (first | (with_reducible first | exact h_ | apply KeepBut.set_ | apply keep_drewN | apply keep_drew | apply keep_alloc | refine keep_far ?_ a0_ _) | exact h_)) : Q := hs a0_ h
theorem kb2_ {P Q A0_ A1_ : Prop} (h : P) (a0_ : A0_) (a1_ : A1_) (hs : A0_ → A1_ → P → Q := by intro a0_ a1_ h_; repeat (first | (with_reducible first | exact h_ | apply KeepBut.set_ | apply keep_drewN | apply keep_drew | apply keep_alloc | refine keep_far ?_ a0_ _ | refine keep_far ?_ a1_ _) | exact h_)) : Q := hs a0_ a1_ h
theorem bp4_ {w : World} {g t : Nat} {a0 a1 a2 a3 v0 v1 v2 v3 : Value} (h : w.heap[g]? = some (.cells #[a0, a1, a2, a3] t (0, 0))) : ((((w.setCell ⟨g, 0, none⟩ v0).setCell ⟨g, 1, none⟩ v1).setCell ⟨g, 2, none⟩ v2).setCell ⟨g, 3, none⟩ v3).heap[g]? = some (.cells #[v0, v1, v2, v3] t (0, 0)) := blk_put (cs := #[v0, v1, v2, a3]) (blk_put (cs := #[v0, v1, a2, a3]) (blk_put (cs := #[v0, a1, a2, a3]) (blk_put (cs := #[a0, a1, a2, a3]) h 0 _ rfl) 1 _ rfl) 2 _ rfl) 3 _ rfl
theorem b4_ {P Q : Prop} (h : P) (hs : P → Q := by intro h_; (with_reducible repeat (first | refine blk_drewN ?_ _ | refine blk_drew ?_ | refine blk_alloc ?_ _)); apply bp4_; (with_reducible repeat (first | refine blk_drewN ?_ _ | refine blk_drew ?_ | refine blk_alloc ?_ _)); exact h_) : Q := hs h
theorem rm_ {α : Type} {d : Kd α} {e base g t : Nat} {w w2 : World} {ok ok' : Nat → Prop} {v : Value} {xs : List α} {cells : Array Value} (h : d.R e w base ok v xs) (hb : w.heap[g]? = some (.cells cells t (0, 0))) (hm : ∀ k, ok k ∧ k ≠ g → ok' k := by intro _ hk_; first | exact hk_ | exact hk_.1 | (simp only [hk_, ne_eq, not_false_eq_true, and_self]; done)) (ht : ∀ q, q ∈ e :: d.E → q ≠ t := by decide) (hs : d.R e w base (fun k => ok k ∧ k ≠ g) v xs → d.R e w2 base (fun k => ok k ∧ k ≠ g) v xs := by intro h_; repeat (first | with_reducible exact h_ | with_reducible apply Kd.R_alloc | with_reducible apply Kd.R_drewN | with_reducible apply Kd.R_drew | with_reducible refine Kd.R_far ?_ (fun _ hk => hk.2) _ | refine Kd.R_far ?_ (fun _ hk => hk.2) _ | exact h_)) : d.R e w2 base ok' v xs := Kd.R_mono (hs (Kd.R_types h hb ht)) hm
theorem cf_ {A P Q : Prop} (n : A) (h : P) (hs : A → P → Q := by intro n_ h_; repeat (first | with_reducible exact h_ | refine (cell_far n_ _).trans ?_)) : Q := hs n h
theorem rv_ {α : Type} {d : Kd α} {e base g1 g2 : Nat} {w w2 : World} {ok : Nat → Prop} {v : Value} {xs : List α} (h : Kd.V d e w base ok v xs) (h1 : ∀ k, ok k → k ≠ g1) (h2 : ∀ k, ok k → k ≠ g2) (hs : (∀ k, ok k → k ≠ g1) → (∀ k, ok k → k ≠ g2) → Kd.V d e w base ok v xs → Kd.V d e w2 base ok v xs := by intro h1_ h2_ h_; repeat (first | with_reducible exact h_ | with_reducible apply Kd.V_alloc | with_reducible apply Kd.V_drewN | with_reducible apply Kd.V_drew | with_reducible refine Kd.V_far ?_ h1_ _ | with_reducible refine Kd.V_far ?_ h2_ _ | refine Kd.V_far ?_ h1_ _ | refine Kd.V_far ?_ h2_ _)) : Kd.V d e w2 base ok v xs := hs h1 h2 h

theorem rw_ {α : Type} {d : Kd α} {e base : Nat} {w w2 : World} {ok ok' : Nat → Prop} {v : Value} {xs : List α} (h : d.R e w base ok v xs) (hm : ∀ k, ok k → ok' k := by intro _ hk_; first | exact hk_ | exact hk_.1 | (simp only [hk_, ne_eq, not_false_eq_true, and_self]; done)) (hs : d.R e w base ok' v xs → d.R e w2 base ok' v xs := by intro h_; (with_reducible repeat (first | apply Kd.R_alloc | apply Kd.R_drewN | apply Kd.R_drew)); exact h_) : d.R e w2 base ok' v xs := hs (Kd.R_mono h hm)
theorem rq_ {α : Type} {d : Kd α} {e base : Nat} {w w2 : World} {ok : Nat → Prop} {v : Value} {xs : List α} {w3 : World} {m : Nat} (hq : World.drewN w2 m = w3) (h : d.R e w base ok v xs) (hs : d.R e w base ok v xs → d.R e w2 base ok v xs := by intro h_; (with_reducible repeat (first | apply Kd.R_alloc | apply Kd.R_drewN | apply Kd.R_drew)); exact h_) : d.R e w3 base ok v xs := by subst hq; exact Kd.R_drewN (hs h) _
theorem vw_ {α : Type} {d : Kd α} {e base : Nat} {w w2 : World} {ok ok' : Nat → Prop} {v : Value} {xs : List α} (h : Kd.V d e w base ok v xs) (hm : ∀ k, ok k → ok' k := by intro _ hk_; first | exact hk_ | exact hk_.1 | (simp only [hk_, ne_eq, not_false_eq_true, and_self]; done)) (hs : Kd.V d e w base ok' v xs → Kd.V d e w2 base ok' v xs := by intro h_; (with_reducible repeat (first | apply Kd.V_alloc | apply Kd.V_drewN | apply Kd.V_drew)); exact h_) : Kd.V d e w2 base ok' v xs := hs (Kd.V_mono h hm)
theorem vo_ {P Q : Prop} (h : P) (hs : P → Q := by intro h_; (with_reducible repeat (first | apply Kd.V_alloc | apply Kd.V_drewN | apply Kd.V_drew)); exact h_) : Q := hs h
theorem sw_ {α : Type} {d : Kd α} {e base : Nat} {w w2 : World} {ok ok' : Nat → Prop} {v : Value} {xs : List α} (h : Kd.S d e w base ok v xs) (hm : ∀ k, ok k → ok' k := by intro _ hk_; first | exact hk_ | exact hk_.1 | (simp only [hk_, ne_eq, not_false_eq_true, and_self]; done)) (hs : Kd.S d e w base ok' v xs → Kd.S d e w2 base ok' v xs := by intro h_; (with_reducible repeat (first | apply Kd.S_alloc | apply Kd.S_drewN | apply Kd.S_drew)); exact h_) : Kd.S d e w2 base ok' v xs := hs (Kd.S_mono h hm)
theorem so_ {P Q : Prop} (h : P) (hs : P → Q := by intro h_; (with_reducible repeat (first | apply Kd.S_alloc | apply Kd.S_drewN | apply Kd.S_drew)); exact h_) : Q := hs h
theorem bq_ {w w2 w3 : World} {g m : Nat} {o : Obj} (hq : World.drewN w2 m = w3) (h : w.heap[g]? = some o) (hs : w.heap[g]? = some o → w2.heap[g]? = some o := by intro h_; (with_reducible repeat (first | refine blk_drewN ?_ _ | refine blk_drew ?_ | refine blk_alloc ?_ _)); exact h_) : w3.heap[g]? = some o := by subst hq; exact blk_drewN (hs h) _
theorem kk_ {w w2 w3 : World} {g g2 : Nat} {o : Obj} (hk : KeepBut w2 w3 g none) (h : w.heap[g2]? = some o) (n : g2 ≠ g) (hs : w.heap[g2]? = some o → w2.heap[g2]? = some o := by intro h_; (with_reducible repeat (first | refine blk_drewN ?_ _ | refine blk_drew ?_ | refine blk_alloc ?_ _)); exact h_) : w3.heap[g2]? = some o := KeepBut.blk hk (hs h) n (by simp)
theorem bg_ {α : Type} {d : Kd α} {e base g t : Nat} {w w2 w3 : World} {ok : Nat → Prop} {v : Value} {xs : List α} {cs : Array Value} (h : w.heap[g]? = some (.cells cs t (0, 0))) (hR : d.R e w base ok v xs) (hg : w2.grownBy w3 v.ownBlock) (ht : e ≠ t := by decide) (hs : w.heap[g]? = some (.cells cs t (0, 0)) → w2.heap[g]? = some (.cells cs t (0, 0)) := by intro h_; (with_reducible repeat (first | refine blk_drewN ?_ _ | refine blk_drew ?_ | refine blk_alloc ?_ _)); exact h_) : w3.heap[g]? = some (.cells cs t (0, 0)) := blk_grown (hs h) hg (Kd.R_ne hR h ht)
theorem rfq_ {α : Type} {d : Kd α} {e base g t : Nat} {w w2 w3 : World} {ok : Nat → Prop} {v : Value} {xs : List α} {cells : Array Value} (hq : w2 = w3) (h : d.R e w base ok v xs) (hb : w.heap[g]? = some (.cells cells t (0, 0))) (ht : ∀ q, q ∈ e :: d.E → q ≠ t := by decide) (hs : d.R e w base (fun k => ok k ∧ k ≠ g) v xs → d.R e w2 base (fun k => ok k ∧ k ≠ g) v xs := by intro h_; repeat (first | with_reducible exact h_ | with_reducible apply Kd.R_alloc | with_reducible apply Kd.R_drewN | with_reducible apply Kd.R_drew | with_reducible refine Kd.R_far ?_ (fun _ hk => hk.2) _ | refine Kd.R_far ?_ (fun _ hk => hk.2) _ | exact h_)) : d.R e w3 base ok v xs := by subst hq; exact Kd.R_mono (hs (Kd.R_types h hb ht)) (fun _ h_ => h_.1)
end Go.Proofs.Ytjjkagnbdfofbaa.P
end

section
/- How what a law is handed reads as a value of the printed kinds: whole numbers, bools, strings, slices, structs. -/
namespace Go.Proofs.Ytjjkagnbdfofbaa.P
open Go.RowKit Go.Proofs.YtjjkagnbdfofbaaW.PrintWords Go.Proofs.YtjjkagnbdfofbaaW.PrintLast Go.Proofs.YtjjkagnbdfofbaaW.PrintMore

/-- What reads as data of type t holds a value of the kind d. -/
def Opens {α : Type} (t : TypeId) (d : Kd α) (wf : α → Prop) : Prop :=
  ∀ (H : Type) (enc : TypeId × Value → H) (w : World) (fuel : Nat) (cs : List Value) (x : DataW H × List MemPlace),
    DataW.trod enc Try.prog w 0 (fun _ => true) true fuel t cs = some x → ∃ y : α, d.K w y cs ∧ wf y

theorem opens_int {t : TypeId} {k : IntKind} (hu : Try.prog.underlying t = some (.int k)) : Opens t (Kd.int k) (fun n => (Lit.int k n).wf = true) := by
  intro H enc w fuel cs x h
  obtain ⟨n, rfl, _, hw⟩ := DataW.trod_int hu h
  exact ⟨n, rfl, hw⟩
theorem list_of {α : Type} (n : Nat) {p : Nat → α → Prop} (h : ∀ i, i < n → ∃ a, p i a) : ∃ l : List α, l.length = n ∧ ∀ i a, l[i]? = some a → p i a := by
  induction n with
  | zero => exact ⟨[], rfl, fun i a h => by simp at h⟩
  | succ n ih =>
    obtain ⟨l, hl, hp⟩ := ih (fun i hi => h i (by omega))
    obtain ⟨a, ha⟩ := h n (by omega)
    refine ⟨l ++ [a], by simp [hl], fun i b hb => ?_⟩
    rcases Nat.lt_or_ge i l.length with hi | hi
    · rw [List.getElem?_append_left hi] at hb
      exact hp i b hb
    · rw [List.getElem?_append_right hi] at hb
      have hi2 : i - l.length = 0 := by
        have := (List.getElem?_eq_some_iff.1 hb).1
        simp at this
        omega
      rw [hi2] at hb
      simp at hb
      subst hb
      rw [show i = n by omega]
      exact ha

/-- A slice's elements, each read with less fuel. -/
theorem slice_opens {α : Type} {t e : TypeId} {d : Kd α} {wf : α → Prop} (hu : Try.prog.underlying t = some (.slice e)) (hc : Try.prog.cellsOf e = d.sz) {H : Type} {enc : TypeId × Value → H} {w : World} {fuel : Nat} {cs : List Value} {x : DataW H × List MemPlace}
    (h : DataW.trod enc Try.prog w 0 (fun _ => true) true fuel t cs = some x)
    (he : ∀ n cs y, n < fuel → DataW.trod enc Try.prog w 0 (fun _ => true) true n e cs = some y → ∃ z : α, d.K w z cs ∧ wf z) :
    ∃ l : List α, (Kd.slice e d).K w l cs ∧ (∀ z ∈ l, wf z) ∧ l.length ≤ maxLen := by
  rcases DataW.trod_slice hu h with ⟨rfl, _⟩ | ⟨a, len, cap, elems, rest, n, rfl, rfl, _, _, hl, hm, hlen, hel, _⟩
  · exact ⟨[], ⟨none, 0, rfl, Nat.le_refl _, by exact Kd.C_nil _ _⟩, by simp, by simp⟩
  · obtain ⟨l, hll, hp⟩ := list_of (α := α) len (p := fun i z => wf z ∧ ∃ c, c.length = d.sz ∧ d.K w z c ∧ ∀ j u, c[j]? = some u → w.cell? (a.add (i * d.sz + j)) = some u) (fun i hi => by
      have h1 := hel i hi
      rw [List.getElem?_eq_getElem (by omega)] at h1
      obtain ⟨c, hc1, hc2⟩ := Option.bind_eq_some_iff.1 h1
      obtain ⟨z, hz, hwz⟩ := he n c _ (by omega) hc2
      obtain ⟨_, hlc, hcell⟩ := World.cells?_some hc1
      rw [hc] at hlc hcell
      refine ⟨z, hwz, c, hlc, hz, fun j u hu2 => ?_⟩
      have hj : j < d.sz := by have := (List.getElem?_eq_some_iff.1 hu2).1; omega
      have h2 := hcell j hj
      rw [hu2, Addr.add_add] at h2
      exact h2)
    refine ⟨l, ⟨some a, cap, by rw [hll], by omega, ?_⟩, fun z hz => ?_, by omega⟩
    · refine ⟨rfl, by rw [hll]; unfold maxLen at hm; omega, fun _ => ⟨a, rfl, fun j p hj => (hp j p hj).2⟩⟩
    · obtain ⟨i, hi⟩ := List.getElem?_of_mem hz
      exact (hp i z hi).1
theorem opens_slice {α : Type} {t e : TypeId} {d : Kd α} {wf : α → Prop} (hu : Try.prog.underlying t = some (.slice e)) (hc : Try.prog.cellsOf e = d.sz) (he : Opens e d wf) :
    Opens t (Kd.slice e d) (fun l => (∀ z ∈ l, wf z) ∧ l.length ≤ maxLen) :=
  fun H enc w _ _ _ h => slice_opens hu hc h (fun n cs y _ hy => he H enc w n cs y hy)
end Go.Proofs.Ytjjkagnbdfofbaa.P
end
