-- Printed by this session's own program (wip/tools/mkprint.py) out of the translation. Not trusted: Lean checks it.
import Derived.Test.YtmcepfimcedocaaDoorProg
import Derived.Below
import Derived.Deep.Draws
import Derived.Deep.AppendLies
import Derived.Maps.AppendAt
import Derived.OwnWalk
import Derived.Laws.BytesArg
import Derived.Laws.MakeOwn
import Derived.Laws.OwnMore
import Derived.Deep.OwnRows
import Derived.Tactics
import Derived.Lib.ConvBytes
import Derived.Laws.Slices
import Derived.WalkKit
import Derived.KernelRfl
import Derived.RowKit3
import Derived.Deep.LoopGhost
import Derived.Deep.QuietTactic
import Derived.BigQuiet
import Derived.WideLaws
import Derived.Deep.DeepCutAuto
import Derived.Deep.CutBlock
import Derived.Deep.RegionHeld3
import Derived.Laws.Rows
import Derived.Lib.AppendStr
import Derived.ArgAppend
import Derived.Laws.IdiomCopy
import Derived.OrdersHeld
import Derived.Laws.BitsLemmas
import Derived.RowKit
import Derived.Test.YtmcepfimcedocaaDoorV
namespace Go.Proofs.YtmcepfimcedocaaDoor.P
open Go.RowKit Go.Proofs.YtmcepfimcedocaaDoorW.PrintWords Go.Proofs.YtmcepfimcedocaaDoorW.PrintLast Go.Proofs.YtmcepfimcedocaaDoorW.PrintMore
attribute [local go_sem] max2_int min2_int max_two min_two max_three min_three max_four min_four   -- for this text's walks alone
set_option linter.unusedVariables false
set_option linter.unusedSimpArgs false

def errW : Option Int → Value
  | none => .nilIface
  | some c => .iface 0 (.int .i64 c)
theorem errW_none : errW none = .nilIface := rfl
theorem errW_some (c : Int) : errW (some c) = .iface 0 (.int .i64 c) := rfl

theorem info3 : (Tryd.prog.info? 3).map (fun i => (i.zero, i.size, i.bytes)) = some (some (.int .i64 0), 1, 8) := by kernel_rfl
theorem info4 : (Tryd.prog.info? 4).map (fun i => (i.zero, i.size, i.bytes)) = some (some (.bool false), 1, 1) := by kernel_rfl
theorem info48 : (Tryd.prog.info? 48).map (fun i => (i.zero, i.size, i.bytes)) = some (some (.agg #[(.string ⟨#[]⟩), (.int .i64 0), (.slice none 0 0), (.slice none 0 0), (.slice none 0 0)]), 5, 96) := by kernel_rfl
theorem info64 : (Tryd.prog.info? 64).map (fun i => (i.zero, i.size, i.bytes)) = some (some (.agg #[(.int .i64 0), (.int .i64 0)]), 2, 16) := by kernel_rfl
-- the values' own types
/-! #### struct type 64 -/
structure S64 where
  f0 : Int
  f1 : Int
def z64 : S64 := ⟨(0 : Int), (0 : Int)⟩
def k64 : Kd S64 := Kd.iso (Kd.pair (Kd.int .i64) (Kd.int .i64)) (fun x : S64 => (x.f0, x.f1))
theorem k64_open {w : World} {x : S64} {cs : List Value} (h : k64.K w x cs) : cs = [.int .i64 x.f0, .int .i64 x.f1] := by
  obtain ⟨_, _, rfl, rfl, rfl⟩ := h
  exact rfl
theorem k64_mkM (w : World) (base : Nat) (ok : Nat → Prop) (x : S64)  : k64.M w base ok x [.int .i64 x.f0, .int .i64 x.f1] := ⟨[.int .i64 x.f0], [.int .i64 x.f1], rfl, rfl, rfl⟩
def rd_T64 (xs : List S64) (i : Int) : S64 := xs.getD i.toNat z64
theorem at_T64 {w : World} {A : Option Addr} {n : Nat} {xs : List S64} (h : Kd.C k64 w A n xs) (i : Int) (h0 : 0 ≤ i) (h1 : i < n) : ∃ ad , A = some ad ∧ w.cell? (ad.add (i.toNat * 2)) = some (.int .i64 (rd_T64 xs i).f0) ∧ w.cell? ⟨(ad.add (i.toNat * 2)).block, (ad.add (i.toNat * 2)).off + 1, none⟩ = some (.int .i64 (rd_T64 xs i).f1) := by
  obtain ⟨ad, c, e, _, hK, hc0⟩ := Kd.C_get h z64 i h0 h1
  have hc : ∀ j u, c[j]? = some u → w.cell? (ad.add (i.toNat * 2 + j)) = some u := hc0
  obtain rfl := k64_open hK
  exact ⟨ad, e, hc 0 _ rfl, by rw [← add_field _ _ 1 (by omega)]; exact hc 1 _ rfl⟩

/-! #### struct type 28 -/
structure S28 where
  f0 : Int
  f1 : (List Int)
  f2 : (List Int)
  f3 : (List Bool)
def z28 : S28 := ⟨(0 : Int), ([] : List Int), ([] : List Int), ([] : List Bool)⟩
/-- A kind of which more is told: something of an element's cells. -/
def Kd.strong {α : Type} (d : Kd α) (P : List Value → Prop) : Kd α where
  sz := d.sz
  E := d.E
  K := d.K
  M := fun w base ok x cs => d.M w base ok x cs ∧ P cs
  K_len := d.K_len
  K_one := d.K_one
  K_below := d.K_below
  K_of_M := fun h => d.K_of_M h.1
  M_mono := fun ho h => ⟨d.M_mono ho h.1, h.2⟩
  M_bound := fun h => ⟨d.M_bound h.1, h.2⟩
  M_move := fun hm h => ⟨d.M_move hm h.1, h.2⟩
  M_lower := fun hb h => ⟨d.M_lower hb h.1, h.2⟩
def sepCells (cs : List Value) : Prop := ∀ v1 v2, cs[1]? = some v1 → cs[2]? = some v2 → ∀ k, v1.ownBlock = some k → v2.ownBlock ≠ some k
def k28 : Kd S28 := Kd.strong (Kd.iso (Kd.pair (Kd.int .i64) (Kd.pair (Kd.slice 3 (Kd.int .i64)) (Kd.pair (Kd.slice 3 (Kd.int .i64)) (Kd.slice 4 Kd.bool)))) (fun x : S28 => (x.f0, x.f1, x.f2, x.f3))) sepCells
theorem k28_open {w : World} {x : S28} {cs : List Value} (h : k28.K w x cs) : ∃ A1 c1 A2 c2 A3 c3, cs = [.int .i64 x.f0, .slice A1 x.f1.length c1, .slice A2 x.f2.length c2, .slice A3 x.f3.length c3] ∧ x.f1.length ≤ c1 ∧ (Kd.int .i64).C w A1 x.f1.length x.f1 ∧ x.f2.length ≤ c2 ∧ (Kd.int .i64).C w A2 x.f2.length x.f2 ∧ x.f3.length ≤ c3 ∧ Kd.bool.C w A3 x.f3.length x.f3 := by
  obtain ⟨_, _, rfl, rfl, ⟨_, _, rfl, ⟨A1, c1, rfl, l1, g1⟩, ⟨_, _, rfl, ⟨A2, c2, rfl, l2, g2⟩, ⟨A3, c3, rfl, l3, g3⟩⟩⟩⟩ := h
  exact ⟨A1, c1, A2, c2, A3, c3, rfl, l1, g1, l2, g2, l3, g3⟩
theorem k28_openM {w : World} {base : Nat} {ok : Nat → Prop} {x : S28} {cs : List Value} (h : k28.M w base ok x cs) : ∃ v1 v2 v3, cs = [.int .i64 x.f0, v1, v2, v3] ∧ (Kd.int .i64).R 3 w base (fun k_ => ok k_ ∧ some k_ ≠ (v2 : Value).ownBlock) v1 x.f1 ∧ (Kd.int .i64).R 3 w base (fun k_ => ok k_ ∧ some k_ ≠ (v1 : Value).ownBlock) v2 x.f2 ∧ Kd.bool.R 4 w base ok v3 x.f3 := by
  obtain ⟨⟨_, _, rfl, rfl, ⟨_, _, rfl, ⟨v1, rfl, g1⟩, ⟨_, _, rfl, ⟨v2, rfl, g2⟩, ⟨v3, rfl, g3⟩⟩⟩⟩, hs_⟩ := h
  have hs_ := hs_ _ _ rfl rfl
  exact ⟨v1, v2, v3, rfl, Kd.R_mono (Kd.R_tight rfl (Kd.R_mono g1 (fun _ h => h))) (fun k_ h => ⟨g1.1 k_ h.symm, fun e => hs_ k_ h.symm e.symm⟩), Kd.R_mono (Kd.R_tight rfl (Kd.R_mono g2 (fun _ h => h))) (fun k_ h => ⟨g2.1 k_ h.symm, fun e => hs_ k_ e.symm h.symm⟩), g3⟩
theorem k28_mkM (w : World) (base : Nat) (ok : Nat → Prop) (x : S28) {v1 : Value} (g1 : (Kd.int .i64).R 3 w base ok v1 x.f1) {v2 : Value} (g2 : (Kd.int .i64).R 3 w base ok v2 x.f2) {v3 : Value} (g3 : Kd.bool.R 4 w base ok v3 x.f3) (ha_ : ∀ k_, v1.ownBlock = some k_ → v2.ownBlock ≠ some k_) : k28.M w base ok x [.int .i64 x.f0, v1, v2, v3] := ⟨⟨[.int .i64 x.f0], [v1, v2, v3], rfl, rfl, ⟨[v1], [v2, v3], rfl, ⟨v1, rfl, g1⟩, ⟨[v2], [v3], rfl, ⟨v2, rfl, g2⟩, ⟨v3, rfl, g3⟩⟩⟩⟩, fun w1_ w2_ e1_ e2_ => by obtain rfl := Option.some.inj e1_; obtain rfl := Option.some.inj e2_; exact ha_⟩
/-! #### struct type 48 -/
structure S48 where
  f0 : ByteArray
  f1 : S28
def z48 : S48 := ⟨(⟨#[]⟩ : ByteArray), z28⟩
def k48 : Kd S48 := Kd.iso (Kd.pair Kd.string k28) (fun x : S48 => (x.f0, x.f1))
theorem k48_open {w : World} {x : S48} {cs : List Value} (h : k48.K w x cs) : ∃ A2 c2 A3 c3 A4 c4, cs = [.string x.f0, .int .i64 x.f1.f0, .slice A2 x.f1.f1.length c2, .slice A3 x.f1.f2.length c3, .slice A4 x.f1.f3.length c4] ∧ x.f1.f1.length ≤ c2 ∧ (Kd.int .i64).C w A2 x.f1.f1.length x.f1.f1 ∧ x.f1.f2.length ≤ c3 ∧ (Kd.int .i64).C w A3 x.f1.f2.length x.f1.f2 ∧ x.f1.f3.length ≤ c4 ∧ Kd.bool.C w A4 x.f1.f3.length x.f1.f3 := by
  obtain ⟨_, _, rfl, rfl, s1⟩ := h
  obtain ⟨A2, c2, A3, c3, A4, c4, rfl, l2, g2, l3, g3, l4, g4⟩ := k28_open s1
  exact ⟨A2, c2, A3, c3, A4, c4, rfl, l2, g2, l3, g3, l4, g4⟩
theorem k48_openM {w : World} {base : Nat} {ok : Nat → Prop} {x : S48} {cs : List Value} (h : k48.M w base ok x cs) : ∃ v2 v3 v4, cs = [.string x.f0, .int .i64 x.f1.f0, v2, v3, v4] ∧ (Kd.int .i64).R 3 w base (fun k_ => ok k_ ∧ some k_ ≠ (v3 : Value).ownBlock) v2 x.f1.f1 ∧ (Kd.int .i64).R 3 w base (fun k_ => ok k_ ∧ some k_ ≠ (v2 : Value).ownBlock) v3 x.f1.f2 ∧ Kd.bool.R 4 w base ok v4 x.f1.f3 := by
  obtain ⟨_, _, rfl, rfl, s1⟩ := h
  obtain ⟨v2, v3, v4, rfl, g2, g3, g4⟩ := k28_openM s1
  exact ⟨v2, v3, v4, rfl, g2, g3, g4⟩
theorem k48_mkM (w : World) (base : Nat) (ok : Nat → Prop) (x : S48) {v2 : Value} (g2 : (Kd.int .i64).R 3 w base ok v2 x.f1.f1) {v3 : Value} (g3 : (Kd.int .i64).R 3 w base ok v3 x.f1.f2) {v4 : Value} (g4 : Kd.bool.R 4 w base ok v4 x.f1.f3) (ha_ : ∀ k_, v2.ownBlock = some k_ → v3.ownBlock ≠ some k_) : k48.M w base ok x [.string x.f0, .int .i64 x.f1.f0, v2, v3, v4] := ⟨[.string x.f0], [.int .i64 x.f1.f0, v2, v3, v4], rfl, rfl, (k28_mkM w base ok x.f1 g2 g3 g4 ha_)⟩
def rd_T48 (xs : List S48) (i : Int) : S48 := xs.getD i.toNat z48
theorem at_T48 {w : World} {A : Option Addr} {n : Nat} {xs : List S48} (h : Kd.C k48 w A n xs) (i : Int) (h0 : 0 ≤ i) (h1 : i < n) : ∃ ad A2 c2 A3 c3 A4 c4, A = some ad ∧ w.cell? (ad.add (i.toNat * 5)) = some (.string (rd_T48 xs i).f0) ∧ w.cell? ⟨(ad.add (i.toNat * 5)).block, (ad.add (i.toNat * 5)).off + 1, none⟩ = some (.int .i64 (rd_T48 xs i).f1.f0) ∧ w.cell? ⟨(ad.add (i.toNat * 5)).block, (ad.add (i.toNat * 5)).off + 2, none⟩ = some (.slice A2 (rd_T48 xs i).f1.f1.length c2) ∧ w.cell? ⟨(ad.add (i.toNat * 5)).block, (ad.add (i.toNat * 5)).off + 3, none⟩ = some (.slice A3 (rd_T48 xs i).f1.f2.length c3) ∧ w.cell? ⟨(ad.add (i.toNat * 5)).block, (ad.add (i.toNat * 5)).off + 4, none⟩ = some (.slice A4 (rd_T48 xs i).f1.f3.length c4) ∧ (rd_T48 xs i).f1.f1.length ≤ c2 ∧ (Kd.int .i64).C w A2 (rd_T48 xs i).f1.f1.length (rd_T48 xs i).f1.f1 ∧ (rd_T48 xs i).f1.f2.length ≤ c3 ∧ (Kd.int .i64).C w A3 (rd_T48 xs i).f1.f2.length (rd_T48 xs i).f1.f2 ∧ (rd_T48 xs i).f1.f3.length ≤ c4 ∧ Kd.bool.C w A4 (rd_T48 xs i).f1.f3.length (rd_T48 xs i).f1.f3 := by
  obtain ⟨ad, c, e, _, hK, hc0⟩ := Kd.C_get h z48 i h0 h1
  have hc : ∀ j u, c[j]? = some u → w.cell? (ad.add (i.toNat * 5 + j)) = some u := hc0
  obtain ⟨A2, c2, A3, c3, A4, c4, rfl, l2, g2, l3, g3, l4, g4⟩ := k48_open hK
  exact ⟨ad, A2, c2, A3, c3, A4, c4, e, hc 0 _ rfl, by rw [← add_field _ _ 1 (by omega)]; exact hc 1 _ rfl, by rw [← add_field _ _ 2 (by omega)]; exact hc 2 _ rfl, by rw [← add_field _ _ 3 (by omega)]; exact hc 3 _ rfl, by rw [← add_field _ _ 4 (by omega)]; exact hc 4 _ rfl, l2, g2, l3, g3, l4, g4⟩

/-! A region that draws its order, whose operations read and whose calls make: one walk, in the text's order, over all worlds that lie behind the one at its head. -/
section
variable {P : Program} {ops : Array Oper} {C : World → Prop} {Q : Act → Prop} {o : Oper} {rest : List Oper} {a : Act}
structure QW (P : Program) (ops : Array Oper) (C : World → Prop) (Q : Act → Prop) (l : List Oper) (a : Act) : Prop where
  out : wpQuiet P ops C Q l a
theorem qb_region {id : Nat} {l : List Oper} {Q : Exit → Act → World → Prop} {w : World} (hm : P.follows .mixedOrders = true) (hB : Region.lexB .any l.toArray = true)
    (h : QW P l.toArray (fun w' => Below w.heap.size w w') (fun a' => ∀ w', Below w.heap.size w w' → Q .normal a' w') l a) : (Code.region id l.toArray true).wp P Q a w :=
  wp_region_quiet hm hB (show Below w.heap.size w w.drew from below_drew (Below.refl _ _)) h.out
theorem qb_nil (h : Q a) : QW P ops C Q [] a := ⟨wpQuiet_nil h⟩
theorem qb_skip (a' : Act) (hw : Region.wanted o (yielded ops a.tmps) = false) (ha : a.put o.dst undef = a') (h : QW P ops C Q rest a') : QW P ops C Q (o :: rest) a := by
  replace h := h.out
  refine ⟨?_⟩
  subst ha
  simp only [wpQuiet, hw]
  exact h
theorem qb_val (v : Value) (a' : Act) (hw : Region.wanted o (yielded ops a.tmps) = true) (hr : ∀ w', C w' → (execOp a.eval o).run P w' = .ok (.value v) w') (ha : a.put o.dst v = a') (h : QW P ops C Q rest a') : QW P ops C Q (o :: rest) a := by
  replace h := h.out
  refine ⟨?_⟩
  subst ha
  simp only [wpQuiet, hw, if_true]
  refine ⟨v, fun w' hc => ?_, h⟩
  unfold Oper.quietAt
  rw [hr w' hc]
  exact ⟨rfl, rfl⟩
theorem qb_callN (N : Tmp) (_ : o.dst = some N) (h : QW P ops C Q (o :: rest) a) : QW P ops C Q (o :: rest) a := h
theorem qb_callA (N : Tmp) (hd : o.dst = some N) {f : FuncId} {fn : Func} {us : Array Operand} {ts : Array TypeId} (hf : P.funcs[f]? = some fn) (hname : (fn.name == "runtime.NumGoroutine") = false) (hb : fn.body.isSome = true) {args : Array Value}
    (hop : o.op = .call { callee := .value (.func f), args := us, argTypes := ts }) (v : Value) (a' : Act) (hw : Region.wanted o (yielded ops a.tmps) = true) (hc : ∀ w', C w' → Calls P f args w' fun e w'' => e = .returned v ∧ C w'') (hargs : us.map a.eval = args) (ha : a.put (some N) v = a') (h : QW P ops C Q rest a') : QW P ops C Q (o :: rest) a := by
  replace h := h.out
  refine ⟨?_⟩
  subst ha
  simp only [wpQuiet, hw, if_true]
  refine ⟨v, fun w' hcw => ?_, by rw [hd]; exact h⟩
  unfold Oper.quietAt
  have he := enters_ hf hname hb args w'
  have hrun : (execOp a.eval o).run P w' = .ok (.enter f args) w' := by
    unfold execOp
    simp [hop, resolve, Deferred.ofValue, invoke, Act.eval, hargs, he]
  rw [hrun]
  exact ⟨rfl, hc w' hcw⟩
theorem qb_call (N : Tmp) (hd : o.dst = some N) {f : FuncId} {fn : Func} {us : Array Operand} {ts : Array TypeId} (hf : P.funcs[f]? = some fn) (hname : (fn.name == "runtime.NumGoroutine") = false) (hb : fn.body.isSome = true) {args : Array Value}
    (hop : o.op = .call { callee := .value (.func f), args := us, argTypes := ts }) (v : Value) (a' : Act) (hw : Region.wanted o (yielded ops a.tmps) = true) (hc : ∀ w', C w' → Calls P f args w' fun e w'' => e = .returned v ∧ C w'') (hargs : us.toList.map a.eval = args.toList) (ha : a.put (some N) v = a') (h : QW P ops C Q rest a') : QW P ops C Q (o :: rest) a :=
  qb_callA N hd hf hname hb hop v a' hw hc (by rw [← Array.toList_inj, Array.toList_map]; exact hargs) ha h
theorem qb_b {f : FuncId} {args : Array Value} {w0 w : World} {v : Value} (hb : Below w0.heap.size w0 w) (h : Calls P f args w fun e w' => e = .returned v ∧ Below w.heap.size w w') : Calls P f args w fun e w'' => e = .returned v ∧ Below w0.heap.size w0 w'' :=
  h.mono fun _ _ h_ => ⟨h_.1, below_step hb h_.2⟩
theorem qb_d {f : FuncId} {args : Array Value} {w0 w : World} {v : Value} (hb : Below w0.heap.size w0 w) (h : Calls P f args w fun e w' => e = .returned v ∧ Drawn0 w w') : Calls P f args w fun e w'' => e = .returned v ∧ Below w0.heap.size w0 w'' :=
  h.mono fun _ _ h_ => ⟨h_.1, below_step hb h_.2.below⟩
end

def OFn (K : Nat) : Prop := ∃ fn, Tryd.prog.funcs[K]? = some fn ∧ (fn.name == "runtime.NumGoroutine") = false ∧ fn.body.isSome = true
theorem OFn.run {K : Nat} (h : OFn K) (xs : Array Value) (w : World) : Sem.run Tryd.prog (callFunc K xs) w = .ok (.enter K xs) w := by
  obtain ⟨fn, hf, hname, hb⟩ := h
  exact enters_ hf hname hb xs w
theorem goesO_run {oi : Oper} {a : Act} {w : World} {f : Nat} {F C : Array Value} {t : Tmp} {us : Array Operand} {ts : Array TypeId} (hG : OFn f) (args : Array Value)
    (hop : oi.op = .call { callee := .value (.tmp t), args := us, argTypes := ts }) (hargs : us.map a.eval = args) (hv : a.eval (.tmp t) = .func (.func f) F C) :
    (execOp a.eval oi).run Tryd.prog w = .ok (.enter f (F ++ args ++ C)) w := by
  obtain ⟨fn, hf, hname, hb⟩ := hG
  have he := enters_ hf hname hb (F ++ args ++ C) w
  have e1 : a.tmps.getD t undef = .func (.func f) F C := hv
  unfold execOp
  simp only [hop, resolve, Act.eval, e1]
  rw [Array.append_assoc] at he ⊢
  simp [Deferred.ofValue, invoke, hargs, he]
theorem goesO_ {ops : Array Oper} {Q : Exit → Act → World → Prop} {oi : Oper} {N : Option Tmp} {a : Act} {w : World} {K : Act → World → Prop} {f : Nat} {F C : Array Value} {t : Tmp} {us : Array Operand} {ts : Array TypeId} (hG : OFn f) (args : Array Value)
    (hw : Region.wanted oi (yielded ops a.tmps) = true) (hN : oi.dst = N) (hop : oi.op = .call { callee := .value (.tmp t), args := us, argTypes := ts }) (hargs : us.map a.eval = args) (hv : a.eval (.tmp t) = .func (.func f) F C)
    (h : Calls Tryd.prog f (F ++ args ++ C) w fun e w' => ∃ v, e = .returned v ∧ K (a.put N v) w') : if Region.wanted oi (yielded ops a.tmps) = true then Oper.wp Tryd.prog oi a w K Q else K (a.put N undef) w :=
  call_ f _ hw hN (goesO_run hG args hop hargs hv) h
abbrev OC58 (w0 : World) (fx : Int → Int → Option (Int)) (K : Nat) (F C : Array Value) : Prop := ∀ (a0 : Int) (a1 : Int) (r : Int) (w : World) (_ : Below w0.heap.size w0 w) (_ : fx a0 a1 = some r),
    Calls Tryd.prog K (F ++ #[.int .i64 a0, .int .i64 a1] ++ C) w fun e w' => e = .returned (.int .i64 r) ∧ Below w.heap.size w w'
theorem OC58.step {w0 w1 : World} {fx : Int → Int → Option (Int)} {K : Nat} {F C : Array Value} (h : OC58 w0 fx K F C) (hb : Below w0.heap.size w0 w1) : OC58 w1 fx K F C := by
  intro z0 z1 z2 w  hb2 he
  exact h z0 z1 z2 w  (below_step hb hb2) he

abbrev OC65 (w0 : World) (fx : Int → Int → Option (Bool)) (K : Nat) (F C : Array Value) : Prop := ∀ (a0 : Int) (a1 : Int) (r : Bool) (w : World) (_ : Below w0.heap.size w0 w) (_ : fx a0 a1 = some r),
    Calls Tryd.prog K (F ++ #[.int .i64 a0, .int .i64 a1] ++ C) w fun e w' => e = .returned (.bool r) ∧ Below w.heap.size w w'
theorem OC65.step {w0 w1 : World} {fx : Int → Int → Option (Bool)} {K : Nat} {F C : Array Value} (h : OC65 w0 fx K F C) (hb : Below w0.heap.size w0 w1) : OC65 w1 fx K F C := by
  intro z0 z1 z2 w  hb2 he
  exact h z0 z1 z2 w  (below_step hb hb2) he

abbrev OC71 (w0 : World) (fx : Int → Option (Int)) (K : Nat) (F C : Array Value) : Prop := ∀ (a0 : Int) (r : Int) (w : World) (_ : Below w0.heap.size w0 w) (_ : fx a0 = some r),
    Calls Tryd.prog K (F ++ #[.int .i64 a0] ++ C) w fun e w' => e = .returned (.int .i64 r) ∧ Below w.heap.size w w'
theorem OC71.step {w0 w1 : World} {fx : Int → Option (Int)} {K : Nat} {F C : Array Value} (h : OC71 w0 fx K F C) (hb : Below w0.heap.size w0 w1) : OC71 w1 fx K F C := by
  intro z0 z1 w  hb2 he
  exact h z0 z1 w  (below_step hb hb2) he

/-! short words -/
theorem zf1_ {P Q A0_ : Prop} (h : P) (a0_ : A0_) (hs : A0_ → P → Q := by intro a0_ h_; repeat (first | (with_reducible first | exact h_ | refine blk_drewN ?_ _ | refine blk_drew ?_ | refine blk_alloc ?_ _) | refine blk_far ?_ (show _ ≠ _ from a0_) _)) : Q := hs a0_ h
theorem bf2_ {w : World} {g : Nat} {t : TypeId} {v0 v1 : Value} (h : w.heap[g]? = some (.cells #[v0, v1] t (0, 0))) : w.cell? ⟨g, 0, none⟩ = some v0 ∧ w.cell? ⟨g, 1, none⟩ = some v1 ∧ w.frozen? ⟨g, 0, none⟩ = false ∧ w.frozen? ⟨g, 1, none⟩ = false := ⟨(blk_cell h 0).trans rfl, (blk_cell h 1).trans rfl, blk_frozen h 0, blk_frozen h 1⟩
theorem bc4_ {w : World} {g : Nat} {t : TypeId} {v0 v1 v2 v3 : Value} (h : w.heap[g]? = some (.cells #[v0, v1, v2, v3] t (0, 0))) : w.cell? ⟨g, 0, none⟩ = some v0 ∧ w.cell? ⟨g, 1, none⟩ = some v1 ∧ w.cell? ⟨g, 2, none⟩ = some v2 ∧ w.cell? ⟨g, 3, none⟩ = some v3 := ⟨(blk_cell h 0).trans rfl, (blk_cell h 1).trans rfl, (blk_cell h 2).trans rfl, (blk_cell h 3).trans rfl⟩
theorem bf4_ {w : World} {g : Nat} {t : TypeId} {v0 v1 v2 v3 : Value} (h : w.heap[g]? = some (.cells #[v0, v1, v2, v3] t (0, 0))) : w.cell? ⟨g, 0, none⟩ = some v0 ∧ w.cell? ⟨g, 1, none⟩ = some v1 ∧ w.cell? ⟨g, 2, none⟩ = some v2 ∧ w.cell? ⟨g, 3, none⟩ = some v3 ∧ w.frozen? ⟨g, 0, none⟩ = false ∧ w.frozen? ⟨g, 1, none⟩ = false ∧ w.frozen? ⟨g, 2, none⟩ = false ∧ w.frozen? ⟨g, 3, none⟩ = false := ⟨(blk_cell h 0).trans rfl, (blk_cell h 1).trans rfl, (blk_cell h 2).trans rfl, (blk_cell h 3).trans rfl, blk_frozen h 0, blk_frozen h 1, blk_frozen h 2, blk_frozen h 3⟩
theorem bf5_ {w : World} {g : Nat} {t : TypeId} {v0 v1 v2 v3 v4 : Value} (h : w.heap[g]? = some (.cells #[v0, v1, v2, v3, v4] t (0, 0))) : w.cell? ⟨g, 0, none⟩ = some v0 ∧ w.cell? ⟨g, 1, none⟩ = some v1 ∧ w.cell? ⟨g, 2, none⟩ = some v2 ∧ w.cell? ⟨g, 3, none⟩ = some v3 ∧ w.cell? ⟨g, 4, none⟩ = some v4 ∧ w.frozen? ⟨g, 0, none⟩ = false ∧ w.frozen? ⟨g, 1, none⟩ = false ∧ w.frozen? ⟨g, 2, none⟩ = false ∧ w.frozen? ⟨g, 3, none⟩ = false ∧ w.frozen? ⟨g, 4, none⟩ = false := ⟨(blk_cell h 0).trans rfl, (blk_cell h 1).trans rfl, (blk_cell h 2).trans rfl, (blk_cell h 3).trans rfl, (blk_cell h 4).trans rfl, blk_frozen h 0, blk_frozen h 1, blk_frozen h 2, blk_frozen h 3, blk_frozen h 4⟩
theorem rf_ {α : Type} {d : Kd α} {e base g t : Nat} {w w2 : World} {ok : Nat → Prop} {v : Value} {xs : List α} {cells : Array Value} (h : d.R e w base ok v xs) (hb : w.heap[g]? = some (.cells cells t (0, 0))) (ht : ∀ q, q ∈ e :: d.E → q ≠ t := by decide) (hs : d.R e w base (fun k => ok k ∧ k ≠ g) v xs → d.R e w2 base (fun k => ok k ∧ k ≠ g) v xs := by intro h_; repeat (first | with_reducible exact h_ | with_reducible refine Kd.R_far ?_ (fun _ hk => hk.2) _ | refine Kd.R_far ?_ (fun _ hk => hk.2) _ | exact h_)) : d.R e w2 base ok v xs := Kd.R_mono (hs (Kd.R_types h hb ht)) (fun _ h_ => h_.1)
theorem gs_ {w W : World} {g : Nat} (hg : g = W.heap.size) (h : Below w.heap.size w W) : w.heap.size ≤ g := by rw [hg]; exact below_size h
theorem nl_ {a b n : Nat} (hg : b = n) (h : a < n) : a ≠ b := by omega
theorem ng_ {a b n : Nat} (hg : b = n) (h : a < n) : b ≠ a := by omega
theorem bx_ {P : Program} {ops : Array Oper} {rest : List Oper} {o : Oper} {a : Act} {Q : Exit → Act → World → Prop} {W : World} {N : Tmp} {cs : Array Value} {t : TypeId} (h : ∀ g, g = W.heap.size → ∀ w1, w1.heap[g]? = some (.cells cs t (0, 0)) → Below W.heap.size W w1 → wpList P ops Q rest (a.put o.dst (.pointer (some ⟨g, 0, none⟩))) w1) (hgd : o.guard = none := by rfl) (hd : o.dst = some N := by rfl) (hrun : (execOp a.eval o).run P W = .ok (.value (.pointer (some ⟨W.heap.size, 0, none⟩))) (W.alloc (.cells cs t (0, 0))) := by first | (go_simp; done) | (go_simp; rfl)) : wpList P ops Q (o :: rest) a W := box_event hgd hd hrun h
theorem la_ {α : Type} {a b : α} (h : a = b := by (try simp only [List.map_toArray, List.map_cons, List.map_nil]); first | done | rfl | (simp only [List.length_drop, List.length_take]; rfl)) : a = b := h
theorem sm_ {p : Prop} (h : p := by first | rfl | (simp; done) | (simp [*]; done)) : p := h
theorem dt_ {p : Prop} [Decidable p] (h : decide p = true := by first | (with_reducible assumption) | assumption) : p := of_decide_eq_true h
theorem an_ {p : Prop} (h : p := by first | rfl | (simp [errW_none, errW_some] <;> rfl) | (simp [*, errW_none, errW_some] <;> rfl)) : p := h
theorem sd_ {p : Prop} (h : p) : Aside0 p := ⟨h⟩
theorem kp_ {P Q : Prop} (h : P) (hs : P → Q := by intro h_; repeat (first | exact h_ | (with_reducible refine Kd.C_alloc ?_ _) | (with_reducible refine Kd.C_drewN ?_ _) | (with_reducible refine Kd.C_drew ?_))) : Q := hs h
theorem kc_ {α : Type} {d : Kd α} {w w1 w2 : World} {A : Option Addr} {n : Nat} {xs : List α} (h : d.C w A n xs) (hb : Below w.heap.size w w1) (hs : d.C w1 A n xs → d.C w2 A n xs := by intro h_; repeat (first | exact h_ | (with_reducible refine Kd.C_alloc ?_ _) | (with_reducible refine Kd.C_drewN ?_ _) | (with_reducible refine Kd.C_drew ?_))) : d.C w2 A n xs := hs (Kd.C_below h hb)
theorem bz_ {w w1 : World} {g : Nat} {o : Obj} (h : w.heap[g]? = some o) (hs : w.heap[g]? = some o → w1.heap[g]? = some o := by intro h_; (with_reducible repeat (first | refine blk_drewN ?_ _ | refine blk_drew ?_ | refine blk_alloc ?_ _)); exact h_) : w1.heap[g]? = some o := hs h
theorem bb_ {w w1 w2 : World} {g : Nat} {o : Obj} (h : w.heap[g]? = some o) (hb : Below w1.heap.size w1 w2) (hs : w.heap[g]? = some o → w1.heap[g]? = some o := by intro h_; (with_reducible repeat (first | refine blk_drewN ?_ _ | refine blk_drew ?_ | refine blk_alloc ?_ _)); exact h_) : w2.heap[g]? = some o := blk_below (hs h) hb
theorem bl_ {w w1 : World} {g : Nat} {o : Obj} (h : w.heap[g]? = some o) (hs : w.heap[g]? = some o → w1.heap[g]? = some o := by intro h_; (with_reducible repeat (first | refine blk_drewN ?_ _ | refine blk_drew ?_ | refine blk_alloc ?_ _)); exact h_) : g < w1.heap.size := blk_lt (hs h)
theorem ro_ {P Q : Prop} (h : P) (hs : P → Q := by intro h_; (with_reducible repeat (first | apply Kd.R_alloc | apply Kd.R_drewN | apply Kd.R_drew)); exact h_) : Q := hs h
theorem bw0_ {w w1 w2 : World} (h : Below w.heap.size w w1)  (hs : Below w.heap.size w w1 → Below w.heap.size w w2 := by intro  h_; repeat (first | (with_reducible first | exact h_ | apply below_alloc | apply pw_below_drewN | apply below_drew1) | exact h_)) : Below w.heap.size w w2 := hs  h
theorem bw1_ {w w1 w2 : World} {b0_ : Nat} (h : Below w.heap.size w w1) (g0_ : w.heap.size ≤ b0_) (hs : w.heap.size ≤ b0_ → Below w.heap.size w w1 → Below w.heap.size w w2 := by intro g0_ h_; repeat (first | (with_reducible first | exact h_ | apply below_alloc | apply pw_below_drewN | apply below_drew1 | refine below_set ?_ g0_) | exact h_)) : Below w.heap.size w w2 := hs g0_ h
theorem bw2_ {w w1 w2 : World} {b0_ b1_ : Nat} (h : Below w.heap.size w w1) (g0_ : w.heap.size ≤ b0_) (g1_ : w.heap.size ≤ b1_) (hs : w.heap.size ≤ b0_ → w.heap.size ≤ b1_ → Below w.heap.size w w1 → Below w.heap.size w w2 := by intro g0_ g1_ h_; repeat (first | (with_reducible first | exact h_ | apply below_alloc | apply pw_below_drewN | apply below_drew1 | refine below_set ?_ g0_ | refine below_set ?_ g1_) | exact h_)) : Below w.heap.size w w2 := hs g0_ g1_ h
theorem bw3_ {w w1 w2 : World} {b0_ b1_ b2_ : Nat} (h : Below w.heap.size w w1) (g0_ : w.heap.size ≤ b0_) (g1_ : w.heap.size ≤ b1_) (g2_ : w.heap.size ≤ b2_) (hs : w.heap.size ≤ b0_ → w.heap.size ≤ b1_ → w.heap.size ≤ b2_ → Below w.heap.size w w1 → Below w.heap.size w w2 := by intro g0_ g1_ g2_ h_; repeat (first | (with_reducible first | exact h_ | apply below_alloc | apply pw_below_drewN | apply below_drew1 | refine below_set ?_ g0_ | refine below_set ?_ g1_ | refine below_set ?_ g2_) | exact h_)) : Below w.heap.size w w2 := hs g0_ g1_ g2_ h
theorem bw4_ {w w1 w2 : World} {b0_ b1_ b2_ b3_ : Nat} (h : Below w.heap.size w w1) (g0_ : w.heap.size ≤ b0_) (g1_ : w.heap.size ≤ b1_) (g2_ : w.heap.size ≤ b2_) (g3_ : w.heap.size ≤ b3_) (hs : w.heap.size ≤ b0_ → w.heap.size ≤ b1_ → w.heap.size ≤ b2_ → w.heap.size ≤ b3_ → Below w.heap.size w w1 → Below w.heap.size w w2 := by intro g0_ g1_ g2_ g3_ h_; repeat (first | (with_reducible first | exact h_ | apply below_alloc | apply pw_below_drewN | apply below_drew1 | refine below_set ?_ g0_ | refine below_set ?_ g1_ | refine below_set ?_ g2_ | refine below_set ?_ g3_) | exact h_)) : Below w.heap.size w w2 := hs g0_ g1_ g2_ g3_ h
theorem bw5_ {w w1 w2 : World} {b0_ b1_ b2_ b3_ b4_ : Nat} (h : Below w.heap.size w w1) (g0_ : w.heap.size ≤ b0_) (g1_ : w.heap.size ≤ b1_) (g2_ : w.heap.size ≤ b2_) (g3_ : w.heap.size ≤ b3_) (g4_ : w.heap.size ≤ b4_) (hs : w.heap.size ≤ b0_ → w.heap.size ≤ b1_ → w.heap.size ≤ b2_ → w.heap.size ≤ b3_ → w.heap.size ≤ b4_ → Below w.heap.size w w1 → Below w.heap.size w w2 := by intro g0_ g1_ g2_ g3_ g4_ h_; repeat (first | (with_reducible first | exact h_ | apply below_alloc | apply pw_below_drewN | apply below_drew1 | refine below_set ?_ g0_ | refine below_set ?_ g1_ | refine below_set ?_ g2_ | refine below_set ?_ g3_ | refine below_set ?_ g4_) | exact h_)) : Below w.heap.size w w2 := hs g0_ g1_ g2_ g3_ g4_ h
/-! shorter words -/
section
variable {c : Prop} {d : Decidable c} {α β : Type} {A B : Option α} {r : α} {G : Prop}
theorem ih_ (k : decide c = true → A = some r → G) : (if c then A else none) = some r → G := by
  intro h
  by_cases hc : c
  · exact k (decide_eq_true hc) (by rw [if_pos hc] at h; exact h)
  · rw [if_neg hc] at h; exact absurd h (by simp)
theorem ip_ (k : c → A = some r → G) : (if c then A else none) = some r → G := ih_ fun a => k (of_decide_eq_true a)
theorem il_ (k : Aside0 c → A = some r → G) : (if c then A else none) = some r → G := ip_ fun a => k ⟨a⟩
theorem ic_ (k : decide c = true → A = some r → G) (l : decide c = false → B = some r → G) : (if c then A else B) = some r → G := by
  intro h
  by_cases hc : c
  · exact k (decide_eq_true hc) (by rw [if_pos hc] at h; exact h)
  · exact l (decide_eq_false hc) (by rw [if_neg hc] at h; exact h)
theorem it_ {d : Decidable (true = true)} (h : (if true = true then A else B) = some r) : A = some r := by rw [if_pos rfl] at h; exact h
theorem if_ {d : Decidable (false = true)} (h : (if false = true then A else B) = some r) : B = some r := by rw [if_neg Bool.false_ne_true] at h; exact h
theorem bt_ (b : Bool) : b = true ∨ b = false := by cases b <;> simp
theorem ob_ {o : Option β} {f : β → Option α} (k : ∀ t, Aside0 (o = some t) → f t = some r → G) : o.bind f = some r → G := by
  intro h
  obtain ⟨t, h1, h2⟩ := Option.bind_eq_some_iff.mp h
  exact k t ⟨h1⟩ h2
theorem oc_ {o : Option β} {f : β → Option α} (h : o.bind f = some r) : ∃ t, Aside0 (o = some t) ∧ f t = some r := by
  obtain ⟨t, h1, h2⟩ := Option.bind_eq_some_iff.mp h
  exact ⟨t, ⟨h1⟩, h2⟩
theorem oy_ {a : β} {f : β → Option α} (k : ∀ y, Aside0 (y = a) → f y = some r → G) : (some a).bind f = some r → G := fun h => k a ⟨rfl⟩ h
end
theorem ab_ {w W : World} {A : Option Addr} {n : Nat} {xs : List Bool} (h : Kd.bool.C w A n xs) (hb : Below w.heap.size w W) (i : Int) (hp : decide (0 ≤ i) = true := by assumption) (hq : decide (i < n) = true := by assumption) : ∃ ad, A = some ad ∧ W.cell? (ad.add i.toNat) = some (.bool (rdOf false xs i)) ∧ (0 ≤ i) = True ∧ (i < n) = True := by
  obtain ⟨ad, e, hx⟩ := Kd.at_bool h i (of_decide_eq_true hp) (of_decide_eq_true hq)
  exact ⟨ad, e, (hb.cell (World.block_lt_of_cell? w _ hx)).trans hx, eq_true (of_decide_eq_true hp), eq_true (of_decide_eq_true hq)⟩
theorem ai_ {k : IntKind} {w W : World} {A : Option Addr} {n : Nat} {xs : List Int} (h : (Kd.int k).C w A n xs) (hb : Below w.heap.size w W) (i : Int) (hp : decide (0 ≤ i) = true := by assumption) (hq : decide (i < n) = true := by assumption) : ∃ ad, A = some ad ∧ W.cell? (ad.add i.toNat) = some (.int k (rd xs i)) ∧ (0 ≤ i) = True ∧ (i < n) = True := by
  obtain ⟨ad, e, hx⟩ := Kd.at_int h i (of_decide_eq_true hp) (of_decide_eq_true hq)
  exact ⟨ad, e, (hb.cell (World.block_lt_of_cell? w _ hx)).trans hx, eq_true (of_decide_eq_true hp), eq_true (of_decide_eq_true hq)⟩
theorem qx_ {w W : World} {a : Addr} {v : Value} (hb : Below w.heap.size w W) (h : w.cell? a = some v) : W.cell? a = some v := (hb.cell (World.block_lt_of_cell? _ _ h)).trans h
theorem qy_ {α : Type} {d : Kd α} {w W : World} {A : Option Addr} {n : Nat} {xs : List α} (h : Aside0 (d.C w A n xs)) (hb : Below w.heap.size w W) : d.C W A n xs := Kd.C_below h.out hb
theorem bk_ {w : World} {g : Nat} {t : TypeId} {cs : Array Value} {v : Value} (h : Aside0 (w.heap[g]? = some (.cells cs t (0, 0)))) (i : Nat) (e : cs[i]? = some v := by rfl) : w.cell? ⟨g, i, none⟩ = some v := (blk_cell h.out i).trans e
theorem nn_ {p : Prop} (h : p := by first | exact Kd.R_nil _ _ _ _ _ | exact Kd.N_nil _ _ _ _ _ | exact Kd.V_nil _ _ _ _ _ | exact Kd.Q_nil _ _ _ _ _ | exact Kd.S_nil _ _ _ _ _) : p := h
section
variable {P : Program} {md : Region.Mode} {ops : Array Oper} {Q : Exit → Act → World → Prop} {S : World → Prop} {ds : List Nat} {N : Tmp} {oi : Oper} {v : Value} {fuel : Nat} {l : Array Bool} {a a' : Act} {w : World}
theorem pv_ (i : Nat) (hi : ops[i]? = some oi) (hN : oi.dst = some N) (hc : anyB md ops l (l.setIfInBounds i true) i = true) (h : wpAnyLast P md ops Q S ds fuel (l.setIfInBounds i true) a' w)
    (hw : Region.wanted oi (yielded ops a.tmps) = true := by rfl) (hy : ∀ w', (execOp a.eval oi).run P w' = .ok (.value v) w' := by intro w'; go_simp; with_reducible rfl) (ha : a.put (some N) v = a' := by simp only [Act.put, List.setIfInBounds_toArray, List.set_cons_zero, List.set_cons_succ, i64_w, i32_w]; rfl) (hQ : ∀ c a w, Q (.panic c) (a.put oi.dst v) w → Q (.panic c) a w := by exact fun _ _ _ h => h) : wpAnyLast P md ops Q S ds (fuel + 1) l a w :=
  pure_ _ hi hN hc hQ (Or.inl ⟨hw, hy⟩) ha h
theorem pu_ (i : Nat) (hi : ops[i]? = some oi) (hN : oi.dst = some N) (hc : anyB md ops l (l.setIfInBounds i true) i = true) (h : wpAnyLast P md ops Q S ds fuel (l.setIfInBounds i true) a' w)
    (hw : Region.wanted oi (yielded ops a.tmps) = false := by rfl) (ha : a.put (some N) undef = a' := by simp only [Act.put, List.setIfInBounds_toArray, List.set_cons_zero, List.set_cons_succ, i64_w, i32_w]; rfl) (hQ : ∀ c a w, Q (.panic c) (a.put oi.dst undef) w → Q (.panic c) a w := by exact fun _ _ _ h => h) : wpAnyLast P md ops Q S ds (fuel + 1) l a w :=
  pure_ _ hi hN hc hQ (Or.inr ⟨hw, rfl⟩) ha h
theorem tk_ (i : Nat) (hi : ops[i]? = some oi) (hN : oi.dst = some N) (hc : takeB md ops ds l (l.setIfInBounds i true) i = true) (hS : S w) (hy : ∀ w', S w' → (execOp a.eval oi).run P w' = .ok (.value v) w') (h : wpAnyLast P md ops Q S ds fuel (l.setIfInBounds i true) a' w)
    (hw : Region.wanted oi (yielded ops a.tmps) = true := by rfl) (ha : a.put (some N) v = a' := by simp only [Act.put, List.setIfInBounds_toArray, List.set_cons_zero, List.set_cons_succ, i64_w, i32_w]; rfl) (hQ : ∀ c a w, Q (.panic c) (a.put oi.dst v) w → Q (.panic c) a w := by exact fun _ _ _ h => h) : wpAnyLast P md ops Q S ds (fuel + 1) l a w :=
  take_ _ hi hN hc hQ (Or.inl ⟨hw, hy⟩) hS ha h
theorem on_ (i : Nat) {N : Option Tmp} (hi : ops[i]? = some oi) (hN : oi.dst = N) (hc : readyB md ops l (l.setIfInBounds i true) i = true)
    (h : ∀ K : Act → World → Prop, Shut (∀ a' w', S w' → (S w' → wpAnyLast P md ops Q S ds fuel (l.setIfInBounds i true) a' w') → K a' w') → if Region.wanted oi (yielded ops a.tmps) = true then Oper.wp P oi a w K Q else K (a.put N undef) w) (hd : i ∉ ds := by decide) : wpAnyLast P md ops Q S ds (fuel + 1) l a w :=
  one_ _ hi hN hc hd h
theorem nm_ (h : wpAnyLast P md ops Q S ds fuel l a' w) (ha : a = a' := by show Act.put _ (some _) _ = _; simp only [Act.put, List.setIfInBounds_toArray, List.set_cons_zero, List.set_cons_succ, i64_w, i32_w]; rfl) : wpAnyLast P md ops Q S ds fuel l a w := norm_ ha h
end
def c4_ (g : Nat) (a b c d : Value) (w : World) : Prop := w.cell? ⟨g, 0, none⟩ = some a ∧ w.cell? ⟨g, 1, none⟩ = some b ∧ w.cell? ⟨g, 2, none⟩ = some c ∧ w.cell? ⟨g, 3, none⟩ = some d

end Go.Proofs.YtmcepfimcedocaaDoor.P
