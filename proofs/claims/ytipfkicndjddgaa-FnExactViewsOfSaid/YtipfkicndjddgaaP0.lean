-- Printed by this session's own program (wip/tools/mkprint.py) out of the translation. Not trusted: Lean checks it.
import Derived.Test.YtipfkicndjddgaaProg
import Derived.Below
import Derived.Deep.Draws
import Derived.Deep.AppendLies
import Derived.Maps.AppendAt
import Derived.OwnWalk
import Derived.Laws.BytesArg
import Derived.Laws.MakeOwn
import Derived.Laws.OwnMore
import Derived.Deep.OwnRows
import Derived.Tactics
import Derived.Lib.ConvBytes
import Derived.Laws.Slices
import Derived.WalkKit
import Derived.KernelRfl
import Derived.RowKit3
import Derived.Deep.LoopGhost
import Derived.Deep.QuietTactic
import Derived.BigQuiet
import Derived.WideLaws
import Derived.Deep.DeepCutAuto
import Derived.Deep.CutBlock
import Derived.Deep.RegionHeld3
import Derived.Laws.Rows
import Derived.Lib.AppendStr
import Derived.ArgAppend
import Derived.Laws.IdiomCopy
import Derived.OrdersHeld
import Derived.Laws.BitsLemmas
import Derived.RowKit
import Derived.Test.YtipfkicndjddgaaV
namespace Go.Proofs.Ytipfkicndjddgaa.P
open Go.RowKit Go.Proofs.YtipfkicndjddgaaW.PrintWords Go.Proofs.YtipfkicndjddgaaW.PrintLast Go.Proofs.YtipfkicndjddgaaW.PrintMore
attribute [local go_sem] max2_int min2_int max_two min_two max_three min_three max_four min_four   -- for this text's walks alone
set_option linter.unusedVariables false
set_option linter.unusedSimpArgs false



def errW : Option Int → Value
  | none => .nilIface
  | some c => .iface 0 (.int .i64 c)
theorem errW_none : errW none = .nilIface := rfl
theorem errW_some (c : Int) : errW (some c) = .iface 0 (.int .i64 c) := rfl

theorem info3 : (Try.prog.info? 3).map (fun i => (i.zero, i.size, i.bytes)) = some (some (.int .i64 0), 1, 8) := by kernel_rfl
theorem info4 : (Try.prog.info? 4).map (fun i => (i.zero, i.size, i.bytes)) = some (some (.bool false), 1, 1) := by kernel_rfl
theorem info22 : (Try.prog.info? 22).map (fun i => (i.zero, i.size, i.bytes)) = some (some (.slice none 0 0), 1, 24) := by kernel_rfl
-- the values' own types
def rd_L2 (xs : List (List Int)) (i : Int) : (List Int) := xs.getD i.toNat ([] : List Int)
theorem at_L2 {w : World} {A : Option Addr} {n : Nat} {xs : List (List Int)} (h : Kd.C (Kd.slice 3 (Kd.int .i64)) w A n xs) (i : Int) (h0 : 0 ≤ i) (h1 : i < n) : ∃ ad A0 c0, A = some ad ∧ w.cell? (ad.add i.toNat) = some (.slice A0 (rd_L2 xs i).length c0) ∧ (rd_L2 xs i).length ≤ c0 ∧ (Kd.int .i64).C w A0 (rd_L2 xs i).length (rd_L2 xs i) := by
  obtain ⟨ad, c, e, _, hK, hc0⟩ := Kd.C_get h ([] : List Int) i h0 h1
  have hc : ∀ j u, c[j]? = some u → w.cell? (ad.add (i.toNat * 1 + j)) = some u := hc0
  obtain ⟨A0, c0, rfl, l0, g0⟩ := hK
  exact ⟨ad, A0, c0, e, by have hq := hc 0 _ rfl; rwa [Nat.mul_one, Nat.add_zero] at hq, l0, g0⟩

def rd_L3 (xs : List (List Bool)) (i : Int) : (List Bool) := xs.getD i.toNat ([] : List Bool)
theorem at_L3 {w : World} {A : Option Addr} {n : Nat} {xs : List (List Bool)} (h : Kd.C (Kd.slice 4 Kd.bool) w A n xs) (i : Int) (h0 : 0 ≤ i) (h1 : i < n) : ∃ ad A0 c0, A = some ad ∧ w.cell? (ad.add i.toNat) = some (.slice A0 (rd_L3 xs i).length c0) ∧ (rd_L3 xs i).length ≤ c0 ∧ Kd.bool.C w A0 (rd_L3 xs i).length (rd_L3 xs i) := by
  obtain ⟨ad, c, e, _, hK, hc0⟩ := Kd.C_get h ([] : List Bool) i h0 h1
  have hc : ∀ j u, c[j]? = some u → w.cell? (ad.add (i.toNat * 1 + j)) = some u := hc0
  obtain ⟨A0, c0, rfl, l0, g0⟩ := hK
  exact ⟨ad, A0, c0, e, by have hq := hc 0 _ rfl; rwa [Nat.mul_one, Nat.add_zero] at hq, l0, g0⟩

/-! #### struct type 27 -/
structure S27 where
  f0 : Int
  f1 : (List Int)
  f2 : (List Int)
  f3 : (List Bool)
def z27 : S27 := ⟨(0 : Int), ([] : List Int), ([] : List Int), ([] : List Bool)⟩
def k27 : Kd S27 := Kd.iso (Kd.pair (Kd.int .i64) (Kd.pair (Kd.slice 3 (Kd.int .i64)) (Kd.pair (Kd.slice 3 (Kd.int .i64)) (Kd.slice 4 Kd.bool)))) (fun x : S27 => (x.f0, x.f1, x.f2, x.f3))
theorem k27_open {w : World} {x : S27} {cs : List Value} (h : k27.K w x cs) : ∃ A1 c1 A2 c2 A3 c3, cs = [.int .i64 x.f0, .slice A1 x.f1.length c1, .slice A2 x.f2.length c2, .slice A3 x.f3.length c3] ∧ x.f1.length ≤ c1 ∧ (Kd.int .i64).C w A1 x.f1.length x.f1 ∧ x.f2.length ≤ c2 ∧ (Kd.int .i64).C w A2 x.f2.length x.f2 ∧ x.f3.length ≤ c3 ∧ Kd.bool.C w A3 x.f3.length x.f3 := by
  obtain ⟨_, _, rfl, rfl, ⟨_, _, rfl, ⟨A1, c1, rfl, l1, g1⟩, ⟨_, _, rfl, ⟨A2, c2, rfl, l2, g2⟩, ⟨A3, c3, rfl, l3, g3⟩⟩⟩⟩ := h
  exact ⟨A1, c1, A2, c2, A3, c3, rfl, l1, g1, l2, g2, l3, g3⟩
theorem k27_openM {w : World} {base : Nat} {ok : Nat → Prop} {x : S27} {cs : List Value} (h : k27.M w base ok x cs) : ∃ v1 v2 v3, cs = [.int .i64 x.f0, v1, v2, v3] ∧ (Kd.int .i64).R 3 w base ok v1 x.f1 ∧ (Kd.int .i64).R 3 w base ok v2 x.f2 ∧ Kd.bool.R 4 w base ok v3 x.f3 := by
  obtain ⟨_, _, rfl, rfl, ⟨_, _, rfl, ⟨v1, rfl, g1⟩, ⟨_, _, rfl, ⟨v2, rfl, g2⟩, ⟨v3, rfl, g3⟩⟩⟩⟩ := h
  exact ⟨v1, v2, v3, rfl, g1, g2, g3⟩
theorem k27_mk (w : World) (x : S27) {A1 : Option Addr} {c1 : Nat} (l1 : x.f1.length ≤ c1) (g1 : (Kd.int .i64).C w A1 x.f1.length x.f1) {A2 : Option Addr} {c2 : Nat} (l2 : x.f2.length ≤ c2) (g2 : (Kd.int .i64).C w A2 x.f2.length x.f2) {A3 : Option Addr} {c3 : Nat} (l3 : x.f3.length ≤ c3) (g3 : Kd.bool.C w A3 x.f3.length x.f3) : k27.K w x [.int .i64 x.f0, .slice A1 x.f1.length c1, .slice A2 x.f2.length c2, .slice A3 x.f3.length c3] := ⟨[.int .i64 x.f0], [.slice A1 x.f1.length c1, .slice A2 x.f2.length c2, .slice A3 x.f3.length c3], rfl, rfl, ⟨[.slice A1 x.f1.length c1], [.slice A2 x.f2.length c2, .slice A3 x.f3.length c3], rfl, ⟨A1, c1, rfl, l1, g1⟩, ⟨[.slice A2 x.f2.length c2], [.slice A3 x.f3.length c3], rfl, ⟨A2, c2, rfl, l2, g2⟩, ⟨A3, c3, rfl, l3, g3⟩⟩⟩⟩
theorem k27_mkM (w : World) (base : Nat) (ok : Nat → Prop) (x : S27) {v1 : Value} (g1 : (Kd.int .i64).R 3 w base ok v1 x.f1) {v2 : Value} (g2 : (Kd.int .i64).R 3 w base ok v2 x.f2) {v3 : Value} (g3 : Kd.bool.R 4 w base ok v3 x.f3) : k27.M w base ok x [.int .i64 x.f0, v1, v2, v3] := ⟨[.int .i64 x.f0], [v1, v2, v3], rfl, rfl, ⟨[v1], [v2, v3], rfl, ⟨v1, rfl, g1⟩, ⟨[v2], [v3], rfl, ⟨v2, rfl, g2⟩, ⟨v3, rfl, g3⟩⟩⟩⟩
theorem k27_openF {W : World} {ok : Nat → Prop} {x : S27} {cs : List Value} (h : Kd.FK k27 W ok x cs) : ∃ A1 c1 A2 c2 A3 c3, cs = [.int .i64 x.f0, .slice A1 x.f1.length c1, .slice A2 x.f2.length c2, .slice A3 x.f3.length c3] ∧ x.f1.length ≤ c1 ∧ Kd.F (Kd.int .i64) W ok A1 x.f1.length x.f1 ∧ x.f2.length ≤ c2 ∧ Kd.F (Kd.int .i64) W ok A2 x.f2.length x.f2 ∧ x.f3.length ≤ c3 ∧ Kd.F Kd.bool W ok A3 x.f3.length x.f3 := by
  obtain ⟨A1, c1, A2, c2, A3, c3, rfl, l1, _, l2, _, l3, _⟩ := k27_open (Kd.FK_now h)
  exact ⟨A1, c1, A2, c2, A3, c3, rfl, l1, (fun W' hW => by obtain ⟨A1_, c1_, A2_, c2_, A3_, c3_, he, l1_, g1_, l2_, g2_, l3_, g3_⟩ := k27_open (h W' hW); injection (Option.some.inj (show some (Value.slice A1 x.f1.length c1) = some (Value.slice A1_ x.f1.length c1_) from congrArg (fun l => l[1]?) he)) with ha_ _ _; rw [ha_]; exact g1_), l2, (fun W' hW => by obtain ⟨A1_, c1_, A2_, c2_, A3_, c3_, he, l1_, g1_, l2_, g2_, l3_, g3_⟩ := k27_open (h W' hW); injection (Option.some.inj (show some (Value.slice A2 x.f2.length c2) = some (Value.slice A2_ x.f2.length c2_) from congrArg (fun l => l[2]?) he)) with ha_ _ _; rw [ha_]; exact g2_), l3, (fun W' hW => by obtain ⟨A1_, c1_, A2_, c2_, A3_, c3_, he, l1_, g1_, l2_, g2_, l3_, g3_⟩ := k27_open (h W' hW); injection (Option.some.inj (show some (Value.slice A3 x.f3.length c3) = some (Value.slice A3_ x.f3.length c3_) from congrArg (fun l => l[3]?) he)) with ha_ _ _; rw [ha_]; exact g3_)⟩
theorem k27_mkF (W : World) (ok : Nat → Prop) (x : S27) {A1 : Option Addr} {c1 : Nat} (l1 : x.f1.length ≤ c1) (g1 : Kd.F (Kd.int .i64) W ok A1 x.f1.length x.f1) {A2 : Option Addr} {c2 : Nat} (l2 : x.f2.length ≤ c2) (g2 : Kd.F (Kd.int .i64) W ok A2 x.f2.length x.f2) {A3 : Option Addr} {c3 : Nat} (l3 : x.f3.length ≤ c3) (g3 : Kd.F Kd.bool W ok A3 x.f3.length x.f3) : Kd.FK k27 W ok x [.int .i64 x.f0, .slice A1 x.f1.length c1, .slice A2 x.f2.length c2, .slice A3 x.f3.length c3] := fun W2 hW => k27_mk W2 x l1 (g1 W2 hW) l2 (g2 W2 hW) l3 (g3 W2 hW)
def rd_T27 (xs : List S27) (i : Int) : S27 := xs.getD i.toNat z27
theorem at_T27 {w : World} {A : Option Addr} {n : Nat} {xs : List S27} (h : Kd.C k27 w A n xs) (i : Int) (h0 : 0 ≤ i) (h1 : i < n) : ∃ ad A1 c1 A2 c2 A3 c3, A = some ad ∧ w.cell? (ad.add (i.toNat * 4)) = some (.int .i64 (rd_T27 xs i).f0) ∧ w.cell? ⟨(ad.add (i.toNat * 4)).block, (ad.add (i.toNat * 4)).off + 1, none⟩ = some (.slice A1 (rd_T27 xs i).f1.length c1) ∧ w.cell? ⟨(ad.add (i.toNat * 4)).block, (ad.add (i.toNat * 4)).off + 2, none⟩ = some (.slice A2 (rd_T27 xs i).f2.length c2) ∧ w.cell? ⟨(ad.add (i.toNat * 4)).block, (ad.add (i.toNat * 4)).off + 3, none⟩ = some (.slice A3 (rd_T27 xs i).f3.length c3) ∧ (rd_T27 xs i).f1.length ≤ c1 ∧ (Kd.int .i64).C w A1 (rd_T27 xs i).f1.length (rd_T27 xs i).f1 ∧ (rd_T27 xs i).f2.length ≤ c2 ∧ (Kd.int .i64).C w A2 (rd_T27 xs i).f2.length (rd_T27 xs i).f2 ∧ (rd_T27 xs i).f3.length ≤ c3 ∧ Kd.bool.C w A3 (rd_T27 xs i).f3.length (rd_T27 xs i).f3 := by
  obtain ⟨ad, c, e, _, hK, hc0⟩ := Kd.C_get h z27 i h0 h1
  have hc : ∀ j u, c[j]? = some u → w.cell? (ad.add (i.toNat * 4 + j)) = some u := hc0
  obtain ⟨A1, c1, A2, c2, A3, c3, rfl, l1, g1, l2, g2, l3, g3⟩ := k27_open hK
  exact ⟨ad, A1, c1, A2, c2, A3, c3, e, hc 0 _ rfl, by rw [← add_field _ _ 1 (by omega)]; exact hc 1 _ rfl, by rw [← add_field _ _ 2 (by omega)]; exact hc 2 _ rfl, by rw [← add_field _ _ 3 (by omega)]; exact hc 3 _ rfl, l1, g1, l2, g2, l3, g3⟩

def rd_L5 (xs : List (List (List Int))) (i : Int) : (List (List Int)) := xs.getD i.toNat ([] : List (List Int))
theorem at_L5 {w : World} {A : Option Addr} {n : Nat} {xs : List (List (List Int))} (h : Kd.C (Kd.slice 22 (Kd.slice 3 (Kd.int .i64))) w A n xs) (i : Int) (h0 : 0 ≤ i) (h1 : i < n) : ∃ ad A0 c0, A = some ad ∧ w.cell? (ad.add i.toNat) = some (.slice A0 (rd_L5 xs i).length c0) ∧ (rd_L5 xs i).length ≤ c0 ∧ (Kd.slice 3 (Kd.int .i64)).C w A0 (rd_L5 xs i).length (rd_L5 xs i) := by
  obtain ⟨ad, c, e, _, hK, hc0⟩ := Kd.C_get h ([] : List (List Int)) i h0 h1
  have hc : ∀ j u, c[j]? = some u → w.cell? (ad.add (i.toNat * 1 + j)) = some u := hc0
  obtain ⟨A0, c0, rfl, l0, g0⟩ := hK
  exact ⟨ad, A0, c0, e, by have hq := hc 0 _ rfl; rwa [Nat.mul_one, Nat.add_zero] at hq, l0, g0⟩

/-! #### struct type 25 -/
structure S25 where
  f0 : Int
  f1 : (List Int)
  f2 : (List Int)
  f3 : (List Bool)
def z25 : S25 := ⟨(0 : Int), ([] : List Int), ([] : List Int), ([] : List Bool)⟩
def k25 : Kd S25 := Kd.iso (Kd.pair (Kd.int .i64) (Kd.pair (Kd.slice 3 (Kd.int .i64)) (Kd.pair (Kd.slice 3 (Kd.int .i64)) (Kd.slice 4 Kd.bool)))) (fun x : S25 => (x.f0, x.f1, x.f2, x.f3))
theorem k25_open {w : World} {x : S25} {cs : List Value} (h : k25.K w x cs) : ∃ A1 c1 A2 c2 A3 c3, cs = [.int .i64 x.f0, .slice A1 x.f1.length c1, .slice A2 x.f2.length c2, .slice A3 x.f3.length c3] ∧ x.f1.length ≤ c1 ∧ (Kd.int .i64).C w A1 x.f1.length x.f1 ∧ x.f2.length ≤ c2 ∧ (Kd.int .i64).C w A2 x.f2.length x.f2 ∧ x.f3.length ≤ c3 ∧ Kd.bool.C w A3 x.f3.length x.f3 := by
  obtain ⟨_, _, rfl, rfl, ⟨_, _, rfl, ⟨A1, c1, rfl, l1, g1⟩, ⟨_, _, rfl, ⟨A2, c2, rfl, l2, g2⟩, ⟨A3, c3, rfl, l3, g3⟩⟩⟩⟩ := h
  exact ⟨A1, c1, A2, c2, A3, c3, rfl, l1, g1, l2, g2, l3, g3⟩
theorem k25_openM {w : World} {base : Nat} {ok : Nat → Prop} {x : S25} {cs : List Value} (h : k25.M w base ok x cs) : ∃ v1 v2 v3, cs = [.int .i64 x.f0, v1, v2, v3] ∧ (Kd.int .i64).R 3 w base ok v1 x.f1 ∧ (Kd.int .i64).R 3 w base ok v2 x.f2 ∧ Kd.bool.R 4 w base ok v3 x.f3 := by
  obtain ⟨_, _, rfl, rfl, ⟨_, _, rfl, ⟨v1, rfl, g1⟩, ⟨_, _, rfl, ⟨v2, rfl, g2⟩, ⟨v3, rfl, g3⟩⟩⟩⟩ := h
  exact ⟨v1, v2, v3, rfl, g1, g2, g3⟩
theorem k25_mk (w : World) (x : S25) {A1 : Option Addr} {c1 : Nat} (l1 : x.f1.length ≤ c1) (g1 : (Kd.int .i64).C w A1 x.f1.length x.f1) {A2 : Option Addr} {c2 : Nat} (l2 : x.f2.length ≤ c2) (g2 : (Kd.int .i64).C w A2 x.f2.length x.f2) {A3 : Option Addr} {c3 : Nat} (l3 : x.f3.length ≤ c3) (g3 : Kd.bool.C w A3 x.f3.length x.f3) : k25.K w x [.int .i64 x.f0, .slice A1 x.f1.length c1, .slice A2 x.f2.length c2, .slice A3 x.f3.length c3] := ⟨[.int .i64 x.f0], [.slice A1 x.f1.length c1, .slice A2 x.f2.length c2, .slice A3 x.f3.length c3], rfl, rfl, ⟨[.slice A1 x.f1.length c1], [.slice A2 x.f2.length c2, .slice A3 x.f3.length c3], rfl, ⟨A1, c1, rfl, l1, g1⟩, ⟨[.slice A2 x.f2.length c2], [.slice A3 x.f3.length c3], rfl, ⟨A2, c2, rfl, l2, g2⟩, ⟨A3, c3, rfl, l3, g3⟩⟩⟩⟩
theorem k25_mkM (w : World) (base : Nat) (ok : Nat → Prop) (x : S25) {v1 : Value} (g1 : (Kd.int .i64).R 3 w base ok v1 x.f1) {v2 : Value} (g2 : (Kd.int .i64).R 3 w base ok v2 x.f2) {v3 : Value} (g3 : Kd.bool.R 4 w base ok v3 x.f3) : k25.M w base ok x [.int .i64 x.f0, v1, v2, v3] := ⟨[.int .i64 x.f0], [v1, v2, v3], rfl, rfl, ⟨[v1], [v2, v3], rfl, ⟨v1, rfl, g1⟩, ⟨[v2], [v3], rfl, ⟨v2, rfl, g2⟩, ⟨v3, rfl, g3⟩⟩⟩⟩
theorem k25_openF {W : World} {ok : Nat → Prop} {x : S25} {cs : List Value} (h : Kd.FK k25 W ok x cs) : ∃ A1 c1 A2 c2 A3 c3, cs = [.int .i64 x.f0, .slice A1 x.f1.length c1, .slice A2 x.f2.length c2, .slice A3 x.f3.length c3] ∧ x.f1.length ≤ c1 ∧ Kd.F (Kd.int .i64) W ok A1 x.f1.length x.f1 ∧ x.f2.length ≤ c2 ∧ Kd.F (Kd.int .i64) W ok A2 x.f2.length x.f2 ∧ x.f3.length ≤ c3 ∧ Kd.F Kd.bool W ok A3 x.f3.length x.f3 := by
  obtain ⟨A1, c1, A2, c2, A3, c3, rfl, l1, _, l2, _, l3, _⟩ := k25_open (Kd.FK_now h)
  exact ⟨A1, c1, A2, c2, A3, c3, rfl, l1, (fun W' hW => by obtain ⟨A1_, c1_, A2_, c2_, A3_, c3_, he, l1_, g1_, l2_, g2_, l3_, g3_⟩ := k25_open (h W' hW); injection (Option.some.inj (show some (Value.slice A1 x.f1.length c1) = some (Value.slice A1_ x.f1.length c1_) from congrArg (fun l => l[1]?) he)) with ha_ _ _; rw [ha_]; exact g1_), l2, (fun W' hW => by obtain ⟨A1_, c1_, A2_, c2_, A3_, c3_, he, l1_, g1_, l2_, g2_, l3_, g3_⟩ := k25_open (h W' hW); injection (Option.some.inj (show some (Value.slice A2 x.f2.length c2) = some (Value.slice A2_ x.f2.length c2_) from congrArg (fun l => l[2]?) he)) with ha_ _ _; rw [ha_]; exact g2_), l3, (fun W' hW => by obtain ⟨A1_, c1_, A2_, c2_, A3_, c3_, he, l1_, g1_, l2_, g2_, l3_, g3_⟩ := k25_open (h W' hW); injection (Option.some.inj (show some (Value.slice A3 x.f3.length c3) = some (Value.slice A3_ x.f3.length c3_) from congrArg (fun l => l[3]?) he)) with ha_ _ _; rw [ha_]; exact g3_)⟩
theorem k25_mkF (W : World) (ok : Nat → Prop) (x : S25) {A1 : Option Addr} {c1 : Nat} (l1 : x.f1.length ≤ c1) (g1 : Kd.F (Kd.int .i64) W ok A1 x.f1.length x.f1) {A2 : Option Addr} {c2 : Nat} (l2 : x.f2.length ≤ c2) (g2 : Kd.F (Kd.int .i64) W ok A2 x.f2.length x.f2) {A3 : Option Addr} {c3 : Nat} (l3 : x.f3.length ≤ c3) (g3 : Kd.F Kd.bool W ok A3 x.f3.length x.f3) : Kd.FK k25 W ok x [.int .i64 x.f0, .slice A1 x.f1.length c1, .slice A2 x.f2.length c2, .slice A3 x.f3.length c3] := fun W2 hW => k25_mk W2 x l1 (g1 W2 hW) l2 (g2 W2 hW) l3 (g3 W2 hW)
def rd_T25 (xs : List S25) (i : Int) : S25 := xs.getD i.toNat z25
theorem at_T25 {w : World} {A : Option Addr} {n : Nat} {xs : List S25} (h : Kd.C k25 w A n xs) (i : Int) (h0 : 0 ≤ i) (h1 : i < n) : ∃ ad A1 c1 A2 c2 A3 c3, A = some ad ∧ w.cell? (ad.add (i.toNat * 4)) = some (.int .i64 (rd_T25 xs i).f0) ∧ w.cell? ⟨(ad.add (i.toNat * 4)).block, (ad.add (i.toNat * 4)).off + 1, none⟩ = some (.slice A1 (rd_T25 xs i).f1.length c1) ∧ w.cell? ⟨(ad.add (i.toNat * 4)).block, (ad.add (i.toNat * 4)).off + 2, none⟩ = some (.slice A2 (rd_T25 xs i).f2.length c2) ∧ w.cell? ⟨(ad.add (i.toNat * 4)).block, (ad.add (i.toNat * 4)).off + 3, none⟩ = some (.slice A3 (rd_T25 xs i).f3.length c3) ∧ (rd_T25 xs i).f1.length ≤ c1 ∧ (Kd.int .i64).C w A1 (rd_T25 xs i).f1.length (rd_T25 xs i).f1 ∧ (rd_T25 xs i).f2.length ≤ c2 ∧ (Kd.int .i64).C w A2 (rd_T25 xs i).f2.length (rd_T25 xs i).f2 ∧ (rd_T25 xs i).f3.length ≤ c3 ∧ Kd.bool.C w A3 (rd_T25 xs i).f3.length (rd_T25 xs i).f3 := by
  obtain ⟨ad, c, e, _, hK, hc0⟩ := Kd.C_get h z25 i h0 h1
  have hc : ∀ j u, c[j]? = some u → w.cell? (ad.add (i.toNat * 4 + j)) = some u := hc0
  obtain ⟨A1, c1, A2, c2, A3, c3, rfl, l1, g1, l2, g2, l3, g3⟩ := k25_open hK
  exact ⟨ad, A1, c1, A2, c2, A3, c3, e, hc 0 _ rfl, by rw [← add_field _ _ 1 (by omega)]; exact hc 1 _ rfl, by rw [← add_field _ _ 2 (by omega)]; exact hc 2 _ rfl, by rw [← add_field _ _ 3 (by omega)]; exact hc 3 _ rfl, l1, g1, l2, g2, l3, g3⟩

inductive Wf25 : S25 → Prop
  | mk (f0 : Int) (f1 : List Int) (f2 : List Int) (f3 : List Bool) : (Lit.int .i64 f0).wf = true → ((∀ z ∈ f1, (Lit.int .i64 z).wf = true) ∧ f1.length ≤ maxLen) → ((∀ z ∈ f2, (Lit.int .i64 z).wf = true) ∧ f2.length ≤ maxLen) → ((∀ z ∈ f3, True) ∧ f3.length ≤ maxLen) → Wf25 ⟨f0, f1, f2, f3⟩
theorem Wf25.out {y : S25} (h : Wf25 y) : (Lit.int .i64 y.f0).wf = true ∧ ((∀ z ∈ y.f1, (Lit.int .i64 z).wf = true) ∧ y.f1.length ≤ maxLen) ∧ ((∀ z ∈ y.f2, (Lit.int .i64 z).wf = true) ∧ y.f2.length ≤ maxLen) ∧ ((∀ z ∈ y.f3, True) ∧ y.f3.length ≤ maxLen) := by
  cases h with
  | mk _ _ _ _ h0 h1 h2 h3 => exact ⟨h0, h1, h2, h3⟩
/-! A region that draws its order, whose operations read and whose calls make: one walk, in the text's order, over all worlds that lie behind the one at its head. -/
section
variable {P : Program} {ops : Array Oper} {C : World → Prop} {Q : Act → Prop} {o : Oper} {rest : List Oper} {a : Act}
structure QW (P : Program) (ops : Array Oper) (C : World → Prop) (Q : Act → Prop) (l : List Oper) (a : Act) : Prop where
  out : wpQuiet P ops C Q l a
theorem qb_region {id : Nat} {l : List Oper} {Q : Exit → Act → World → Prop} {w : World} (hm : P.follows .mixedOrders = true) (hB : Region.lexB .any l.toArray = true)
    (h : QW P l.toArray (fun w' => Below w.heap.size w w') (fun a' => ∀ w', Below w.heap.size w w' → Q .normal a' w') l a) : (Code.region id l.toArray true).wp P Q a w :=
  wp_region_quiet hm hB (show Below w.heap.size w w.drew from below_drew (Below.refl _ _)) h.out
theorem qb_nil (h : Q a) : QW P ops C Q [] a := ⟨wpQuiet_nil h⟩
theorem qb_skip (a' : Act) (hw : Region.wanted o (yielded ops a.tmps) = false) (ha : a.put o.dst undef = a') (h : QW P ops C Q rest a') : QW P ops C Q (o :: rest) a := by
  replace h := h.out
  refine ⟨?_⟩
  subst ha
  simp only [wpQuiet, hw]
  exact h
theorem qb_val (v : Value) (a' : Act) (hw : Region.wanted o (yielded ops a.tmps) = true) (hr : ∀ w', C w' → (execOp a.eval o).run P w' = .ok (.value v) w') (ha : a.put o.dst v = a') (h : QW P ops C Q rest a') : QW P ops C Q (o :: rest) a := by
  replace h := h.out
  refine ⟨?_⟩
  subst ha
  simp only [wpQuiet, hw, if_true]
  refine ⟨v, fun w' hc => ?_, h⟩
  unfold Oper.quietAt
  rw [hr w' hc]
  exact ⟨rfl, rfl⟩
theorem qb_callN (N : Tmp) (_ : o.dst = some N) (h : QW P ops C Q (o :: rest) a) : QW P ops C Q (o :: rest) a := h
theorem qb_callA (N : Tmp) (hd : o.dst = some N) {f : FuncId} {fn : Func} {us : Array Operand} {ts : Array TypeId} (hf : P.funcs[f]? = some fn) (hname : (fn.name == "runtime.NumGoroutine") = false) (hb : fn.body.isSome = true) {args : Array Value}
    (hop : o.op = .call { callee := .value (.func f), args := us, argTypes := ts }) (v : Value) (a' : Act) (hw : Region.wanted o (yielded ops a.tmps) = true) (hc : ∀ w', C w' → Calls P f args w' fun e w'' => e = .returned v ∧ C w'') (hargs : us.map a.eval = args) (ha : a.put (some N) v = a') (h : QW P ops C Q rest a') : QW P ops C Q (o :: rest) a := by
  replace h := h.out
  refine ⟨?_⟩
  subst ha
  simp only [wpQuiet, hw, if_true]
  refine ⟨v, fun w' hcw => ?_, by rw [hd]; exact h⟩
  unfold Oper.quietAt
  have he := enters_ hf hname hb args w'
  have hrun : (execOp a.eval o).run P w' = .ok (.enter f args) w' := by
    unfold execOp
    simp [hop, resolve, Deferred.ofValue, invoke, Act.eval, hargs, he]
  rw [hrun]
  exact ⟨rfl, hc w' hcw⟩
theorem qb_call (N : Tmp) (hd : o.dst = some N) {f : FuncId} {fn : Func} {us : Array Operand} {ts : Array TypeId} (hf : P.funcs[f]? = some fn) (hname : (fn.name == "runtime.NumGoroutine") = false) (hb : fn.body.isSome = true) {args : Array Value}
    (hop : o.op = .call { callee := .value (.func f), args := us, argTypes := ts }) (v : Value) (a' : Act) (hw : Region.wanted o (yielded ops a.tmps) = true) (hc : ∀ w', C w' → Calls P f args w' fun e w'' => e = .returned v ∧ C w'') (hargs : us.toList.map a.eval = args.toList) (ha : a.put (some N) v = a') (h : QW P ops C Q rest a') : QW P ops C Q (o :: rest) a :=
  qb_callA N hd hf hname hb hop v a' hw hc (by rw [← Array.toList_inj, Array.toList_map]; exact hargs) ha h
theorem qb_b {f : FuncId} {args : Array Value} {w0 w : World} {v : Value} (hb : Below w0.heap.size w0 w) (h : Calls P f args w fun e w' => e = .returned v ∧ Below w.heap.size w w') : Calls P f args w fun e w'' => e = .returned v ∧ Below w0.heap.size w0 w'' :=
  h.mono fun _ _ h_ => ⟨h_.1, below_step hb h_.2⟩
theorem qb_d {f : FuncId} {args : Array Value} {w0 w : World} {v : Value} (hb : Below w0.heap.size w0 w) (h : Calls P f args w fun e w' => e = .returned v ∧ Drawn0 w w') : Calls P f args w fun e w'' => e = .returned v ∧ Below w0.heap.size w0 w'' :=
  h.mono fun _ _ h_ => ⟨h_.1, below_step hb h_.2.below⟩
end

def OFn (K : Nat) : Prop := ∃ fn, Try.prog.funcs[K]? = some fn ∧ (fn.name == "runtime.NumGoroutine") = false ∧ fn.body.isSome = true
theorem OFn.run {K : Nat} (h : OFn K) (xs : Array Value) (w : World) : Sem.run Try.prog (callFunc K xs) w = .ok (.enter K xs) w := by
  obtain ⟨fn, hf, hname, hb⟩ := h
  exact enters_ hf hname hb xs w
theorem below_steps_1 {a b c : World} (h : Below a.heap.size a b) (h1 : Below b.heap.size b c) : Below a.heap.size a c := below_step h h1
theorem below_steps_2 {a b c d : World} (h : Below a.heap.size a b) (h1 : Below b.heap.size b c) (h2 : Below c.heap.size c d) : Below a.heap.size a d := below_step (below_step h h1) h2
theorem gate_calleeO {P : Program} {ops : Array Oper} {o : Oper} {rest : List Oper} {a : Act} {Q : Exit → Act → World → Prop} {W : World} {t : Tmp} {us : Array Operand} {ts : Array TypeId} (_ho : o.op = .call { callee := .value (.tmp t), args := us, argTypes := ts }) (h : wpList P ops Q (o :: rest) a W) : wpList P ops Q (o :: rest) a W := h
theorem goesO_run {oi : Oper} {a : Act} {w : World} {f : Nat} {F C : Array Value} {t : Tmp} {us : Array Operand} {ts : Array TypeId} (hG : OFn f) (args : Array Value)
    (hop : oi.op = .call { callee := .value (.tmp t), args := us, argTypes := ts }) (hargs : us.map a.eval = args) (hv : a.eval (.tmp t) = .func (.func f) F C) :
    (execOp a.eval oi).run Try.prog w = .ok (.enter f (F ++ args ++ C)) w := by
  obtain ⟨fn, hf, hname, hb⟩ := hG
  have he := enters_ hf hname hb (F ++ args ++ C) w
  have e1 : a.tmps.getD t undef = .func (.func f) F C := hv
  unfold execOp
  simp only [hop, resolve, Act.eval, e1]
  rw [Array.append_assoc] at he ⊢
  simp [Deferred.ofValue, invoke, hargs, he]
theorem goesO_ {ops : Array Oper} {Q : Exit → Act → World → Prop} {oi : Oper} {N : Option Tmp} {a : Act} {w : World} {K : Act → World → Prop} {f : Nat} {F C : Array Value} {t : Tmp} {us : Array Operand} {ts : Array TypeId} (hG : OFn f) (args : Array Value)
    (hw : Region.wanted oi (yielded ops a.tmps) = true) (hN : oi.dst = N) (hop : oi.op = .call { callee := .value (.tmp t), args := us, argTypes := ts }) (hargs : us.map a.eval = args) (hv : a.eval (.tmp t) = .func (.func f) F C)
    (h : Calls Try.prog f (F ++ args ++ C) w fun e w' => ∃ v, e = .returned v ∧ K (a.put N v) w') : if Region.wanted oi (yielded ops a.tmps) = true then Oper.wp Try.prog oi a w K Q else K (a.put N undef) w :=
  call_ f _ hw hN (goesO_run hG args hop hargs hv) h
theorem goesOL_ {ops : Array Oper} {Q : Exit → Act → World → Prop} {rest : List Oper} {oi : Oper} {a : Act} {w : World} (N : Option Tmp) (hd : oi.dst = N) (hg : oi.guard = none) {f : Nat} {F C : Array Value} {t : Tmp} {us : Array Operand} {ts : Array TypeId} (hG : OFn f) (args : Array Value)
    (hop : oi.op = .call { callee := .value (.tmp t), args := us, argTypes := ts }) (hargs : us.map a.eval = args) (hv : a.eval (.tmp t) = .func (.func f) F C)
    (h : Calls Try.prog f (F ++ args ++ C) w fun e w' => ∃ v, e = .returned v ∧ wpList Try.prog ops Q rest (a.put N v) w') : wpList Try.prog ops Q (oi :: rest) a w := by
  refine wpList_plain hg fun K hK => ?_
  have hrun := goesO_run (w := w) hG args hop hargs hv
  unfold Oper.wp
  rw [hrun, Oper.upon_enter]
  refine h.mono fun e w'' hh => ?_
  obtain ⟨v, rfl, hk⟩ := hh
  subst hd
  exact hK _ _ hk

/-! short words -/
theorem zf1_ {P Q A0_ : Prop} (h : P) (a0_ : A0_) (hs : A0_ → P → Q := by intro a0_ h_; repeat (first | (with_reducible first | exact h_ | refine blk_drewN ?_ _ | refine blk_drew ?_ | refine blk_alloc ?_ _) | refine blk_far ?_ (show _ ≠ _ from a0_) _)) : Q := hs a0_ h
theorem zf2_ {P Q A0_ A1_ : Prop} (h : P) (a0_ : A0_) (a1_ : A1_) (hs : A0_ → A1_ → P → Q := by intro a0_ a1_ h_; repeat (first | (with_reducible first | exact h_ | refine blk_drewN ?_ _ | refine blk_drew ?_ | refine blk_alloc ?_ _) | refine blk_far ?_ (show _ ≠ _ from a0_) _ | refine blk_far ?_ (show _ ≠ _ from a1_) _)) : Q := hs a0_ a1_ h
theorem zf3_ {P Q A0_ A1_ A2_ : Prop} (h : P) (a0_ : A0_) (a1_ : A1_) (a2_ : A2_) (hs : A0_ → A1_ → A2_ → P → Q := by intro a0_ a1_ a2_ h_; repeat (first | (with_reducible first | exact h_ | refine blk_drewN ?_ _ | refine blk_drew ?_ | refine blk_alloc ?_ _) | refine blk_far ?_ (show _ ≠ _ from a0_) _ | refine blk_far ?_ (show _ ≠ _ from a1_) _ | refine blk_far ?_ (show _ ≠ _ from a2_) _)) : Q := hs a0_ a1_ a2_ h
theorem zf4_ {P Q A0_ A1_ A2_ A3_ : Prop} (h : P) (a0_ : A0_) (a1_ : A1_) (a2_ : A2_) (a3_ : A3_) (hs : A0_ → A1_ → A2_ → A3_ → P → Q := by intro a0_ a1_ a2_ a3_ h_; repeat (first | (with_reducible first | exact h_ | refine blk_drewN ?_ _ | refine blk_drew ?_ | refine blk_alloc ?_ _) | refine blk_far ?_ (show _ ≠ _ from a0_) _ | refine blk_far ?_ (show _ ≠ _ from a1_) _ | refine blk_far ?_ (show _ ≠ _ from a2_) _ | refine blk_far ?_ (show _ ≠ _ from a3_) _)) : Q := hs a0_ a1_ a2_ a3_ h
theorem bc2_ {w : World} {g : Nat} {t : TypeId} {v0 v1 : Value} (h : w.heap[g]? = some (.cells #[v0, v1] t (0, 0))) : w.cell? ⟨g, 0, none⟩ = some v0 ∧ w.cell? ⟨g, 1, none⟩ = some v1 := ⟨(blk_cell h 0).trans rfl, (blk_cell h 1).trans rfl⟩
theorem bf2_ {w : World} {g : Nat} {t : TypeId} {v0 v1 : Value} (h : w.heap[g]? = some (.cells #[v0, v1] t (0, 0))) : w.cell? ⟨g, 0, none⟩ = some v0 ∧ w.cell? ⟨g, 1, none⟩ = some v1 ∧ w.frozen? ⟨g, 0, none⟩ = false ∧ w.frozen? ⟨g, 1, none⟩ = false := ⟨(blk_cell h 0).trans rfl, (blk_cell h 1).trans rfl, blk_frozen h 0, blk_frozen h 1⟩
theorem bc3_ {w : World} {g : Nat} {t : TypeId} {v0 v1 v2 : Value} (h : w.heap[g]? = some (.cells #[v0, v1, v2] t (0, 0))) : w.cell? ⟨g, 0, none⟩ = some v0 ∧ w.cell? ⟨g, 1, none⟩ = some v1 ∧ w.cell? ⟨g, 2, none⟩ = some v2 := ⟨(blk_cell h 0).trans rfl, (blk_cell h 1).trans rfl, (blk_cell h 2).trans rfl⟩
theorem bf3_ {w : World} {g : Nat} {t : TypeId} {v0 v1 v2 : Value} (h : w.heap[g]? = some (.cells #[v0, v1, v2] t (0, 0))) : w.cell? ⟨g, 0, none⟩ = some v0 ∧ w.cell? ⟨g, 1, none⟩ = some v1 ∧ w.cell? ⟨g, 2, none⟩ = some v2 ∧ w.frozen? ⟨g, 0, none⟩ = false ∧ w.frozen? ⟨g, 1, none⟩ = false ∧ w.frozen? ⟨g, 2, none⟩ = false := ⟨(blk_cell h 0).trans rfl, (blk_cell h 1).trans rfl, (blk_cell h 2).trans rfl, blk_frozen h 0, blk_frozen h 1, blk_frozen h 2⟩
theorem bc4_ {w : World} {g : Nat} {t : TypeId} {v0 v1 v2 v3 : Value} (h : w.heap[g]? = some (.cells #[v0, v1, v2, v3] t (0, 0))) : w.cell? ⟨g, 0, none⟩ = some v0 ∧ w.cell? ⟨g, 1, none⟩ = some v1 ∧ w.cell? ⟨g, 2, none⟩ = some v2 ∧ w.cell? ⟨g, 3, none⟩ = some v3 := ⟨(blk_cell h 0).trans rfl, (blk_cell h 1).trans rfl, (blk_cell h 2).trans rfl, (blk_cell h 3).trans rfl⟩
theorem bf4_ {w : World} {g : Nat} {t : TypeId} {v0 v1 v2 v3 : Value} (h : w.heap[g]? = some (.cells #[v0, v1, v2, v3] t (0, 0))) : w.cell? ⟨g, 0, none⟩ = some v0 ∧ w.cell? ⟨g, 1, none⟩ = some v1 ∧ w.cell? ⟨g, 2, none⟩ = some v2 ∧ w.cell? ⟨g, 3, none⟩ = some v3 ∧ w.frozen? ⟨g, 0, none⟩ = false ∧ w.frozen? ⟨g, 1, none⟩ = false ∧ w.frozen? ⟨g, 2, none⟩ = false ∧ w.frozen? ⟨g, 3, none⟩ = false := ⟨(blk_cell h 0).trans rfl, (blk_cell h 1).trans rfl, (blk_cell h 2).trans rfl, (blk_cell h 3).trans rfl, blk_frozen h 0, blk_frozen h 1, blk_frozen h 2, blk_frozen h 3⟩
theorem bc5_ {w : World} {g : Nat} {t : TypeId} {v0 v1 v2 v3 v4 : Value} (h : w.heap[g]? = some (.cells #[v0, v1, v2, v3, v4] t (0, 0))) : w.cell? ⟨g, 0, none⟩ = some v0 ∧ w.cell? ⟨g, 1, none⟩ = some v1 ∧ w.cell? ⟨g, 2, none⟩ = some v2 ∧ w.cell? ⟨g, 3, none⟩ = some v3 ∧ w.cell? ⟨g, 4, none⟩ = some v4 := ⟨(blk_cell h 0).trans rfl, (blk_cell h 1).trans rfl, (blk_cell h 2).trans rfl, (blk_cell h 3).trans rfl, (blk_cell h 4).trans rfl⟩
theorem bf5_ {w : World} {g : Nat} {t : TypeId} {v0 v1 v2 v3 v4 : Value} (h : w.heap[g]? = some (.cells #[v0, v1, v2, v3, v4] t (0, 0))) : w.cell? ⟨g, 0, none⟩ = some v0 ∧ w.cell? ⟨g, 1, none⟩ = some v1 ∧ w.cell? ⟨g, 2, none⟩ = some v2 ∧ w.cell? ⟨g, 3, none⟩ = some v3 ∧ w.cell? ⟨g, 4, none⟩ = some v4 ∧ w.frozen? ⟨g, 0, none⟩ = false ∧ w.frozen? ⟨g, 1, none⟩ = false ∧ w.frozen? ⟨g, 2, none⟩ = false ∧ w.frozen? ⟨g, 3, none⟩ = false ∧ w.frozen? ⟨g, 4, none⟩ = false := ⟨(blk_cell h 0).trans rfl, (blk_cell h 1).trans rfl, (blk_cell h 2).trans rfl, (blk_cell h 3).trans rfl, (blk_cell h 4).trans rfl, blk_frozen h 0, blk_frozen h 1, blk_frozen h 2, blk_frozen h 3, blk_frozen h 4⟩
theorem bc6_ {w : World} {g : Nat} {t : TypeId} {v0 v1 v2 v3 v4 v5 : Value} (h : w.heap[g]? = some (.cells #[v0, v1, v2, v3, v4, v5] t (0, 0))) : w.cell? ⟨g, 0, none⟩ = some v0 ∧ w.cell? ⟨g, 1, none⟩ = some v1 ∧ w.cell? ⟨g, 2, none⟩ = some v2 ∧ w.cell? ⟨g, 3, none⟩ = some v3 ∧ w.cell? ⟨g, 4, none⟩ = some v4 ∧ w.cell? ⟨g, 5, none⟩ = some v5 := ⟨(blk_cell h 0).trans rfl, (blk_cell h 1).trans rfl, (blk_cell h 2).trans rfl, (blk_cell h 3).trans rfl, (blk_cell h 4).trans rfl, (blk_cell h 5).trans rfl⟩
theorem bf6_ {w : World} {g : Nat} {t : TypeId} {v0 v1 v2 v3 v4 v5 : Value} (h : w.heap[g]? = some (.cells #[v0, v1, v2, v3, v4, v5] t (0, 0))) : w.cell? ⟨g, 0, none⟩ = some v0 ∧ w.cell? ⟨g, 1, none⟩ = some v1 ∧ w.cell? ⟨g, 2, none⟩ = some v2 ∧ w.cell? ⟨g, 3, none⟩ = some v3 ∧ w.cell? ⟨g, 4, none⟩ = some v4 ∧ w.cell? ⟨g, 5, none⟩ = some v5 ∧ w.frozen? ⟨g, 0, none⟩ = false ∧ w.frozen? ⟨g, 1, none⟩ = false ∧ w.frozen? ⟨g, 2, none⟩ = false ∧ w.frozen? ⟨g, 3, none⟩ = false ∧ w.frozen? ⟨g, 4, none⟩ = false ∧ w.frozen? ⟨g, 5, none⟩ = false := ⟨(blk_cell h 0).trans rfl, (blk_cell h 1).trans rfl, (blk_cell h 2).trans rfl, (blk_cell h 3).trans rfl, (blk_cell h 4).trans rfl, (blk_cell h 5).trans rfl, blk_frozen h 0, blk_frozen h 1, blk_frozen h 2, blk_frozen h 3, blk_frozen h 4, blk_frozen h 5⟩
theorem rf_ {α : Type} {d : Kd α} {e base g t : Nat} {w w2 : World} {ok : Nat → Prop} {v : Value} {xs : List α} {cells : Array Value} (h : d.R e w base ok v xs) (hb : w.heap[g]? = some (.cells cells t (0, 0))) (ht : ∀ q, q ∈ e :: d.E → q ≠ t := by decide) (hs : d.R e w base (fun k => ok k ∧ k ≠ g) v xs → d.R e w2 base (fun k => ok k ∧ k ≠ g) v xs := by intro h_; repeat (first | exact h_ | refine Kd.R_far ?_ (fun _ hk => hk.2) _)) : d.R e w2 base ok v xs := Kd.R_mono (hs (Kd.R_types h hb ht)) (fun _ h_ => h_.1)
theorem gs_ {w W : World} {g : Nat} (hg : g = W.heap.size) (h : Below w.heap.size w W) : w.heap.size ≤ g := by rw [hg]; exact below_size h
theorem nl_ {a b n : Nat} (hg : b = n) (h : a < n) : a ≠ b := by omega
theorem ng_ {a b n : Nat} (hg : b = n) (h : a < n) : b ≠ a := by omega
theorem bx_ {P : Program} {ops : Array Oper} {rest : List Oper} {o : Oper} {a : Act} {Q : Exit → Act → World → Prop} {W : World} {N : Tmp} {cs : Array Value} {t : TypeId} (h : ∀ g, g = W.heap.size → ∀ w1, w1.heap[g]? = some (.cells cs t (0, 0)) → Below W.heap.size W w1 → wpList P ops Q rest (a.put o.dst (.pointer (some ⟨g, 0, none⟩))) w1) (hgd : o.guard = none := by rfl) (hd : o.dst = some N := by rfl) (hrun : (execOp a.eval o).run P W = .ok (.value (.pointer (some ⟨W.heap.size, 0, none⟩))) (W.alloc (.cells cs t (0, 0))) := by first | (go_simp; done) | (go_simp; rfl)) : wpList P ops Q (o :: rest) a W := box_event hgd hd hrun h
theorem la_ {α : Type} {a b : α} (h : a = b := by (try simp only [List.map_toArray, List.map_cons, List.map_nil]); first | done | rfl | (simp only [List.length_drop, List.length_take]; rfl)) : a = b := h
theorem sm_ {p : Prop} (h : p := by first | rfl | (simp; done) | (simp [*]; done)) : p := h
theorem dt_ {p : Prop} [Decidable p] (h : decide p = true := by first | (with_reducible assumption) | assumption) : p := of_decide_eq_true h
theorem an_ {p : Prop} (h : p := by first | rfl | (simp [errW_none, errW_some] <;> rfl) | (simp [*, errW_none, errW_some] <;> rfl)) : p := h
theorem sd_ {p : Prop} (h : p) : Aside0 p := ⟨h⟩
theorem kp_ {P Q : Prop} (h : P) (hs : P → Q := by intro h_; repeat (first | exact h_ | (with_reducible refine Kd.C_alloc ?_ _) | (with_reducible refine Kd.C_drewN ?_ _) | (with_reducible refine Kd.C_drew ?_))) : Q := hs h
theorem kc_ {α : Type} {d : Kd α} {w w1 w2 : World} {A : Option Addr} {n : Nat} {xs : List α} (h : d.C w A n xs) (hb : Below w.heap.size w w1) (hs : d.C w1 A n xs → d.C w2 A n xs := by intro h_; repeat (first | exact h_ | (with_reducible refine Kd.C_alloc ?_ _) | (with_reducible refine Kd.C_drewN ?_ _) | (with_reducible refine Kd.C_drew ?_))) : d.C w2 A n xs := hs (Kd.C_below h hb)
theorem bz_ {w w1 : World} {g : Nat} {o : Obj} (h : w.heap[g]? = some o) (hs : w.heap[g]? = some o → w1.heap[g]? = some o := by intro h_; (with_reducible repeat (first | refine blk_drewN ?_ _ | refine blk_drew ?_ | refine blk_alloc ?_ _)); exact h_) : w1.heap[g]? = some o := hs h
theorem bb_ {w w1 w2 : World} {g : Nat} {o : Obj} (h : w.heap[g]? = some o) (hb : Below w1.heap.size w1 w2) (hs : w.heap[g]? = some o → w1.heap[g]? = some o := by intro h_; (with_reducible repeat (first | refine blk_drewN ?_ _ | refine blk_drew ?_ | refine blk_alloc ?_ _)); exact h_) : w2.heap[g]? = some o := blk_below (hs h) hb
theorem bl_ {w w1 : World} {g : Nat} {o : Obj} (h : w.heap[g]? = some o) (hs : w.heap[g]? = some o → w1.heap[g]? = some o := by intro h_; (with_reducible repeat (first | refine blk_drewN ?_ _ | refine blk_drew ?_ | refine blk_alloc ?_ _)); exact h_) : g < w1.heap.size := blk_lt (hs h)
theorem ro_ {P Q : Prop} (h : P) (hs : P → Q := by intro h_; (with_reducible repeat (first | apply Kd.R_alloc | apply Kd.R_drewN | apply Kd.R_drew)); exact h_) : Q := hs h
theorem bw0_ {w w1 w2 : World} (h : Below w.heap.size w w1)  (hs : Below w.heap.size w w1 → Below w.heap.size w w2 := by intro  h_; repeat (first | (with_reducible first | exact h_ | apply below_alloc | apply pw_below_drewN | apply below_drew1) | exact h_)) : Below w.heap.size w w2 := hs  h
theorem bw1_ {w w1 w2 : World} {b0_ : Nat} (h : Below w.heap.size w w1) (g0_ : w.heap.size ≤ b0_) (hs : w.heap.size ≤ b0_ → Below w.heap.size w w1 → Below w.heap.size w w2 := by intro g0_ h_; repeat (first | (with_reducible first | exact h_ | apply below_alloc | apply pw_below_drewN | apply below_drew1 | refine below_set ?_ g0_) | exact h_)) : Below w.heap.size w w2 := hs g0_ h
theorem bw2_ {w w1 w2 : World} {b0_ b1_ : Nat} (h : Below w.heap.size w w1) (g0_ : w.heap.size ≤ b0_) (g1_ : w.heap.size ≤ b1_) (hs : w.heap.size ≤ b0_ → w.heap.size ≤ b1_ → Below w.heap.size w w1 → Below w.heap.size w w2 := by intro g0_ g1_ h_; repeat (first | (with_reducible first | exact h_ | apply below_alloc | apply pw_below_drewN | apply below_drew1 | refine below_set ?_ g0_ | refine below_set ?_ g1_) | exact h_)) : Below w.heap.size w w2 := hs g0_ g1_ h
theorem bw3_ {w w1 w2 : World} {b0_ b1_ b2_ : Nat} (h : Below w.heap.size w w1) (g0_ : w.heap.size ≤ b0_) (g1_ : w.heap.size ≤ b1_) (g2_ : w.heap.size ≤ b2_) (hs : w.heap.size ≤ b0_ → w.heap.size ≤ b1_ → w.heap.size ≤ b2_ → Below w.heap.size w w1 → Below w.heap.size w w2 := by intro g0_ g1_ g2_ h_; repeat (first | (with_reducible first | exact h_ | apply below_alloc | apply pw_below_drewN | apply below_drew1 | refine below_set ?_ g0_ | refine below_set ?_ g1_ | refine below_set ?_ g2_) | exact h_)) : Below w.heap.size w w2 := hs g0_ g1_ g2_ h
theorem bw4_ {w w1 w2 : World} {b0_ b1_ b2_ b3_ : Nat} (h : Below w.heap.size w w1) (g0_ : w.heap.size ≤ b0_) (g1_ : w.heap.size ≤ b1_) (g2_ : w.heap.size ≤ b2_) (g3_ : w.heap.size ≤ b3_) (hs : w.heap.size ≤ b0_ → w.heap.size ≤ b1_ → w.heap.size ≤ b2_ → w.heap.size ≤ b3_ → Below w.heap.size w w1 → Below w.heap.size w w2 := by intro g0_ g1_ g2_ g3_ h_; repeat (first | (with_reducible first | exact h_ | apply below_alloc | apply pw_below_drewN | apply below_drew1 | refine below_set ?_ g0_ | refine below_set ?_ g1_ | refine below_set ?_ g2_ | refine below_set ?_ g3_) | exact h_)) : Below w.heap.size w w2 := hs g0_ g1_ g2_ g3_ h
theorem bw5_ {w w1 w2 : World} {b0_ b1_ b2_ b3_ b4_ : Nat} (h : Below w.heap.size w w1) (g0_ : w.heap.size ≤ b0_) (g1_ : w.heap.size ≤ b1_) (g2_ : w.heap.size ≤ b2_) (g3_ : w.heap.size ≤ b3_) (g4_ : w.heap.size ≤ b4_) (hs : w.heap.size ≤ b0_ → w.heap.size ≤ b1_ → w.heap.size ≤ b2_ → w.heap.size ≤ b3_ → w.heap.size ≤ b4_ → Below w.heap.size w w1 → Below w.heap.size w w2 := by intro g0_ g1_ g2_ g3_ g4_ h_; repeat (first | (with_reducible first | exact h_ | apply below_alloc | apply pw_below_drewN | apply below_drew1 | refine below_set ?_ g0_ | refine below_set ?_ g1_ | refine below_set ?_ g2_ | refine below_set ?_ g3_ | refine below_set ?_ g4_) | exact h_)) : Below w.heap.size w w2 := hs g0_ g1_ g2_ g3_ g4_ h
theorem bw6_ {w w1 w2 : World} {b0_ b1_ b2_ b3_ b4_ b5_ : Nat} (h : Below w.heap.size w w1) (g0_ : w.heap.size ≤ b0_) (g1_ : w.heap.size ≤ b1_) (g2_ : w.heap.size ≤ b2_) (g3_ : w.heap.size ≤ b3_) (g4_ : w.heap.size ≤ b4_) (g5_ : w.heap.size ≤ b5_) (hs : w.heap.size ≤ b0_ → w.heap.size ≤ b1_ → w.heap.size ≤ b2_ → w.heap.size ≤ b3_ → w.heap.size ≤ b4_ → w.heap.size ≤ b5_ → Below w.heap.size w w1 → Below w.heap.size w w2 := by intro g0_ g1_ g2_ g3_ g4_ g5_ h_; repeat (first | (with_reducible first | exact h_ | apply below_alloc | apply pw_below_drewN | apply below_drew1 | refine below_set ?_ g0_ | refine below_set ?_ g1_ | refine below_set ?_ g2_ | refine below_set ?_ g3_ | refine below_set ?_ g4_ | refine below_set ?_ g5_) | exact h_)) : Below w.heap.size w w2 := hs g0_ g1_ g2_ g3_ g4_ g5_ h
theorem bw7_ {w w1 w2 : World} {b0_ b1_ b2_ b3_ b4_ b5_ b6_ : Nat} (h : Below w.heap.size w w1) (g0_ : w.heap.size ≤ b0_) (g1_ : w.heap.size ≤ b1_) (g2_ : w.heap.size ≤ b2_) (g3_ : w.heap.size ≤ b3_) (g4_ : w.heap.size ≤ b4_) (g5_ : w.heap.size ≤ b5_) (g6_ : w.heap.size ≤ b6_) (hs : w.heap.size ≤ b0_ → w.heap.size ≤ b1_ → w.heap.size ≤ b2_ → w.heap.size ≤ b3_ → w.heap.size ≤ b4_ → w.heap.size ≤ b5_ → w.heap.size ≤ b6_ → Below w.heap.size w w1 → Below w.heap.size w w2 := by intro g0_ g1_ g2_ g3_ g4_ g5_ g6_ h_; repeat (first | (with_reducible first | exact h_ | apply below_alloc | apply pw_below_drewN | apply below_drew1 | refine below_set ?_ g0_ | refine below_set ?_ g1_ | refine below_set ?_ g2_ | refine below_set ?_ g3_ | refine below_set ?_ g4_ | refine below_set ?_ g5_ | refine below_set ?_ g6_) | exact h_)) : Below w.heap.size w w2 := hs g0_ g1_ g2_ g3_ g4_ g5_ g6_ h
theorem bw8_ {w w1 w2 : World} {b0_ b1_ b2_ b3_ b4_ b5_ b6_ b7_ : Nat} (h : Below w.heap.size w w1) (g0_ : w.heap.size ≤ b0_) (g1_ : w.heap.size ≤ b1_) (g2_ : w.heap.size ≤ b2_) (g3_ : w.heap.size ≤ b3_) (g4_ : w.heap.size ≤ b4_) (g5_ : w.heap.size ≤ b5_) (g6_ : w.heap.size ≤ b6_) (g7_ : w.heap.size ≤ b7_) (hs : w.heap.size ≤ b0_ → w.heap.size ≤ b1_ → w.heap.size ≤ b2_ → w.heap.size ≤ b3_ → w.heap.size ≤ b4_ → w.heap.size ≤ b5_ → w.heap.size ≤ b6_ → w.heap.size ≤ b7_ → Below w.heap.size w w1 → Below w.heap.size w w2 := by intro g0_ g1_ g2_ g3_ g4_ g5_ g6_ g7_ h_; repeat (first | (with_reducible first | exact h_ | apply below_alloc | apply pw_below_drewN | apply below_drew1 | refine below_set ?_ g0_ | refine below_set ?_ g1_ | refine below_set ?_ g2_ | refine below_set ?_ g3_ | refine below_set ?_ g4_ | refine below_set ?_ g5_ | refine below_set ?_ g6_ | refine below_set ?_ g7_) | exact h_)) : Below w.heap.size w w2 := hs g0_ g1_ g2_ g3_ g4_ g5_ g6_ g7_ h
end Go.Proofs.Ytipfkicndjddgaa.P
