-- Several texts in one (wip/tools/merge.py).
import Derived.Test.YtlhiacnmcckjgaaDoorProg
import Derived.Below
import Derived.Deep.Draws
import Derived.Deep.AppendLies
import Derived.Maps.AppendAt
import Derived.OwnWalk
import Derived.Laws.BytesArg
import Derived.Laws.MakeOwn
import Derived.Laws.OwnMore
import Derived.Deep.OwnRows
import Derived.Tactics
import Derived.Lib.ConvBytes
import Derived.Laws.Slices
import Derived.WalkKit
import Derived.KernelRfl
import Derived.RowKit3
import Derived.Deep.LoopGhost
import Derived.Deep.QuietTactic
import Derived.BigQuiet
import Derived.WideLaws
import Derived.Deep.DeepCutAuto
import Derived.Deep.CutBlock
import Derived.Deep.RegionHeld3
import Derived.Laws.Rows
import Derived.Lib.AppendStr
import Derived.ArgAppend
import Derived.Laws.IdiomCopy
import Derived.OrdersHeld
import Derived.Laws.BitsLemmas
import Derived.RowKit
import Derived.Test.YtlhiacnmcckjgaaDoorV
import Derived.ProofKit
import Derived.ChangeArms
import Derived.Deep.Slices
import Derived.Lib.SmallJoins
section
namespace Go.Proofs.YtlhiacnmcckjgaaDoor.P
open Go.RowKit Go.Proofs.YtlhiacnmcckjgaaDoorW.PrintWords Go.Proofs.YtlhiacnmcckjgaaDoorW.PrintLast Go.Proofs.YtlhiacnmcckjgaaDoorW.PrintMore
attribute [local go_sem] max2_int min2_int max_two min_two max_three min_three max_four min_four   -- for this text's walks alone
set_option linter.unusedVariables false
set_option linter.unusedSimpArgs false



def errW : Option Int → Value
  | none => .nilIface
  | some c => .iface 0 (.int .i64 c)
theorem errW_none : errW none = .nilIface := rfl
theorem errW_some (c : Int) : errW (some c) = .iface 0 (.int .i64 c) := rfl

theorem info3 : (Tryd.prog.info? 3).map (fun i => (i.zero, i.size, i.bytes)) = some (some (.int .i64 0), 1, 8) := by kernel_rfl
theorem info5 : (Tryd.prog.info? 5).map (fun i => (i.zero, i.size, i.bytes)) = some (some (.int .u8 0), 1, 1) := by kernel_rfl
theorem info9 : (Tryd.prog.info? 9).map (fun i => (i.zero, i.size, i.bytes)) = some (some (.string ⟨#[]⟩), 1, 16) := by kernel_rfl
theorem info34 : (Tryd.prog.info? 34).map (fun i => (i.zero, i.size, i.bytes)) = some (some (.agg #[(.int .i64 0), (.int .i64 0), (.slice none 0 0), (.slice none 0 0)]), 4, 64) := by kernel_rfl
theorem info61 : (Tryd.prog.info? 61).map (fun i => (i.zero, i.size, i.bytes)) = some (some (.agg #[(.string ⟨#[]⟩), (.int .i64 0), (.bool false), (.bool false)]), 4, 32) := by kernel_rfl
-- the values' own types
def rd_L1 (xs : List (List Int)) (i : Int) : (List Int) := xs.getD i.toNat ([] : List Int)
theorem at_L1 {w : World} {A : Option Addr} {n : Nat} {xs : List (List Int)} (h : Kd.C (Kd.slice 3 (Kd.int .i64)) w A n xs) (i : Int) (h0 : 0 ≤ i) (h1 : i < n) : ∃ ad A0 c0, A = some ad ∧ w.cell? (ad.add i.toNat) = some (.slice A0 (rd_L1 xs i).length c0) ∧ (rd_L1 xs i).length ≤ c0 ∧ (Kd.int .i64).C w A0 (rd_L1 xs i).length (rd_L1 xs i) := by
  obtain ⟨ad, c, e, _, hK, hc0⟩ := Kd.C_get h ([] : List Int) i h0 h1
  have hc : ∀ j u, c[j]? = some u → w.cell? (ad.add (i.toNat * 1 + j)) = some u := hc0
  obtain ⟨A0, c0, rfl, l0, g0⟩ := hK
  exact ⟨ad, A0, c0, e, by have hq := hc 0 _ rfl; rwa [Nat.mul_one, Nat.add_zero] at hq, l0, g0⟩

/-! #### struct type 29, nested in itself -/
structure S29 where
  f0 : Int
  f1 : Int
  f2 : (List Int)
  f3 : (List S29)
def z29 : S29 := ⟨(0 : Int), (0 : Int), ([] : List Int), ([] : List S29)⟩
def F29 (d : Kd S29) : Kd S29 := Kd.iso (Kd.pair (Kd.int .i64) (Kd.pair (Kd.int .i64) (Kd.pair (Kd.slice 3 (Kd.int .i64)) (Kd.slice 29 d)))) (fun x : S29 => (x.f0, x.f1, x.f2, x.f3))
theorem mono29 : Kd.Mono F29 := Kd.mono_iso _ (Kd.mono_pair (Kd.mono_const _) (Kd.mono_pair (Kd.mono_const _) (Kd.mono_pair (Kd.mono_const _) (Kd.mono_slice 29 Kd.mono_id))))
theorem sub29 : Kd.Sub F29 [3, 29] := Kd.sub_iso _ (Kd.sub_pair (Kd.sub_const _ (by decide)) (Kd.sub_pair (Kd.sub_const _ (by decide)) (Kd.sub_pair (Kd.sub_const _ (by decide)) (Kd.sub_slice 29 (by decide) Kd.sub_id))))
theorem sz29 : ∀ n, (Kd.upto F29 4 [3, 29] n).sz = 4 := Kd.upto_sz (fun _ => rfl)
def k29 : Kd S29 := Kd.fix F29 4 [3, 29] sz29 (Kd.upto_E sub29)
theorem k29_open {w : World} {x : S29} {cs : List Value} (h : k29.K w x cs) : ∃ A2 c2 A3 c3, cs = [.int .i64 x.f0, .int .i64 x.f1, .slice A2 x.f2.length c2, .slice A3 x.f3.length c3] ∧ x.f2.length ≤ c2 ∧ (Kd.int .i64).C w A2 x.f2.length x.f2 ∧ x.f3.length ≤ c3 ∧ k29.C w A3 x.f3.length x.f3 := by
  obtain ⟨n, h⟩ := h
  cases n with
  | zero => exact h.elim
  | succ n =>
    obtain ⟨_, _, rfl, rfl, ⟨_, _, rfl, rfl, ⟨_, _, rfl, ⟨A2, c2, rfl, l2, g2⟩, ⟨A3, c3, rfl, l3, g3⟩⟩⟩⟩ := h
    exact ⟨A2, c2, A3, c3, rfl, l2, g2, l3, Kd.fix_C g3⟩
theorem k29_openM {w : World} {base : Nat} {ok : Nat → Prop} {x : S29} {cs : List Value} (h : k29.M w base ok x cs) : ∃ v2 v3, cs = [.int .i64 x.f0, .int .i64 x.f1, v2, v3] ∧ (Kd.int .i64).R 3 w base ok v2 x.f2 ∧ k29.R 29 w base ok v3 x.f3 := by
  obtain ⟨n, h⟩ := h
  cases n with
  | zero => exact h.elim
  | succ n =>
    obtain ⟨_, _, rfl, rfl, ⟨_, _, rfl, rfl, ⟨_, _, rfl, ⟨v2, rfl, g2⟩, ⟨v3, rfl, g3⟩⟩⟩⟩ := h
    exact ⟨v2, v3, rfl, g2, Kd.fix_R g3⟩
theorem k29_mk (w : World) (x : S29) {A2 : Option Addr} {c2 : Nat} (l2 : x.f2.length ≤ c2) (g2 : (Kd.int .i64).C w A2 x.f2.length x.f2) {A3 : Option Addr} {c3 : Nat} (l3 : x.f3.length ≤ c3) (g3 : k29.C w A3 x.f3.length x.f3) : k29.K w x [.int .i64 x.f0, .int .i64 x.f1, .slice A2 x.f2.length c2, .slice A3 x.f3.length c3] := by
  obtain ⟨n3, q3⟩ := Kd.fix_C_back mono29 g3
  have r3 := Kd.upto_C_le mono29 sz29 (show n3 ≤ n3 by omega) q3
  exact ⟨n3 + 1, ⟨[.int .i64 x.f0], [.int .i64 x.f1, .slice A2 x.f2.length c2, .slice A3 x.f3.length c3], rfl, rfl, ⟨[.int .i64 x.f1], [.slice A2 x.f2.length c2, .slice A3 x.f3.length c3], rfl, rfl, ⟨[.slice A2 x.f2.length c2], [.slice A3 x.f3.length c3], rfl, ⟨A2, c2, rfl, l2, g2⟩, ⟨A3, c3, rfl, l3, r3⟩⟩⟩⟩⟩
theorem k29_mkM (w : World) (base : Nat) (ok : Nat → Prop) (x : S29) {v2 : Value} (g2 : (Kd.int .i64).R 3 w base ok v2 x.f2) {v3 : Value} (g3 : k29.R 29 w base ok v3 x.f3) : k29.M w base ok x [.int .i64 x.f0, .int .i64 x.f1, v2, v3] := by
  obtain ⟨n3, q3⟩ := Kd.fix_R_back mono29 g3
  have r3 := Kd.upto_R_le mono29 sz29 (show n3 ≤ n3 by omega) q3
  exact ⟨n3 + 1, ⟨[.int .i64 x.f0], [.int .i64 x.f1, v2, v3], rfl, rfl, ⟨[.int .i64 x.f1], [v2, v3], rfl, rfl, ⟨[v2], [v3], rfl, ⟨v2, rfl, g2⟩, ⟨v3, rfl, r3⟩⟩⟩⟩⟩
def rd_T29 (xs : List S29) (i : Int) : S29 := xs.getD i.toNat z29
theorem at_T29 {w : World} {A : Option Addr} {n : Nat} {xs : List S29} (h : Kd.C k29 w A n xs) (i : Int) (h0 : 0 ≤ i) (h1 : i < n) : ∃ ad A2 c2 A3 c3, A = some ad ∧ w.cell? (ad.add (i.toNat * 4)) = some (.int .i64 (rd_T29 xs i).f0) ∧ w.cell? ⟨(ad.add (i.toNat * 4)).block, (ad.add (i.toNat * 4)).off + 1, none⟩ = some (.int .i64 (rd_T29 xs i).f1) ∧ w.cell? ⟨(ad.add (i.toNat * 4)).block, (ad.add (i.toNat * 4)).off + 2, none⟩ = some (.slice A2 (rd_T29 xs i).f2.length c2) ∧ w.cell? ⟨(ad.add (i.toNat * 4)).block, (ad.add (i.toNat * 4)).off + 3, none⟩ = some (.slice A3 (rd_T29 xs i).f3.length c3) ∧ (rd_T29 xs i).f2.length ≤ c2 ∧ (Kd.int .i64).C w A2 (rd_T29 xs i).f2.length (rd_T29 xs i).f2 ∧ (rd_T29 xs i).f3.length ≤ c3 ∧ k29.C w A3 (rd_T29 xs i).f3.length (rd_T29 xs i).f3 := by
  obtain ⟨ad, c, e, _, hK, hc0⟩ := Kd.C_get h z29 i h0 h1
  have hc : ∀ j u, c[j]? = some u → w.cell? (ad.add (i.toNat * 4 + j)) = some u := hc0
  obtain ⟨A2, c2, A3, c3, rfl, l2, g2, l3, g3⟩ := k29_open hK
  exact ⟨ad, A2, c2, A3, c3, e, hc 0 _ rfl, by rw [← add_field _ _ 1 (by omega)]; exact hc 1 _ rfl, by rw [← add_field _ _ 2 (by omega)]; exact hc 2 _ rfl, by rw [← add_field _ _ 3 (by omega)]; exact hc 3 _ rfl, l2, g2, l3, g3⟩

/-! #### struct type 34, nested in itself -/
structure S34 where
  f0 : Int
  f1 : Int
  f2 : (List Int)
  f3 : (List S34)
def z34 : S34 := ⟨(0 : Int), (0 : Int), ([] : List Int), ([] : List S34)⟩
def F34 (d : Kd S34) : Kd S34 := Kd.iso (Kd.pair (Kd.int .i64) (Kd.pair (Kd.int .i64) (Kd.pair (Kd.slice 3 (Kd.int .i64)) (Kd.slice 34 d)))) (fun x : S34 => (x.f0, x.f1, x.f2, x.f3))
theorem mono34 : Kd.Mono F34 := Kd.mono_iso _ (Kd.mono_pair (Kd.mono_const _) (Kd.mono_pair (Kd.mono_const _) (Kd.mono_pair (Kd.mono_const _) (Kd.mono_slice 34 Kd.mono_id))))
theorem sub34 : Kd.Sub F34 [3, 34] := Kd.sub_iso _ (Kd.sub_pair (Kd.sub_const _ (by decide)) (Kd.sub_pair (Kd.sub_const _ (by decide)) (Kd.sub_pair (Kd.sub_const _ (by decide)) (Kd.sub_slice 34 (by decide) Kd.sub_id))))
theorem sz34 : ∀ n, (Kd.upto F34 4 [3, 34] n).sz = 4 := Kd.upto_sz (fun _ => rfl)
def k34 : Kd S34 := Kd.fix F34 4 [3, 34] sz34 (Kd.upto_E sub34)
theorem k34_open {w : World} {x : S34} {cs : List Value} (h : k34.K w x cs) : ∃ A2 c2 A3 c3, cs = [.int .i64 x.f0, .int .i64 x.f1, .slice A2 x.f2.length c2, .slice A3 x.f3.length c3] ∧ x.f2.length ≤ c2 ∧ (Kd.int .i64).C w A2 x.f2.length x.f2 ∧ x.f3.length ≤ c3 ∧ k34.C w A3 x.f3.length x.f3 := by
  obtain ⟨n, h⟩ := h
  cases n with
  | zero => exact h.elim
  | succ n =>
    obtain ⟨_, _, rfl, rfl, ⟨_, _, rfl, rfl, ⟨_, _, rfl, ⟨A2, c2, rfl, l2, g2⟩, ⟨A3, c3, rfl, l3, g3⟩⟩⟩⟩ := h
    exact ⟨A2, c2, A3, c3, rfl, l2, g2, l3, Kd.fix_C g3⟩
theorem k34_openM {w : World} {base : Nat} {ok : Nat → Prop} {x : S34} {cs : List Value} (h : k34.M w base ok x cs) : ∃ v2 v3, cs = [.int .i64 x.f0, .int .i64 x.f1, v2, v3] ∧ (Kd.int .i64).R 3 w base ok v2 x.f2 ∧ k34.R 34 w base ok v3 x.f3 := by
  obtain ⟨n, h⟩ := h
  cases n with
  | zero => exact h.elim
  | succ n =>
    obtain ⟨_, _, rfl, rfl, ⟨_, _, rfl, rfl, ⟨_, _, rfl, ⟨v2, rfl, g2⟩, ⟨v3, rfl, g3⟩⟩⟩⟩ := h
    exact ⟨v2, v3, rfl, g2, Kd.fix_R g3⟩
theorem k34_mk (w : World) (x : S34) {A2 : Option Addr} {c2 : Nat} (l2 : x.f2.length ≤ c2) (g2 : (Kd.int .i64).C w A2 x.f2.length x.f2) {A3 : Option Addr} {c3 : Nat} (l3 : x.f3.length ≤ c3) (g3 : k34.C w A3 x.f3.length x.f3) : k34.K w x [.int .i64 x.f0, .int .i64 x.f1, .slice A2 x.f2.length c2, .slice A3 x.f3.length c3] := by
  obtain ⟨n3, q3⟩ := Kd.fix_C_back mono34 g3
  have r3 := Kd.upto_C_le mono34 sz34 (show n3 ≤ n3 by omega) q3
  exact ⟨n3 + 1, ⟨[.int .i64 x.f0], [.int .i64 x.f1, .slice A2 x.f2.length c2, .slice A3 x.f3.length c3], rfl, rfl, ⟨[.int .i64 x.f1], [.slice A2 x.f2.length c2, .slice A3 x.f3.length c3], rfl, rfl, ⟨[.slice A2 x.f2.length c2], [.slice A3 x.f3.length c3], rfl, ⟨A2, c2, rfl, l2, g2⟩, ⟨A3, c3, rfl, l3, r3⟩⟩⟩⟩⟩
theorem k34_mkM (w : World) (base : Nat) (ok : Nat → Prop) (x : S34) {v2 : Value} (g2 : (Kd.int .i64).R 3 w base ok v2 x.f2) {v3 : Value} (g3 : k34.R 34 w base ok v3 x.f3) : k34.M w base ok x [.int .i64 x.f0, .int .i64 x.f1, v2, v3] := by
  obtain ⟨n3, q3⟩ := Kd.fix_R_back mono34 g3
  have r3 := Kd.upto_R_le mono34 sz34 (show n3 ≤ n3 by omega) q3
  exact ⟨n3 + 1, ⟨[.int .i64 x.f0], [.int .i64 x.f1, v2, v3], rfl, rfl, ⟨[.int .i64 x.f1], [v2, v3], rfl, rfl, ⟨[v2], [v3], rfl, ⟨v2, rfl, g2⟩, ⟨v3, rfl, r3⟩⟩⟩⟩⟩
def rd_T34 (xs : List S34) (i : Int) : S34 := xs.getD i.toNat z34
theorem at_T34 {w : World} {A : Option Addr} {n : Nat} {xs : List S34} (h : Kd.C k34 w A n xs) (i : Int) (h0 : 0 ≤ i) (h1 : i < n) : ∃ ad A2 c2 A3 c3, A = some ad ∧ w.cell? (ad.add (i.toNat * 4)) = some (.int .i64 (rd_T34 xs i).f0) ∧ w.cell? ⟨(ad.add (i.toNat * 4)).block, (ad.add (i.toNat * 4)).off + 1, none⟩ = some (.int .i64 (rd_T34 xs i).f1) ∧ w.cell? ⟨(ad.add (i.toNat * 4)).block, (ad.add (i.toNat * 4)).off + 2, none⟩ = some (.slice A2 (rd_T34 xs i).f2.length c2) ∧ w.cell? ⟨(ad.add (i.toNat * 4)).block, (ad.add (i.toNat * 4)).off + 3, none⟩ = some (.slice A3 (rd_T34 xs i).f3.length c3) ∧ (rd_T34 xs i).f2.length ≤ c2 ∧ (Kd.int .i64).C w A2 (rd_T34 xs i).f2.length (rd_T34 xs i).f2 ∧ (rd_T34 xs i).f3.length ≤ c3 ∧ k34.C w A3 (rd_T34 xs i).f3.length (rd_T34 xs i).f3 := by
  obtain ⟨ad, c, e, _, hK, hc0⟩ := Kd.C_get h z34 i h0 h1
  have hc : ∀ j u, c[j]? = some u → w.cell? (ad.add (i.toNat * 4 + j)) = some u := hc0
  obtain ⟨A2, c2, A3, c3, rfl, l2, g2, l3, g3⟩ := k34_open hK
  exact ⟨ad, A2, c2, A3, c3, e, hc 0 _ rfl, by rw [← add_field _ _ 1 (by omega)]; exact hc 1 _ rfl, by rw [← add_field _ _ 2 (by omega)]; exact hc 2 _ rfl, by rw [← add_field _ _ 3 (by omega)]; exact hc 3 _ rfl, l2, g2, l3, g3⟩

/-! #### struct type 61 -/
structure S61 where
  f0 : ByteArray
  f1 : Int
  f2 : Bool
  f3 : Bool
def z61 : S61 := ⟨(⟨#[]⟩ : ByteArray), (0 : Int), false, false⟩
def k61 : Kd S61 := Kd.iso (Kd.pair Kd.string (Kd.pair (Kd.int .i64) (Kd.pair Kd.bool Kd.bool))) (fun x : S61 => (x.f0, x.f1, x.f2, x.f3))
theorem k61_open {w : World} {x : S61} {cs : List Value} (h : k61.K w x cs) : cs = [.string x.f0, .int .i64 x.f1, .bool x.f2, .bool x.f3] := by
  obtain ⟨_, _, rfl, rfl, ⟨_, _, rfl, rfl, ⟨_, _, rfl, rfl, rfl⟩⟩⟩ := h
  exact rfl
theorem k61_openM {w : World} {base : Nat} {ok : Nat → Prop} {x : S61} {cs : List Value} (h : k61.M w base ok x cs) : cs = [.string x.f0, .int .i64 x.f1, .bool x.f2, .bool x.f3] := by
  obtain ⟨_, _, rfl, rfl, ⟨_, _, rfl, rfl, ⟨_, _, rfl, rfl, rfl⟩⟩⟩ := h
  exact rfl
theorem k61_mk (w : World) (x : S61)  : k61.K w x [.string x.f0, .int .i64 x.f1, .bool x.f2, .bool x.f3] := ⟨[.string x.f0], [.int .i64 x.f1, .bool x.f2, .bool x.f3], rfl, rfl, ⟨[.int .i64 x.f1], [.bool x.f2, .bool x.f3], rfl, rfl, ⟨[.bool x.f2], [.bool x.f3], rfl, rfl, rfl⟩⟩⟩
theorem k61_mkM (w : World) (base : Nat) (ok : Nat → Prop) (x : S61)  : k61.M w base ok x [.string x.f0, .int .i64 x.f1, .bool x.f2, .bool x.f3] := ⟨[.string x.f0], [.int .i64 x.f1, .bool x.f2, .bool x.f3], rfl, rfl, ⟨[.int .i64 x.f1], [.bool x.f2, .bool x.f3], rfl, rfl, ⟨[.bool x.f2], [.bool x.f3], rfl, rfl, rfl⟩⟩⟩
def rd_T61 (xs : List S61) (i : Int) : S61 := xs.getD i.toNat z61
theorem at_T61 {w : World} {A : Option Addr} {n : Nat} {xs : List S61} (h : Kd.C k61 w A n xs) (i : Int) (h0 : 0 ≤ i) (h1 : i < n) : ∃ ad , A = some ad ∧ w.cell? (ad.add (i.toNat * 4)) = some (.string (rd_T61 xs i).f0) ∧ w.cell? ⟨(ad.add (i.toNat * 4)).block, (ad.add (i.toNat * 4)).off + 1, none⟩ = some (.int .i64 (rd_T61 xs i).f1) ∧ w.cell? ⟨(ad.add (i.toNat * 4)).block, (ad.add (i.toNat * 4)).off + 2, none⟩ = some (.bool (rd_T61 xs i).f2) ∧ w.cell? ⟨(ad.add (i.toNat * 4)).block, (ad.add (i.toNat * 4)).off + 3, none⟩ = some (.bool (rd_T61 xs i).f3) := by
  obtain ⟨ad, c, e, _, hK, hc0⟩ := Kd.C_get h z61 i h0 h1
  have hc : ∀ j u, c[j]? = some u → w.cell? (ad.add (i.toNat * 4 + j)) = some u := hc0
  obtain rfl := k61_open hK
  exact ⟨ad, e, hc 0 _ rfl, by rw [← add_field _ _ 1 (by omega)]; exact hc 1 _ rfl, by rw [← add_field _ _ 2 (by omega)]; exact hc 2 _ rfl, by rw [← add_field _ _ 3 (by omega)]; exact hc 3 _ rfl⟩

inductive Wf29 : S29 → Prop
  | mk (f0 : Int) (f1 : Int) (f2 : List Int) (f3 : List (S29)) : (Lit.int .i64 f0).wf = true → (Lit.int .i64 f1).wf = true → ((∀ z ∈ f2, (Lit.int .i64 z).wf = true) ∧ f2.length ≤ maxLen) → (∀ z ∈ f3, Wf29 z) → f3.length ≤ maxLen → Wf29 ⟨f0, f1, f2, f3⟩
theorem Wf29.out {y : S29} (h : Wf29 y) : (Lit.int .i64 y.f0).wf = true ∧ (Lit.int .i64 y.f1).wf = true ∧ ((∀ z ∈ y.f2, (Lit.int .i64 z).wf = true) ∧ y.f2.length ≤ maxLen) ∧ ((∀ z ∈ y.f3, Wf29 z) ∧ y.f3.length ≤ maxLen) := by
  cases h with
  | mk _ _ _ _ h0 h1 h2 h3 m3 => exact ⟨h0, h1, h2, ⟨h3, m3⟩⟩
/-! A region that draws its order, whose operations read and whose calls make: one walk, in the text's order, over all worlds that lie behind the one at its head. -/
section
variable {P : Program} {ops : Array Oper} {C : World → Prop} {Q : Act → Prop} {o : Oper} {rest : List Oper} {a : Act}
structure QW (P : Program) (ops : Array Oper) (C : World → Prop) (Q : Act → Prop) (l : List Oper) (a : Act) : Prop where
  out : wpQuiet P ops C Q l a
theorem qb_region {id : Nat} {l : List Oper} {Q : Exit → Act → World → Prop} {w : World} (hm : P.follows .mixedOrders = true) (hB : Region.lexB .any l.toArray = true)
    (h : QW P l.toArray (fun w' => Below w.heap.size w w') (fun a' => ∀ w', Below w.heap.size w w' → Q .normal a' w') l a) : (Code.region id l.toArray true).wp P Q a w :=
  wp_region_quiet hm hB (show Below w.heap.size w w.drew from below_drew (Below.refl _ _)) h.out
theorem qb_nil (h : Q a) : QW P ops C Q [] a := ⟨wpQuiet_nil h⟩
theorem qb_skip (a' : Act) (hw : Region.wanted o (yielded ops a.tmps) = false) (ha : a.put o.dst undef = a') (h : QW P ops C Q rest a') : QW P ops C Q (o :: rest) a := by
  replace h := h.out
  refine ⟨?_⟩
  subst ha
  simp only [wpQuiet, hw]
  exact h
theorem qb_val (v : Value) (a' : Act) (hw : Region.wanted o (yielded ops a.tmps) = true) (hr : ∀ w', C w' → (execOp a.eval o).run P w' = .ok (.value v) w') (ha : a.put o.dst v = a') (h : QW P ops C Q rest a') : QW P ops C Q (o :: rest) a := by
  replace h := h.out
  refine ⟨?_⟩
  subst ha
  simp only [wpQuiet, hw, if_true]
  refine ⟨v, fun w' hc => ?_, h⟩
  unfold Oper.quietAt
  rw [hr w' hc]
  exact ⟨rfl, rfl⟩
theorem qb_callN (N : Tmp) (_ : o.dst = some N) (h : QW P ops C Q (o :: rest) a) : QW P ops C Q (o :: rest) a := h
theorem qb_callA (N : Tmp) (hd : o.dst = some N) {f : FuncId} {fn : Func} {us : Array Operand} {ts : Array TypeId} (hf : P.funcs[f]? = some fn) (hname : (fn.name == "runtime.NumGoroutine") = false) (hb : fn.body.isSome = true) {args : Array Value}
    (hop : o.op = .call { callee := .value (.func f), args := us, argTypes := ts }) (v : Value) (a' : Act) (hw : Region.wanted o (yielded ops a.tmps) = true) (hc : ∀ w', C w' → Calls P f args w' fun e w'' => e = .returned v ∧ C w'') (hargs : us.map a.eval = args) (ha : a.put (some N) v = a') (h : QW P ops C Q rest a') : QW P ops C Q (o :: rest) a := by
  replace h := h.out
  refine ⟨?_⟩
  subst ha
  simp only [wpQuiet, hw, if_true]
  refine ⟨v, fun w' hcw => ?_, by rw [hd]; exact h⟩
  unfold Oper.quietAt
  have he := enters_ hf hname hb args w'
  have hrun : (execOp a.eval o).run P w' = .ok (.enter f args) w' := by
    unfold execOp
    simp [hop, resolve, Deferred.ofValue, invoke, Act.eval, hargs, he]
  rw [hrun]
  exact ⟨rfl, hc w' hcw⟩
theorem qb_call (N : Tmp) (hd : o.dst = some N) {f : FuncId} {fn : Func} {us : Array Operand} {ts : Array TypeId} (hf : P.funcs[f]? = some fn) (hname : (fn.name == "runtime.NumGoroutine") = false) (hb : fn.body.isSome = true) {args : Array Value}
    (hop : o.op = .call { callee := .value (.func f), args := us, argTypes := ts }) (v : Value) (a' : Act) (hw : Region.wanted o (yielded ops a.tmps) = true) (hc : ∀ w', C w' → Calls P f args w' fun e w'' => e = .returned v ∧ C w'') (hargs : us.toList.map a.eval = args.toList) (ha : a.put (some N) v = a') (h : QW P ops C Q rest a') : QW P ops C Q (o :: rest) a :=
  qb_callA N hd hf hname hb hop v a' hw hc (by rw [← Array.toList_inj, Array.toList_map]; exact hargs) ha h
theorem qb_b {f : FuncId} {args : Array Value} {w0 w : World} {v : Value} (hb : Below w0.heap.size w0 w) (h : Calls P f args w fun e w' => e = .returned v ∧ Below w.heap.size w w') : Calls P f args w fun e w'' => e = .returned v ∧ Below w0.heap.size w0 w'' :=
  h.mono fun _ _ h_ => ⟨h_.1, below_step hb h_.2⟩
theorem qb_d {f : FuncId} {args : Array Value} {w0 w : World} {v : Value} (hb : Below w0.heap.size w0 w) (h : Calls P f args w fun e w' => e = .returned v ∧ Drawn0 w w') : Calls P f args w fun e w'' => e = .returned v ∧ Below w0.heap.size w0 w'' :=
  h.mono fun _ _ h_ => ⟨h_.1, below_step hb h_.2.below⟩
end

def OFn (K : Nat) : Prop := ∃ fn, Tryd.prog.funcs[K]? = some fn ∧ (fn.name == "runtime.NumGoroutine") = false ∧ fn.body.isSome = true
theorem OFn.run {K : Nat} (h : OFn K) (xs : Array Value) (w : World) : Sem.run Tryd.prog (callFunc K xs) w = .ok (.enter K xs) w := by
  obtain ⟨fn, hf, hname, hb⟩ := h
  exact enters_ hf hname hb xs w
theorem below_steps_1 {a b c : World} (h : Below a.heap.size a b) (h1 : Below b.heap.size b c) : Below a.heap.size a c := below_step h h1
theorem below_steps_2 {a b c d : World} (h : Below a.heap.size a b) (h1 : Below b.heap.size b c) (h2 : Below c.heap.size c d) : Below a.heap.size a d := below_step (below_step h h1) h2
theorem gate_calleeO {P : Program} {ops : Array Oper} {o : Oper} {rest : List Oper} {a : Act} {Q : Exit → Act → World → Prop} {W : World} {t : Tmp} {us : Array Operand} {ts : Array TypeId} (_ho : o.op = .call { callee := .value (.tmp t), args := us, argTypes := ts }) (h : wpList P ops Q (o :: rest) a W) : wpList P ops Q (o :: rest) a W := h
theorem goesO_run {oi : Oper} {a : Act} {w : World} {f : Nat} {F C : Array Value} {t : Tmp} {us : Array Operand} {ts : Array TypeId} (hG : OFn f) (args : Array Value)
    (hop : oi.op = .call { callee := .value (.tmp t), args := us, argTypes := ts }) (hargs : us.map a.eval = args) (hv : a.eval (.tmp t) = .func (.func f) F C) :
    (execOp a.eval oi).run Tryd.prog w = .ok (.enter f (F ++ args ++ C)) w := by
  obtain ⟨fn, hf, hname, hb⟩ := hG
  have he := enters_ hf hname hb (F ++ args ++ C) w
  have e1 : a.tmps.getD t undef = .func (.func f) F C := hv
  unfold execOp
  simp only [hop, resolve, Act.eval, e1]
  rw [Array.append_assoc] at he ⊢
  simp [Deferred.ofValue, invoke, hargs, he]
theorem goesO_ {ops : Array Oper} {Q : Exit → Act → World → Prop} {oi : Oper} {N : Option Tmp} {a : Act} {w : World} {K : Act → World → Prop} {f : Nat} {F C : Array Value} {t : Tmp} {us : Array Operand} {ts : Array TypeId} (hG : OFn f) (args : Array Value)
    (hw : Region.wanted oi (yielded ops a.tmps) = true) (hN : oi.dst = N) (hop : oi.op = .call { callee := .value (.tmp t), args := us, argTypes := ts }) (hargs : us.map a.eval = args) (hv : a.eval (.tmp t) = .func (.func f) F C)
    (h : Calls Tryd.prog f (F ++ args ++ C) w fun e w' => ∃ v, e = .returned v ∧ K (a.put N v) w') : if Region.wanted oi (yielded ops a.tmps) = true then Oper.wp Tryd.prog oi a w K Q else K (a.put N undef) w :=
  call_ f _ hw hN (goesO_run hG args hop hargs hv) h
theorem goesOL_ {ops : Array Oper} {Q : Exit → Act → World → Prop} {rest : List Oper} {oi : Oper} {a : Act} {w : World} (N : Option Tmp) (hd : oi.dst = N) (hg : oi.guard = none) {f : Nat} {F C : Array Value} {t : Tmp} {us : Array Operand} {ts : Array TypeId} (hG : OFn f) (args : Array Value)
    (hop : oi.op = .call { callee := .value (.tmp t), args := us, argTypes := ts }) (hargs : us.map a.eval = args) (hv : a.eval (.tmp t) = .func (.func f) F C)
    (h : Calls Tryd.prog f (F ++ args ++ C) w fun e w' => ∃ v, e = .returned v ∧ wpList Tryd.prog ops Q rest (a.put N v) w') : wpList Tryd.prog ops Q (oi :: rest) a w := by
  refine wpList_plain hg fun K hK => ?_
  have hrun := goesO_run (w := w) hG args hop hargs hv
  unfold Oper.wp
  rw [hrun, Oper.upon_enter]
  refine h.mono fun e w'' hh => ?_
  obtain ⟨v, rfl, hk⟩ := hh
  subst hd
  exact hK _ _ hk

abbrev OC26 (w0 : World) (fx : (List Int) → Option (Bool)) (K : Nat) (F C : Array Value) : Prop := ∀ (A0 : Option Addr) (c0 : Nat) (l0 : List Int) (r : Bool) (w : World) (hr0 : Kd.C (Kd.int .i64) w A0 l0.length l0) (hc0 : l0.length ≤ c0) (_ : Below w0.heap.size w0 w) (_ : fx l0 = some r),
    Calls Tryd.prog K (F ++ #[.slice A0 l0.length c0] ++ C) w fun e w' => e = .returned (.bool r) ∧ Below w.heap.size w w'
theorem OC26.step {w0 w1 : World} {fx : (List Int) → Option (Bool)} {K : Nat} {F C : Array Value} (h : OC26 w0 fx K F C) (hb : Below w0.heap.size w0 w1) : OC26 w1 fx K F C := by
  intro z0 z1 z2 z3 w h0 h1 hb2 he
  exact h z0 z1 z2 z3 w h0 h1 (below_step hb hb2) he

abbrev OC38 (w0 : World) (fx : Int → Option (Bool)) (K : Nat) (F C : Array Value) : Prop := ∀ (a0 : Int) (r : Bool) (w : World) (_ : Below w0.heap.size w0 w) (_ : fx a0 = some r),
    Calls Tryd.prog K (F ++ #[.int .i64 a0] ++ C) w fun e w' => e = .returned (.bool r) ∧ Below w.heap.size w w'
theorem OC38.step {w0 w1 : World} {fx : Int → Option (Bool)} {K : Nat} {F C : Array Value} (h : OC38 w0 fx K F C) (hb : Below w0.heap.size w0 w1) : OC38 w1 fx K F C := by
  intro z0 z1 w  hb2 he
  exact h z0 z1 w  (below_step hb hb2) he

/-! short words -/
theorem zf1_ {P Q A0_ : Prop} (h : P) (a0_ : A0_) (hs : A0_ → P → Q := by intro a0_ h_; repeat (first | (with_reducible first | exact h_ | refine blk_drewN ?_ _ | refine blk_drew ?_ | refine blk_alloc ?_ _) | refine blk_far ?_ (show _ ≠ _ from a0_) _)) : Q := hs a0_ h
theorem zf2_ {P Q A0_ A1_ : Prop} (h : P) (a0_ : A0_) (a1_ : A1_) (hs : A0_ → A1_ → P → Q := by intro a0_ a1_ h_; repeat (first | (with_reducible first | exact h_ | refine blk_drewN ?_ _ | refine blk_drew ?_ | refine blk_alloc ?_ _) | refine blk_far ?_ (show _ ≠ _ from a0_) _ | refine blk_far ?_ (show _ ≠ _ from a1_) _)) : Q := hs a0_ a1_ h
theorem zf3_ {P Q A0_ A1_ A2_ : Prop} (h : P) (a0_ : A0_) (a1_ : A1_) (a2_ : A2_) (hs : A0_ → A1_ → A2_ → P → Q := by intro a0_ a1_ a2_ h_; repeat (first | (with_reducible first | exact h_ | refine blk_drewN ?_ _ | refine blk_drew ?_ | refine blk_alloc ?_ _) | refine blk_far ?_ (show _ ≠ _ from a0_) _ | refine blk_far ?_ (show _ ≠ _ from a1_) _ | refine blk_far ?_ (show _ ≠ _ from a2_) _)) : Q := hs a0_ a1_ a2_ h
theorem zf4_ {P Q A0_ A1_ A2_ A3_ : Prop} (h : P) (a0_ : A0_) (a1_ : A1_) (a2_ : A2_) (a3_ : A3_) (hs : A0_ → A1_ → A2_ → A3_ → P → Q := by intro a0_ a1_ a2_ a3_ h_; repeat (first | (with_reducible first | exact h_ | refine blk_drewN ?_ _ | refine blk_drew ?_ | refine blk_alloc ?_ _) | refine blk_far ?_ (show _ ≠ _ from a0_) _ | refine blk_far ?_ (show _ ≠ _ from a1_) _ | refine blk_far ?_ (show _ ≠ _ from a2_) _ | refine blk_far ?_ (show _ ≠ _ from a3_) _)) : Q := hs a0_ a1_ a2_ a3_ h
theorem bc2_ {w : World} {g : Nat} {t : TypeId} {v0 v1 : Value} (h : w.heap[g]? = some (.cells #[v0, v1] t (0, 0))) : w.cell? ⟨g, 0, none⟩ = some v0 ∧ w.cell? ⟨g, 1, none⟩ = some v1 := ⟨(blk_cell h 0).trans rfl, (blk_cell h 1).trans rfl⟩
theorem bf2_ {w : World} {g : Nat} {t : TypeId} {v0 v1 : Value} (h : w.heap[g]? = some (.cells #[v0, v1] t (0, 0))) : w.cell? ⟨g, 0, none⟩ = some v0 ∧ w.cell? ⟨g, 1, none⟩ = some v1 ∧ w.frozen? ⟨g, 0, none⟩ = false ∧ w.frozen? ⟨g, 1, none⟩ = false := ⟨(blk_cell h 0).trans rfl, (blk_cell h 1).trans rfl, blk_frozen h 0, blk_frozen h 1⟩
theorem bc3_ {w : World} {g : Nat} {t : TypeId} {v0 v1 v2 : Value} (h : w.heap[g]? = some (.cells #[v0, v1, v2] t (0, 0))) : w.cell? ⟨g, 0, none⟩ = some v0 ∧ w.cell? ⟨g, 1, none⟩ = some v1 ∧ w.cell? ⟨g, 2, none⟩ = some v2 := ⟨(blk_cell h 0).trans rfl, (blk_cell h 1).trans rfl, (blk_cell h 2).trans rfl⟩
theorem bf3_ {w : World} {g : Nat} {t : TypeId} {v0 v1 v2 : Value} (h : w.heap[g]? = some (.cells #[v0, v1, v2] t (0, 0))) : w.cell? ⟨g, 0, none⟩ = some v0 ∧ w.cell? ⟨g, 1, none⟩ = some v1 ∧ w.cell? ⟨g, 2, none⟩ = some v2 ∧ w.frozen? ⟨g, 0, none⟩ = false ∧ w.frozen? ⟨g, 1, none⟩ = false ∧ w.frozen? ⟨g, 2, none⟩ = false := ⟨(blk_cell h 0).trans rfl, (blk_cell h 1).trans rfl, (blk_cell h 2).trans rfl, blk_frozen h 0, blk_frozen h 1, blk_frozen h 2⟩
theorem bc4_ {w : World} {g : Nat} {t : TypeId} {v0 v1 v2 v3 : Value} (h : w.heap[g]? = some (.cells #[v0, v1, v2, v3] t (0, 0))) : w.cell? ⟨g, 0, none⟩ = some v0 ∧ w.cell? ⟨g, 1, none⟩ = some v1 ∧ w.cell? ⟨g, 2, none⟩ = some v2 ∧ w.cell? ⟨g, 3, none⟩ = some v3 := ⟨(blk_cell h 0).trans rfl, (blk_cell h 1).trans rfl, (blk_cell h 2).trans rfl, (blk_cell h 3).trans rfl⟩
theorem bf4_ {w : World} {g : Nat} {t : TypeId} {v0 v1 v2 v3 : Value} (h : w.heap[g]? = some (.cells #[v0, v1, v2, v3] t (0, 0))) : w.cell? ⟨g, 0, none⟩ = some v0 ∧ w.cell? ⟨g, 1, none⟩ = some v1 ∧ w.cell? ⟨g, 2, none⟩ = some v2 ∧ w.cell? ⟨g, 3, none⟩ = some v3 ∧ w.frozen? ⟨g, 0, none⟩ = false ∧ w.frozen? ⟨g, 1, none⟩ = false ∧ w.frozen? ⟨g, 2, none⟩ = false ∧ w.frozen? ⟨g, 3, none⟩ = false := ⟨(blk_cell h 0).trans rfl, (blk_cell h 1).trans rfl, (blk_cell h 2).trans rfl, (blk_cell h 3).trans rfl, blk_frozen h 0, blk_frozen h 1, blk_frozen h 2, blk_frozen h 3⟩
theorem bc5_ {w : World} {g : Nat} {t : TypeId} {v0 v1 v2 v3 v4 : Value} (h : w.heap[g]? = some (.cells #[v0, v1, v2, v3, v4] t (0, 0))) : w.cell? ⟨g, 0, none⟩ = some v0 ∧ w.cell? ⟨g, 1, none⟩ = some v1 ∧ w.cell? ⟨g, 2, none⟩ = some v2 ∧ w.cell? ⟨g, 3, none⟩ = some v3 ∧ w.cell? ⟨g, 4, none⟩ = some v4 := ⟨(blk_cell h 0).trans rfl, (blk_cell h 1).trans rfl, (blk_cell h 2).trans rfl, (blk_cell h 3).trans rfl, (blk_cell h 4).trans rfl⟩
theorem bf5_ {w : World} {g : Nat} {t : TypeId} {v0 v1 v2 v3 v4 : Value} (h : w.heap[g]? = some (.cells #[v0, v1, v2, v3, v4] t (0, 0))) : w.cell? ⟨g, 0, none⟩ = some v0 ∧ w.cell? ⟨g, 1, none⟩ = some v1 ∧ w.cell? ⟨g, 2, none⟩ = some v2 ∧ w.cell? ⟨g, 3, none⟩ = some v3 ∧ w.cell? ⟨g, 4, none⟩ = some v4 ∧ w.frozen? ⟨g, 0, none⟩ = false ∧ w.frozen? ⟨g, 1, none⟩ = false ∧ w.frozen? ⟨g, 2, none⟩ = false ∧ w.frozen? ⟨g, 3, none⟩ = false ∧ w.frozen? ⟨g, 4, none⟩ = false := ⟨(blk_cell h 0).trans rfl, (blk_cell h 1).trans rfl, (blk_cell h 2).trans rfl, (blk_cell h 3).trans rfl, (blk_cell h 4).trans rfl, blk_frozen h 0, blk_frozen h 1, blk_frozen h 2, blk_frozen h 3, blk_frozen h 4⟩
theorem bc6_ {w : World} {g : Nat} {t : TypeId} {v0 v1 v2 v3 v4 v5 : Value} (h : w.heap[g]? = some (.cells #[v0, v1, v2, v3, v4, v5] t (0, 0))) : w.cell? ⟨g, 0, none⟩ = some v0 ∧ w.cell? ⟨g, 1, none⟩ = some v1 ∧ w.cell? ⟨g, 2, none⟩ = some v2 ∧ w.cell? ⟨g, 3, none⟩ = some v3 ∧ w.cell? ⟨g, 4, none⟩ = some v4 ∧ w.cell? ⟨g, 5, none⟩ = some v5 := ⟨(blk_cell h 0).trans rfl, (blk_cell h 1).trans rfl, (blk_cell h 2).trans rfl, (blk_cell h 3).trans rfl, (blk_cell h 4).trans rfl, (blk_cell h 5).trans rfl⟩
theorem bf6_ {w : World} {g : Nat} {t : TypeId} {v0 v1 v2 v3 v4 v5 : Value} (h : w.heap[g]? = some (.cells #[v0, v1, v2, v3, v4, v5] t (0, 0))) : w.cell? ⟨g, 0, none⟩ = some v0 ∧ w.cell? ⟨g, 1, none⟩ = some v1 ∧ w.cell? ⟨g, 2, none⟩ = some v2 ∧ w.cell? ⟨g, 3, none⟩ = some v3 ∧ w.cell? ⟨g, 4, none⟩ = some v4 ∧ w.cell? ⟨g, 5, none⟩ = some v5 ∧ w.frozen? ⟨g, 0, none⟩ = false ∧ w.frozen? ⟨g, 1, none⟩ = false ∧ w.frozen? ⟨g, 2, none⟩ = false ∧ w.frozen? ⟨g, 3, none⟩ = false ∧ w.frozen? ⟨g, 4, none⟩ = false ∧ w.frozen? ⟨g, 5, none⟩ = false := ⟨(blk_cell h 0).trans rfl, (blk_cell h 1).trans rfl, (blk_cell h 2).trans rfl, (blk_cell h 3).trans rfl, (blk_cell h 4).trans rfl, (blk_cell h 5).trans rfl, blk_frozen h 0, blk_frozen h 1, blk_frozen h 2, blk_frozen h 3, blk_frozen h 4, blk_frozen h 5⟩
theorem rf_ {α : Type} {d : Kd α} {e base g t : Nat} {w w2 : World} {ok : Nat → Prop} {v : Value} {xs : List α} {cells : Array Value} (h : d.R e w base ok v xs) (hb : w.heap[g]? = some (.cells cells t (0, 0))) (ht : ∀ q, q ∈ e :: d.E → q ≠ t := by decide) (hs : d.R e w base (fun k => ok k ∧ k ≠ g) v xs → d.R e w2 base (fun k => ok k ∧ k ≠ g) v xs := by intro h_; repeat (first | exact h_ | refine Kd.R_far ?_ (fun _ hk => hk.2) _)) : d.R e w2 base ok v xs := Kd.R_mono (hs (Kd.R_types h hb ht)) (fun _ h_ => h_.1)
theorem gs_ {w W : World} {g : Nat} (hg : g = W.heap.size) (h : Below w.heap.size w W) : w.heap.size ≤ g := by rw [hg]; exact below_size h
theorem nl_ {a b n : Nat} (hg : b = n) (h : a < n) : a ≠ b := by omega
theorem ng_ {a b n : Nat} (hg : b = n) (h : a < n) : b ≠ a := by omega
theorem bx_ {P : Program} {ops : Array Oper} {rest : List Oper} {o : Oper} {a : Act} {Q : Exit → Act → World → Prop} {W : World} {N : Tmp} {cs : Array Value} {t : TypeId} (h : ∀ g, g = W.heap.size → ∀ w1, w1.heap[g]? = some (.cells cs t (0, 0)) → Below W.heap.size W w1 → wpList P ops Q rest (a.put o.dst (.pointer (some ⟨g, 0, none⟩))) w1) (hgd : o.guard = none := by rfl) (hd : o.dst = some N := by rfl) (hrun : (execOp a.eval o).run P W = .ok (.value (.pointer (some ⟨W.heap.size, 0, none⟩))) (W.alloc (.cells cs t (0, 0))) := by first | (go_simp; done) | (go_simp; rfl)) : wpList P ops Q (o :: rest) a W := box_event hgd hd hrun h
theorem la_ {α : Type} {a b : α} (h : a = b := by (try simp only [List.map_toArray, List.map_cons, List.map_nil]); first | done | rfl | (simp only [List.length_drop, List.length_take]; rfl)) : a = b := h
theorem sm_ {p : Prop} (h : p := by first | rfl | (simp; done) | (simp [*]; done)) : p := h
theorem dt_ {p : Prop} [Decidable p] (h : decide p = true := by first | (with_reducible assumption) | assumption) : p := of_decide_eq_true h
theorem an_ {p : Prop} (h : p := by first | rfl | (simp [errW_none, errW_some] <;> rfl) | (simp [*, errW_none, errW_some] <;> rfl)) : p := h
theorem sd_ {p : Prop} (h : p) : Aside0 p := ⟨h⟩
theorem kp_ {P Q : Prop} (h : P) (hs : P → Q := by intro h_; repeat (first | exact h_ | (with_reducible refine Kd.C_alloc ?_ _) | (with_reducible refine Kd.C_drewN ?_ _) | (with_reducible refine Kd.C_drew ?_))) : Q := hs h
theorem kc_ {α : Type} {d : Kd α} {w w1 w2 : World} {A : Option Addr} {n : Nat} {xs : List α} (h : d.C w A n xs) (hb : Below w.heap.size w w1) (hs : d.C w1 A n xs → d.C w2 A n xs := by intro h_; repeat (first | exact h_ | (with_reducible refine Kd.C_alloc ?_ _) | (with_reducible refine Kd.C_drewN ?_ _) | (with_reducible refine Kd.C_drew ?_))) : d.C w2 A n xs := hs (Kd.C_below h hb)
theorem bz_ {w w1 : World} {g : Nat} {o : Obj} (h : w.heap[g]? = some o) (hs : w.heap[g]? = some o → w1.heap[g]? = some o := by intro h_; (with_reducible repeat (first | refine blk_drewN ?_ _ | refine blk_drew ?_ | refine blk_alloc ?_ _)); exact h_) : w1.heap[g]? = some o := hs h
theorem bb_ {w w1 w2 : World} {g : Nat} {o : Obj} (h : w.heap[g]? = some o) (hb : Below w1.heap.size w1 w2) (hs : w.heap[g]? = some o → w1.heap[g]? = some o := by intro h_; (with_reducible repeat (first | refine blk_drewN ?_ _ | refine blk_drew ?_ | refine blk_alloc ?_ _)); exact h_) : w2.heap[g]? = some o := blk_below (hs h) hb
theorem bl_ {w w1 : World} {g : Nat} {o : Obj} (h : w.heap[g]? = some o) (hs : w.heap[g]? = some o → w1.heap[g]? = some o := by intro h_; (with_reducible repeat (first | refine blk_drewN ?_ _ | refine blk_drew ?_ | refine blk_alloc ?_ _)); exact h_) : g < w1.heap.size := blk_lt (hs h)
theorem ro_ {P Q : Prop} (h : P) (hs : P → Q := by intro h_; (with_reducible repeat (first | apply Kd.R_alloc | apply Kd.R_drewN | apply Kd.R_drew)); exact h_) : Q := hs h
theorem bw0_ {w w1 w2 : World} (h : Below w.heap.size w w1)  (hs : Below w.heap.size w w1 → Below w.heap.size w w2 := by intro  h_; repeat (first | (with_reducible first | exact h_ | apply below_alloc | apply pw_below_drewN | apply below_drew1) | exact h_)) : Below w.heap.size w w2 := hs  h
theorem bw1_ {w w1 w2 : World} {b0_ : Nat} (h : Below w.heap.size w w1) (g0_ : w.heap.size ≤ b0_) (hs : w.heap.size ≤ b0_ → Below w.heap.size w w1 → Below w.heap.size w w2 := by intro g0_ h_; repeat (first | (with_reducible first | exact h_ | apply below_alloc | apply pw_below_drewN | apply below_drew1 | refine below_set ?_ g0_) | exact h_)) : Below w.heap.size w w2 := hs g0_ h
theorem bw2_ {w w1 w2 : World} {b0_ b1_ : Nat} (h : Below w.heap.size w w1) (g0_ : w.heap.size ≤ b0_) (g1_ : w.heap.size ≤ b1_) (hs : w.heap.size ≤ b0_ → w.heap.size ≤ b1_ → Below w.heap.size w w1 → Below w.heap.size w w2 := by intro g0_ g1_ h_; repeat (first | (with_reducible first | exact h_ | apply below_alloc | apply pw_below_drewN | apply below_drew1 | refine below_set ?_ g0_ | refine below_set ?_ g1_) | exact h_)) : Below w.heap.size w w2 := hs g0_ g1_ h
theorem bw3_ {w w1 w2 : World} {b0_ b1_ b2_ : Nat} (h : Below w.heap.size w w1) (g0_ : w.heap.size ≤ b0_) (g1_ : w.heap.size ≤ b1_) (g2_ : w.heap.size ≤ b2_) (hs : w.heap.size ≤ b0_ → w.heap.size ≤ b1_ → w.heap.size ≤ b2_ → Below w.heap.size w w1 → Below w.heap.size w w2 := by intro g0_ g1_ g2_ h_; repeat (first | (with_reducible first | exact h_ | apply below_alloc | apply pw_below_drewN | apply below_drew1 | refine below_set ?_ g0_ | refine below_set ?_ g1_ | refine below_set ?_ g2_) | exact h_)) : Below w.heap.size w w2 := hs g0_ g1_ g2_ h
theorem bw4_ {w w1 w2 : World} {b0_ b1_ b2_ b3_ : Nat} (h : Below w.heap.size w w1) (g0_ : w.heap.size ≤ b0_) (g1_ : w.heap.size ≤ b1_) (g2_ : w.heap.size ≤ b2_) (g3_ : w.heap.size ≤ b3_) (hs : w.heap.size ≤ b0_ → w.heap.size ≤ b1_ → w.heap.size ≤ b2_ → w.heap.size ≤ b3_ → Below w.heap.size w w1 → Below w.heap.size w w2 := by intro g0_ g1_ g2_ g3_ h_; repeat (first | (with_reducible first | exact h_ | apply below_alloc | apply pw_below_drewN | apply below_drew1 | refine below_set ?_ g0_ | refine below_set ?_ g1_ | refine below_set ?_ g2_ | refine below_set ?_ g3_) | exact h_)) : Below w.heap.size w w2 := hs g0_ g1_ g2_ g3_ h
theorem bw5_ {w w1 w2 : World} {b0_ b1_ b2_ b3_ b4_ : Nat} (h : Below w.heap.size w w1) (g0_ : w.heap.size ≤ b0_) (g1_ : w.heap.size ≤ b1_) (g2_ : w.heap.size ≤ b2_) (g3_ : w.heap.size ≤ b3_) (g4_ : w.heap.size ≤ b4_) (hs : w.heap.size ≤ b0_ → w.heap.size ≤ b1_ → w.heap.size ≤ b2_ → w.heap.size ≤ b3_ → w.heap.size ≤ b4_ → Below w.heap.size w w1 → Below w.heap.size w w2 := by intro g0_ g1_ g2_ g3_ g4_ h_; repeat (first | (with_reducible first | exact h_ | apply below_alloc | apply pw_below_drewN | apply below_drew1 | refine below_set ?_ g0_ | refine below_set ?_ g1_ | refine below_set ?_ g2_ | refine below_set ?_ g3_ | refine below_set ?_ g4_) | exact h_)) : Below w.heap.size w w2 := hs g0_ g1_ g2_ g3_ g4_ h
theorem bw6_ {w w1 w2 : World} {b0_ b1_ b2_ b3_ b4_ b5_ : Nat} (h : Below w.heap.size w w1) (g0_ : w.heap.size ≤ b0_) (g1_ : w.heap.size ≤ b1_) (g2_ : w.heap.size ≤ b2_) (g3_ : w.heap.size ≤ b3_) (g4_ : w.heap.size ≤ b4_) (g5_ : w.heap.size ≤ b5_) (hs : w.heap.size ≤ b0_ → w.heap.size ≤ b1_ → w.heap.size ≤ b2_ → w.heap.size ≤ b3_ → w.heap.size ≤ b4_ → w.heap.size ≤ b5_ → Below w.heap.size w w1 → Below w.heap.size w w2 := by intro g0_ g1_ g2_ g3_ g4_ g5_ h_; repeat (first | (with_reducible first | exact h_ | apply below_alloc | apply pw_below_drewN | apply below_drew1 | refine below_set ?_ g0_ | refine below_set ?_ g1_ | refine below_set ?_ g2_ | refine below_set ?_ g3_ | refine below_set ?_ g4_ | refine below_set ?_ g5_) | exact h_)) : Below w.heap.size w w2 := hs g0_ g1_ g2_ g3_ g4_ g5_ h
theorem bw7_ {w w1 w2 : World} {b0_ b1_ b2_ b3_ b4_ b5_ b6_ : Nat} (h : Below w.heap.size w w1) (g0_ : w.heap.size ≤ b0_) (g1_ : w.heap.size ≤ b1_) (g2_ : w.heap.size ≤ b2_) (g3_ : w.heap.size ≤ b3_) (g4_ : w.heap.size ≤ b4_) (g5_ : w.heap.size ≤ b5_) (g6_ : w.heap.size ≤ b6_) (hs : w.heap.size ≤ b0_ → w.heap.size ≤ b1_ → w.heap.size ≤ b2_ → w.heap.size ≤ b3_ → w.heap.size ≤ b4_ → w.heap.size ≤ b5_ → w.heap.size ≤ b6_ → Below w.heap.size w w1 → Below w.heap.size w w2 := by intro g0_ g1_ g2_ g3_ g4_ g5_ g6_ h_; repeat (first | (with_reducible first | exact h_ | apply below_alloc | apply pw_below_drewN | apply below_drew1 | refine below_set ?_ g0_ | refine below_set ?_ g1_ | refine below_set ?_ g2_ | refine below_set ?_ g3_ | refine below_set ?_ g4_ | refine below_set ?_ g5_ | refine below_set ?_ g6_) | exact h_)) : Below w.heap.size w w2 := hs g0_ g1_ g2_ g3_ g4_ g5_ g6_ h
theorem bw8_ {w w1 w2 : World} {b0_ b1_ b2_ b3_ b4_ b5_ b6_ b7_ : Nat} (h : Below w.heap.size w w1) (g0_ : w.heap.size ≤ b0_) (g1_ : w.heap.size ≤ b1_) (g2_ : w.heap.size ≤ b2_) (g3_ : w.heap.size ≤ b3_) (g4_ : w.heap.size ≤ b4_) (g5_ : w.heap.size ≤ b5_) (g6_ : w.heap.size ≤ b6_) (g7_ : w.heap.size ≤ b7_) (hs : w.heap.size ≤ b0_ → w.heap.size ≤ b1_ → w.heap.size ≤ b2_ → w.heap.size ≤ b3_ → w.heap.size ≤ b4_ → w.heap.size ≤ b5_ → w.heap.size ≤ b6_ → w.heap.size ≤ b7_ → Below w.heap.size w w1 → Below w.heap.size w w2 := by intro g0_ g1_ g2_ g3_ g4_ g5_ g6_ g7_ h_; repeat (first | (with_reducible first | exact h_ | apply below_alloc | apply pw_below_drewN | apply below_drew1 | refine below_set ?_ g0_ | refine below_set ?_ g1_ | refine below_set ?_ g2_ | refine below_set ?_ g3_ | refine below_set ?_ g4_ | refine below_set ?_ g5_ | refine below_set ?_ g6_ | refine below_set ?_ g7_) | exact h_)) : Below w.heap.size w w2 := hs g0_ g1_ g2_ g3_ g4_ g5_ g6_ g7_ h
end Go.Proofs.YtlhiacnmcckjgaaDoor.P
end

section
/- How what a law is handed reads as a value of the printed kinds: whole numbers, bools, strings, slices, structs. -/
namespace Go.Proofs.YtlhiacnmcckjgaaDoor.P
open Go.RowKit Go.Proofs.YtlhiacnmcckjgaaDoorW.PrintWords Go.Proofs.YtlhiacnmcckjgaaDoorW.PrintLast Go.Proofs.YtlhiacnmcckjgaaDoorW.PrintMore

/-- What reads as data of type t holds a value of the kind d. -/
def Opens {α : Type} (t : TypeId) (d : Kd α) (wf : α → Prop) : Prop :=
  ∀ (H : Type) (enc : TypeId × Value → H) (w : World) (fuel : Nat) (cs : List Value) (x : DataW H × List MemPlace),
    DataW.trod enc Tryd.prog w 0 (fun _ => true) true fuel t cs = some x → ∃ y : α, d.K w y cs ∧ wf y

theorem opens_int {t : TypeId} {k : IntKind} (hu : Tryd.prog.underlying t = some (.int k)) : Opens t (Kd.int k) (fun n => (Lit.int k n).wf = true) := by
  intro H enc w fuel cs x h
  obtain ⟨n, rfl, _, hw⟩ := DataW.trod_int hu h
  exact ⟨n, rfl, hw⟩
theorem opens_bool {t : TypeId} (hu : Tryd.prog.underlying t = some .bool) : Opens t Kd.bool (fun _ => True) := by
  intro H enc w fuel cs x h
  obtain ⟨n, rfl, _⟩ := DataW.trod_bool hu h
  exact ⟨n, rfl, trivial⟩
theorem opens_string {t : TypeId} (hu : Tryd.prog.underlying t = some .string) : Opens t Kd.string (fun s => s.size ≤ maxLen) := by
  intro H enc w fuel cs x h
  obtain ⟨n, rfl, _, hw⟩ := DataW.trod_string hu h
  exact ⟨n, rfl, hw⟩

theorem list_of {α : Type} (n : Nat) {p : Nat → α → Prop} (h : ∀ i, i < n → ∃ a, p i a) : ∃ l : List α, l.length = n ∧ ∀ i a, l[i]? = some a → p i a := by
  induction n with
  | zero => exact ⟨[], rfl, fun i a h => by simp at h⟩
  | succ n ih =>
    obtain ⟨l, hl, hp⟩ := ih (fun i hi => h i (by omega))
    obtain ⟨a, ha⟩ := h n (by omega)
    refine ⟨l ++ [a], by simp [hl], fun i b hb => ?_⟩
    rcases Nat.lt_or_ge i l.length with hi | hi
    · rw [List.getElem?_append_left hi] at hb
      exact hp i b hb
    · rw [List.getElem?_append_right hi] at hb
      have hi2 : i - l.length = 0 := by
        have := (List.getElem?_eq_some_iff.1 hb).1
        simp at this
        omega
      rw [hi2] at hb
      simp at hb
      subst hb
      rw [show i = n by omega]
      exact ha

/-- A slice's elements, each read with less fuel. -/
theorem slice_opens {α : Type} {t e : TypeId} {d : Kd α} {wf : α → Prop} (hu : Tryd.prog.underlying t = some (.slice e)) (hc : Tryd.prog.cellsOf e = d.sz) {H : Type} {enc : TypeId × Value → H} {w : World} {fuel : Nat} {cs : List Value} {x : DataW H × List MemPlace}
    (h : DataW.trod enc Tryd.prog w 0 (fun _ => true) true fuel t cs = some x)
    (he : ∀ n cs y, n < fuel → DataW.trod enc Tryd.prog w 0 (fun _ => true) true n e cs = some y → ∃ z : α, d.K w z cs ∧ wf z) :
    ∃ l : List α, (Kd.slice e d).K w l cs ∧ (∀ z ∈ l, wf z) ∧ l.length ≤ maxLen := by
  rcases DataW.trod_slice hu h with ⟨rfl, _⟩ | ⟨a, len, cap, elems, rest, n, rfl, rfl, _, _, hl, hm, hlen, hel, _⟩
  · exact ⟨[], ⟨none, 0, rfl, Nat.le_refl _, by exact Kd.C_nil _ _⟩, by simp, by simp⟩
  · obtain ⟨l, hll, hp⟩ := list_of (α := α) len (p := fun i z => wf z ∧ ∃ c, c.length = d.sz ∧ d.K w z c ∧ ∀ j u, c[j]? = some u → w.cell? (a.add (i * d.sz + j)) = some u) (fun i hi => by
      have h1 := hel i hi
      rw [List.getElem?_eq_getElem (by omega)] at h1
      obtain ⟨c, hc1, hc2⟩ := Option.bind_eq_some_iff.1 h1
      obtain ⟨z, hz, hwz⟩ := he n c _ (by omega) hc2
      obtain ⟨_, hlc, hcell⟩ := World.cells?_some hc1
      rw [hc] at hlc hcell
      refine ⟨z, hwz, c, hlc, hz, fun j u hu2 => ?_⟩
      have hj : j < d.sz := by have := (List.getElem?_eq_some_iff.1 hu2).1; omega
      have h2 := hcell j hj
      rw [hu2, Addr.add_add] at h2
      exact h2)
    refine ⟨l, ⟨some a, cap, by rw [hll], by omega, ?_⟩, fun z hz => ?_, by omega⟩
    · refine ⟨rfl, by rw [hll]; unfold maxLen at hm; omega, fun _ => ⟨a, rfl, fun j p hj => (hp j p hj).2⟩⟩
    · obtain ⟨i, hi⟩ := List.getElem?_of_mem hz
      exact (hp i z hi).1
theorem opens_slice {α : Type} {t e : TypeId} {d : Kd α} {wf : α → Prop} (hu : Tryd.prog.underlying t = some (.slice e)) (hc : Tryd.prog.cellsOf e = d.sz) (he : Opens e d wf) :
    Opens t (Kd.slice e d) (fun l => (∀ z ∈ l, wf z) ∧ l.length ≤ maxLen) :=
  fun H enc w _ _ _ h => slice_opens hu hc h (fun n cs y _ hy => he H enc w n cs y hy)
theorem struct1_parts {t : TypeId} {f0 : Field} {H : Type} {enc : TypeId × Value → H} {w : World} {fuel : Nat} {cs : List Value} {x : DataW H × List MemPlace} (ht : Tryd.prog.underlying t = some (.struct #[f0])) (h : DataW.trod enc Tryd.prog w 0 (fun _ => true) true fuel t cs = some x) :
    ∃ y0 n, n < fuel ∧ cs.length = Tryd.prog.cellsOf t ∧ DataW.trod enc Tryd.prog w 0 (fun _ => true) true n f0.type ((cs.drop f0.offset).take (Tryd.prog.cellsOf f0.type)) = some y0 := by
  obtain ⟨xs, n, hn, rfl, hl, hlen, hf⟩ := DataW.trod_struct ht h
  match xs, hlen with
  | [y0], _ => exact ⟨y0, n, by omega, hl, by simpa using hf 0 f0 rfl⟩
theorem list1_of {α : Type} {l : List α} (h : l.length = 1) : ∃ c0, l = [c0] := by
  match l, h with
  | [c0], _ => exact ⟨c0, rfl⟩
theorem struct2_parts {t : TypeId} {f0 f1 : Field} {H : Type} {enc : TypeId × Value → H} {w : World} {fuel : Nat} {cs : List Value} {x : DataW H × List MemPlace} (ht : Tryd.prog.underlying t = some (.struct #[f0, f1])) (h : DataW.trod enc Tryd.prog w 0 (fun _ => true) true fuel t cs = some x) :
    ∃ y0 y1 n, n < fuel ∧ cs.length = Tryd.prog.cellsOf t ∧ DataW.trod enc Tryd.prog w 0 (fun _ => true) true n f0.type ((cs.drop f0.offset).take (Tryd.prog.cellsOf f0.type)) = some y0 ∧ DataW.trod enc Tryd.prog w 0 (fun _ => true) true n f1.type ((cs.drop f1.offset).take (Tryd.prog.cellsOf f1.type)) = some y1 := by
  obtain ⟨xs, n, hn, rfl, hl, hlen, hf⟩ := DataW.trod_struct ht h
  match xs, hlen with
  | [y0, y1], _ => exact ⟨y0, y1, n, by omega, hl, by simpa using hf 0 f0 rfl, by simpa using hf 1 f1 rfl⟩
theorem list2_of {α : Type} {l : List α} (h : l.length = 2) : ∃ c0 c1, l = [c0, c1] := by
  match l, h with
  | [c0, c1], _ => exact ⟨c0, c1, rfl⟩
theorem struct3_parts {t : TypeId} {f0 f1 f2 : Field} {H : Type} {enc : TypeId × Value → H} {w : World} {fuel : Nat} {cs : List Value} {x : DataW H × List MemPlace} (ht : Tryd.prog.underlying t = some (.struct #[f0, f1, f2])) (h : DataW.trod enc Tryd.prog w 0 (fun _ => true) true fuel t cs = some x) :
    ∃ y0 y1 y2 n, n < fuel ∧ cs.length = Tryd.prog.cellsOf t ∧ DataW.trod enc Tryd.prog w 0 (fun _ => true) true n f0.type ((cs.drop f0.offset).take (Tryd.prog.cellsOf f0.type)) = some y0 ∧ DataW.trod enc Tryd.prog w 0 (fun _ => true) true n f1.type ((cs.drop f1.offset).take (Tryd.prog.cellsOf f1.type)) = some y1 ∧ DataW.trod enc Tryd.prog w 0 (fun _ => true) true n f2.type ((cs.drop f2.offset).take (Tryd.prog.cellsOf f2.type)) = some y2 := by
  obtain ⟨xs, n, hn, rfl, hl, hlen, hf⟩ := DataW.trod_struct ht h
  match xs, hlen with
  | [y0, y1, y2], _ => exact ⟨y0, y1, y2, n, by omega, hl, by simpa using hf 0 f0 rfl, by simpa using hf 1 f1 rfl, by simpa using hf 2 f2 rfl⟩
theorem list3_of {α : Type} {l : List α} (h : l.length = 3) : ∃ c0 c1 c2, l = [c0, c1, c2] := by
  match l, h with
  | [c0, c1, c2], _ => exact ⟨c0, c1, c2, rfl⟩
theorem struct4_parts {t : TypeId} {f0 f1 f2 f3 : Field} {H : Type} {enc : TypeId × Value → H} {w : World} {fuel : Nat} {cs : List Value} {x : DataW H × List MemPlace} (ht : Tryd.prog.underlying t = some (.struct #[f0, f1, f2, f3])) (h : DataW.trod enc Tryd.prog w 0 (fun _ => true) true fuel t cs = some x) :
    ∃ y0 y1 y2 y3 n, n < fuel ∧ cs.length = Tryd.prog.cellsOf t ∧ DataW.trod enc Tryd.prog w 0 (fun _ => true) true n f0.type ((cs.drop f0.offset).take (Tryd.prog.cellsOf f0.type)) = some y0 ∧ DataW.trod enc Tryd.prog w 0 (fun _ => true) true n f1.type ((cs.drop f1.offset).take (Tryd.prog.cellsOf f1.type)) = some y1 ∧ DataW.trod enc Tryd.prog w 0 (fun _ => true) true n f2.type ((cs.drop f2.offset).take (Tryd.prog.cellsOf f2.type)) = some y2 ∧ DataW.trod enc Tryd.prog w 0 (fun _ => true) true n f3.type ((cs.drop f3.offset).take (Tryd.prog.cellsOf f3.type)) = some y3 := by
  obtain ⟨xs, n, hn, rfl, hl, hlen, hf⟩ := DataW.trod_struct ht h
  match xs, hlen with
  | [y0, y1, y2, y3], _ => exact ⟨y0, y1, y2, y3, n, by omega, hl, by simpa using hf 0 f0 rfl, by simpa using hf 1 f1 rfl, by simpa using hf 2 f2 rfl, by simpa using hf 3 f3 rfl⟩
theorem list4_of {α : Type} {l : List α} (h : l.length = 4) : ∃ c0 c1 c2 c3, l = [c0, c1, c2, c3] := by
  match l, h with
  | [c0, c1, c2, c3], _ => exact ⟨c0, c1, c2, c3, rfl⟩
theorem opens_29 : Opens 29 k29 Wf29 := by
  intro H enc w fuel
  induction fuel using Nat.strongRecOn with
  | _ fuel ih =>
  intro cs x h
  obtain ⟨y0, y1, y2, y3, n, hn, hlen, h0, h1, h2, h3⟩ := struct4_parts Tryd.underlying29 h
  rw [show Tryd.prog.cellsOf 29 = 4 from by kernel_rfl] at hlen
  obtain ⟨c0, c1, c2, c3, rfl⟩ := list4_of hlen
  have g0 : DataW.trod enc Tryd.prog w 0 (fun _ => true) true n 3 [c0] = some y0 := by
    have e0 : Tryd.prog.cellsOf 3 = 1 := by kernel_rfl
    have z0 := h0
    simp only [e0] at z0
    exact z0
  have g1 : DataW.trod enc Tryd.prog w 0 (fun _ => true) true n 3 [c1] = some y1 := by
    have e1 : Tryd.prog.cellsOf 3 = 1 := by kernel_rfl
    have z1 := h1
    simp only [e1] at z1
    exact z1
  have g2 : DataW.trod enc Tryd.prog w 0 (fun _ => true) true n 22 [c2] = some y2 := by
    have e2 : Tryd.prog.cellsOf 22 = 1 := by kernel_rfl
    have z2 := h2
    simp only [e2] at z2
    exact z2
  have g3 : DataW.trod enc Tryd.prog w 0 (fun _ => true) true n 27 [c3] = some y3 := by
    have e3 : Tryd.prog.cellsOf 27 = 1 := by kernel_rfl
    have z3 := h3
    simp only [e3] at z3
    exact z3
  obtain ⟨z0, e0, hw0⟩ := (opens_int Tryd.underlying3) H enc w n _ _ g0
  replace e0 : [c0] = [.int .i64 z0] := e0
  obtain ⟨z1, e1, hw1⟩ := (opens_int Tryd.underlying3) H enc w n _ _ g1
  replace e1 : [c1] = [.int .i64 z1] := e1
  obtain ⟨z2, ⟨A2, d2, e2, hl2, hC2⟩, hw2⟩ := (opens_slice Tryd.underlying22 (by kernel_rfl) (opens_int Tryd.underlying3)) H enc w n _ _ g2
  obtain ⟨z3, hz3, hw3, hm3⟩ := slice_opens Tryd.underlying27 (d := k29) (wf := Wf29) (by kernel_rfl) g3 (fun m cs y hm hy => ih m (by omega) cs y hy)
  obtain ⟨A3, d3, e3, hl3, hC3⟩ := hz3
  obtain rfl := (List.cons.inj e0).1
  obtain rfl := (List.cons.inj e1).1
  obtain rfl := (List.cons.inj e2).1
  obtain rfl := (List.cons.inj e3).1
  exact ⟨⟨z0, z1, z2, z3⟩, k29_mk w ⟨z0, z1, z2, z3⟩ hl2 hC2 hl3 hC3, .mk _ _ _ _ hw0 hw1 hw2 hw3 hm3⟩
end Go.Proofs.YtlhiacnmcckjgaaDoor.P
end

section
namespace Go.Proofs.YtlhiacnmcckjgaaDoor.P
open Go.RowKit Go.Proofs.YtlhiacnmcckjgaaDoorW.PrintWords Go.Proofs.YtlhiacnmcckjgaaDoorW.PrintLast Go.Proofs.YtlhiacnmcckjgaaDoorW.PrintMore
attribute [local go_sem] max2_int min2_int max_two min_two max_three min_three max_four min_four   -- for this text's walks alone
set_option linter.unusedVariables false
set_option linter.unusedSimpArgs false

/-! ### laws_toIntS: function 6 -/
def laws_toIntS.l0 : Nat → List Int → List Int → Int → Option (List Int)
 | 0, _, _, _ => none
 | k + 1, x0, x3, x4 => if x4 < (x0.length : Int) then (if 0 ≤ x4 then (if x4 < (x3.length : Int) then (laws_toIntS.l0 k x0 (x3.set (x4 : Int).toNat (rd x0 x4)) (wrap64 (x4 + 1))) else (none)) else (none)) else (some x3)
def laws_toIntS.f (k : Nat) (l0 : List Int) : Option (List Int) := if 0 ≤ (l0.length : Int) then (if ((l0.length : Int) : Int).toNat ≤ 35184372088832 then (laws_toIntS.l0 k l0 (List.replicate ((l0.length : Int) : Int).toNat 0) 0) else (none)) else (none)
set_option maxHeartbeats 8000000 in
set_option maxRecDepth 100000 in
theorem laws_toIntS.calls (k : Nat) (A0 : Option Addr) (c0 : Nat) (l0 : List Int) (r : List Int) (w : World) (hr0 : Kd.C (Kd.int .i64) w A0 l0.length l0) (hc0 : l0.length ≤ c0) (h : laws_toIntS.f k l0 = some r) :
  Calls Tryd.prog 6 #[.slice A0 l0.length c0] w fun e w' => ∃ v0_ : Value, e = .returned (v0_) ∧ Kd.R (Kd.int .i64) 3 w' w.heap.size (fun _ => True) v0_ r ∧ Below w.heap.size w w' := by
 have HR0 := sd_ hr0
 have HC0 := sd_ hc0
 clear hr0 hc0
 have HB := sd_ (Below.refl w.heap.size w)
 have H : (if 0 ≤ (l0.length : Int) then (if ((l0.length : Int) : Int).toNat ≤ 35184372088832 then (laws_toIntS.l0 k l0 (List.replicate ((l0.length : Int) : Int).toNat 0) 0) else (none)) else (none)) = some r := h
 clear h
 by_cases c2 : 0 ≤ (l0.length : Int)
 ·rw [if_pos c2] at H
  have c2b0 := eq_true c2
  have c2b1 : decide (0 ≤ (l0.length : Int)) = true := decide_eq_true c2
  clear c2
  by_cases c3 : ((l0.length : Int) : Int).toNat ≤ 35184372088832
  ·rw [if_pos c3] at H
   have c3b0 := eq_true c3
   have c3b1 : decide (((l0.length : Int) : Int).toNat ≤ 35184372088832) = true := decide_eq_true c3
   clear c3
   obtain ⟨y173, hy173⟩ : ∃ y_ : List Int, y_ = (List.replicate ((l0.length : Int) : Int).toNat 0) := ⟨_, rfl⟩
   replace H : (laws_toIntS.l0 k l0 y173 0) = some r := by first | (rw [hy173]; with_reducible exact H) | (have H2_ := (Option.bind_some _ _).symm.trans H; rw [hy173]; with_reducible exact H2_) | (have H2_ := (Option.bind_some _ _).symm.trans H; with_reducible exact H2_) | with_reducible exact H | (rw [hy173]; exact H) | exact H
   have Ny173 := sd_ hy173
   clear hy173
   have H' := sd_ H
   clear H
   go_enter Tryd.func6, Tryd.ntmps6
   go_wp2_with (first | ((with_reducible refine gate_dst (N := 7) rfl ?_); refine Kd.R_make (Kd.int .i64) _ 3 rfl (N := 7) rfl 22 _ _ rfl (l0.length : Int) rfl rfl Tryd.underlying22 (.int .i64 0) 8 info3 rfl (by decide) (by omega) 0 (ok := fun _ => True) (okp := fun _ => True) rfl (fun _ hk => hk) trivial (dt_) (Nat.le_trans (Nat.mul_le_mul_right _ (dt_ : (l0.length : Int).toNat ≤ 35184372088832)) (by omega)) (Below.refl _ _) (Nat.le_refl _) ?_; intro v174 w4 ho5 hb hg_ hnew_; clear hg_ hnew_; (first | rw [← Ny173.out] at ho5 | (simp only [Int.reduceToNat] at ho5; rw [← Ny173.out] at ho5)); have HO175 := sd_ (Kd.R_lower ho5 (below_size (bw0_ HB.out))); replace HB := sd_ (below_step (bw0_ HB.out) hb); clear hb ho5))
   go_loopg [4] k (fun kq v4 w' => ∃ (x3_1 : List Int) (x4_1 : Int), v4 = .int .i64 x4_1 ∧ Aside0 (laws_toIntS.l0 kq l0 x3_1 x4_1 = some r) ∧ Aside0 (kq ≤ k) ∧ Aside0 (Kd.R (Kd.int .i64) 3 w' w.heap.size (fun _ => True) v174 x3_1) ∧ Aside0 (Below w.heap.size w w'))
   case atStart => exact ⟨(y173), (0), sm_, H', ⟨Nat.le_refl _⟩, ⟨by (with_reducible repeat (first | apply Kd.R_alloc | apply Kd.R_drewN | apply Kd.R_drew)); exact HO175.out⟩, ⟨bw0_ HB.out⟩⟩
   case round =>
    clear H'
    try clear c2
    try clear c2b0
    try clear c2b1
    try clear p2
    try clear c3
    try clear c3b0
    try clear c3b1
    obtain ⟨x3_1, x4_1, rfl, HA, HK1, HO_3, HB⟩ := hrel
    cases gk with
    | zero => exact absurd HA.out (by simp [laws_toIntS.l0])
    | succ k1 =>
     have H := HA.out
     clear HA
     simp only [laws_toIntS.l0] at H
     by_cases c6 : x4_1 < (l0.length : Int)
     ·rw [if_pos c6] at H
      have c6b0 : decide (x4_1 < (l0.length : Int)) = true := decide_eq_true c6
      clear c6
      by_cases c7 : 0 ≤ x4_1
      ·rw [if_pos c7] at H
       have c7b0 : decide (0 ≤ x4_1) = true := decide_eq_true c7
       clear c7
       by_cases c8 : x4_1 < (x3_1.length : Int)
       ·rw [if_pos c8] at H
        have c8b0 : decide (x4_1 < (x3_1.length : Int)) = true := decide_eq_true c8
        clear c8
        obtain ⟨y177, hy177⟩ : ∃ y_ : List Int, y_ = (x3_1.set (x4_1 : Int).toNat (rd l0 x4_1)) := ⟨_, rfl⟩
        replace H : (laws_toIntS.l0 k1 l0 y177 (wrap64 (x4_1 + 1))) = some r := by first | (rw [hy177]; with_reducible exact H) | (have H2_ := (Option.bind_some _ _).symm.trans H; rw [hy177]; with_reducible exact H2_) | (have H2_ := (Option.bind_some _ _).symm.trans H; with_reducible exact H2_) | with_reducible exact H | (rw [hy177]; exact H) | exact H
        have Ny177 := sd_ hy177
        clear hy177
        have H' := sd_ H
        clear H
        have p176 : 0 ≤ (x4_1 : Int) := dt_
        have q176 : x4_1 < (l0.length : Int) := dt_
        obtain ⟨ad176, e176, hx176_0⟩ := Kd.at_int HR0.out x4_1 p176 q176
        cases e176
        replace hx176_0 := (HB.out.cell (World.block_lt_of_cell? w _ hx176_0)).trans hx176_0
        replace p176 := eq_true p176
        replace q176 := eq_true q176
        have p9 : 0 ≤ (x4_1 : Int) := dt_
        have q9 : (x4_1 : Int) < ((x3_1.length : Int) : Int) := dt_
        obtain ⟨go9, co9, eo9, gb9, gl9, cl9, HG9⟩ := Kd.R_form HO_3.out (by omega)
        (first | cases eo9 | (injection eo9 with ea_ en_ ec_; (first | subst ea_ | (injection ea_ with ea_; subst ea_)); subst ec_; clear en_))
        have GB9 := sd_ gb9
        have GG9 := sd_ HG9
        clear gb9 gl9 HG9
        obtain ⟨hx9_0, hf9_0⟩ := Kd.R_celln 0 HO_3.out (x4_1 : Int) p9 q9
        replace p9 := eq_true p9
        replace q9 := eq_true q9
        have HP10 := Kd.R_putg HO_3.out (x4_1 : Int) (rd l0 x4_1)
        go_wp2_with (first | ((with_reducible refine gate_store (t := 3) (p := 20) rfl ?_); refine store_event (t := 3) (p := 20) (v := ?vo_w11) (w1 := (wr.setCell ⟨go9, (x4_1 : Int).toNat, none⟩ (.int .i64 (rd l0 x4_1)))) ?hg ?ho ?hn ?hr ?_; (case ho => rfl); (case hg => rfl); (case hn => rfl); (case hr => first | (go_simp; done) | (go_simp; rfl)); intro w11 hw; have hg : wr.grownBy w11 (some go9) := (by rw [hw]; exact HP10.2); have hp_ : Kd.R (Kd.int .i64) 3 w11 w.heap.size (fun _ => True) (.slice (some ⟨go9, 0, none⟩) x3_1.length co9) y177 := (by rw [hw, Ny177.out]; exact HP10.1); clear HP10; replace HO_3 := sd_ (hp_); replace HB := sd_ ((by rw [hw]; exact below_set (HB.out) GB9.out : Below w.heap.size w w11)); clear hg hw hp_))
        go_roundg k1
        case measure => have := HK1.out; omega
        case rel => exact ⟨(y177), (wrap64 (x4_1 + 1)), sm_, H', ⟨by have := HK1.out; omega⟩, ⟨by (with_reducible repeat (first | apply Kd.R_alloc | apply Kd.R_drewN | apply Kd.R_drew)); exact HO_3.out⟩, ⟨bw0_ HB.out⟩⟩
       rw [if_neg c8] at H
       exact absurd H (by simp)
      rw [if_neg c7] at H
      exact absurd H (by simp)
     rw [if_neg c6] at H
     have c6b0 : decide (x4_1 < (l0.length : Int)) = false := decide_eq_false c6
     clear c6
     obtain rfl := Option.some.inj H
     go_wp2
     go_ret
     exact ⟨_, an_, by (with_reducible repeat (first | apply Kd.R_alloc | apply Kd.R_drewN | apply Kd.R_drew)); exact HO_3.out, bw0_ HB.out⟩
  rw [if_neg c3] at H
  exact absurd H (by simp)
 rw [if_neg c2] at H
 exact absurd H (by simp)

end Go.Proofs.YtlhiacnmcckjgaaDoor.P
end
