-- Several texts in one (wip/tools/merge.py).
import Derived.Test.YtipfkicndjddgaaM1
import Derived.ProofKit
import Derived.ChangeArms
import Derived.Deep.Slices
import Derived.Lib.SmallJoins
section
/- How what a law is handed reads as a value of the printed kinds: whole numbers, bools, strings, slices, structs. -/
namespace Go.Proofs.Ytipfkicndjddgaa.P
open Go.RowKit Go.Proofs.YtipfkicndjddgaaW.PrintWords Go.Proofs.YtipfkicndjddgaaW.PrintLast Go.Proofs.YtipfkicndjddgaaW.PrintMore

/-- What reads as data of type t holds a value of the kind d. -/
def Opens {α : Type} (t : TypeId) (d : Kd α) (wf : α → Prop) : Prop :=
  ∀ (H : Type) (enc : TypeId × Value → H) (w : World) (fuel : Nat) (cs : List Value) (x : DataW H × List MemPlace),
    DataW.trod enc Try.prog w 0 (fun _ => true) true fuel t cs = some x → ∃ y : α, d.K w y cs ∧ wf y

theorem opens_int {t : TypeId} {k : IntKind} (hu : Try.prog.underlying t = some (.int k)) : Opens t (Kd.int k) (fun n => (Lit.int k n).wf = true) := by
  intro H enc w fuel cs x h
  obtain ⟨n, rfl, _, hw⟩ := DataW.trod_int hu h
  exact ⟨n, rfl, hw⟩
theorem opens_bool {t : TypeId} (hu : Try.prog.underlying t = some .bool) : Opens t Kd.bool (fun _ => True) := by
  intro H enc w fuel cs x h
  obtain ⟨n, rfl, _⟩ := DataW.trod_bool hu h
  exact ⟨n, rfl, trivial⟩
theorem opens_string {t : TypeId} (hu : Try.prog.underlying t = some .string) : Opens t Kd.string (fun s => s.size ≤ maxLen) := by
  intro H enc w fuel cs x h
  obtain ⟨n, rfl, _, hw⟩ := DataW.trod_string hu h
  exact ⟨n, rfl, hw⟩

theorem list_of {α : Type} (n : Nat) {p : Nat → α → Prop} (h : ∀ i, i < n → ∃ a, p i a) : ∃ l : List α, l.length = n ∧ ∀ i a, l[i]? = some a → p i a := by
  induction n with
  | zero => exact ⟨[], rfl, fun i a h => by simp at h⟩
  | succ n ih =>
    obtain ⟨l, hl, hp⟩ := ih (fun i hi => h i (by omega))
    obtain ⟨a, ha⟩ := h n (by omega)
    refine ⟨l ++ [a], by simp [hl], fun i b hb => ?_⟩
    rcases Nat.lt_or_ge i l.length with hi | hi
    · rw [List.getElem?_append_left hi] at hb
      exact hp i b hb
    · rw [List.getElem?_append_right hi] at hb
      have hi2 : i - l.length = 0 := by
        have := (List.getElem?_eq_some_iff.1 hb).1
        simp at this
        omega
      rw [hi2] at hb
      simp at hb
      subst hb
      rw [show i = n by omega]
      exact ha

/-- A slice's elements, each read with less fuel. -/
theorem slice_opens {α : Type} {t e : TypeId} {d : Kd α} {wf : α → Prop} (hu : Try.prog.underlying t = some (.slice e)) (hc : Try.prog.cellsOf e = d.sz) {H : Type} {enc : TypeId × Value → H} {w : World} {fuel : Nat} {cs : List Value} {x : DataW H × List MemPlace}
    (h : DataW.trod enc Try.prog w 0 (fun _ => true) true fuel t cs = some x)
    (he : ∀ n cs y, n < fuel → DataW.trod enc Try.prog w 0 (fun _ => true) true n e cs = some y → ∃ z : α, d.K w z cs ∧ wf z) :
    ∃ l : List α, (Kd.slice e d).K w l cs ∧ (∀ z ∈ l, wf z) ∧ l.length ≤ maxLen := by
  rcases DataW.trod_slice hu h with ⟨rfl, _⟩ | ⟨a, len, cap, elems, rest, n, rfl, rfl, _, _, hl, hm, hlen, hel, _⟩
  · exact ⟨[], ⟨none, 0, rfl, Nat.le_refl _, by exact Kd.C_nil _ _⟩, by simp, by simp⟩
  · obtain ⟨l, hll, hp⟩ := list_of (α := α) len (p := fun i z => wf z ∧ ∃ c, c.length = d.sz ∧ d.K w z c ∧ ∀ j u, c[j]? = some u → w.cell? (a.add (i * d.sz + j)) = some u) (fun i hi => by
      have h1 := hel i hi
      rw [List.getElem?_eq_getElem (by omega)] at h1
      obtain ⟨c, hc1, hc2⟩ := Option.bind_eq_some_iff.1 h1
      obtain ⟨z, hz, hwz⟩ := he n c _ (by omega) hc2
      obtain ⟨_, hlc, hcell⟩ := World.cells?_some hc1
      rw [hc] at hlc hcell
      refine ⟨z, hwz, c, hlc, hz, fun j u hu2 => ?_⟩
      have hj : j < d.sz := by have := (List.getElem?_eq_some_iff.1 hu2).1; omega
      have h2 := hcell j hj
      rw [hu2, Addr.add_add] at h2
      exact h2)
    refine ⟨l, ⟨some a, cap, by rw [hll], by omega, ?_⟩, fun z hz => ?_, by omega⟩
    · refine ⟨rfl, by rw [hll]; unfold maxLen at hm; omega, fun _ => ⟨a, rfl, fun j p hj => (hp j p hj).2⟩⟩
    · obtain ⟨i, hi⟩ := List.getElem?_of_mem hz
      exact (hp i z hi).1
theorem opens_slice {α : Type} {t e : TypeId} {d : Kd α} {wf : α → Prop} (hu : Try.prog.underlying t = some (.slice e)) (hc : Try.prog.cellsOf e = d.sz) (he : Opens e d wf) :
    Opens t (Kd.slice e d) (fun l => (∀ z ∈ l, wf z) ∧ l.length ≤ maxLen) :=
  fun H enc w _ _ _ h => slice_opens hu hc h (fun n cs y _ hy => he H enc w n cs y hy)
theorem struct1_parts {t : TypeId} {f0 : Field} {H : Type} {enc : TypeId × Value → H} {w : World} {fuel : Nat} {cs : List Value} {x : DataW H × List MemPlace} (ht : Try.prog.underlying t = some (.struct #[f0])) (h : DataW.trod enc Try.prog w 0 (fun _ => true) true fuel t cs = some x) :
    ∃ y0 n, n < fuel ∧ cs.length = Try.prog.cellsOf t ∧ DataW.trod enc Try.prog w 0 (fun _ => true) true n f0.type ((cs.drop f0.offset).take (Try.prog.cellsOf f0.type)) = some y0 := by
  obtain ⟨xs, n, hn, rfl, hl, hlen, hf⟩ := DataW.trod_struct ht h
  match xs, hlen with
  | [y0], _ => exact ⟨y0, n, by omega, hl, by simpa using hf 0 f0 rfl⟩
theorem list1_of {α : Type} {l : List α} (h : l.length = 1) : ∃ c0, l = [c0] := by
  match l, h with
  | [c0], _ => exact ⟨c0, rfl⟩
theorem struct2_parts {t : TypeId} {f0 f1 : Field} {H : Type} {enc : TypeId × Value → H} {w : World} {fuel : Nat} {cs : List Value} {x : DataW H × List MemPlace} (ht : Try.prog.underlying t = some (.struct #[f0, f1])) (h : DataW.trod enc Try.prog w 0 (fun _ => true) true fuel t cs = some x) :
    ∃ y0 y1 n, n < fuel ∧ cs.length = Try.prog.cellsOf t ∧ DataW.trod enc Try.prog w 0 (fun _ => true) true n f0.type ((cs.drop f0.offset).take (Try.prog.cellsOf f0.type)) = some y0 ∧ DataW.trod enc Try.prog w 0 (fun _ => true) true n f1.type ((cs.drop f1.offset).take (Try.prog.cellsOf f1.type)) = some y1 := by
  obtain ⟨xs, n, hn, rfl, hl, hlen, hf⟩ := DataW.trod_struct ht h
  match xs, hlen with
  | [y0, y1], _ => exact ⟨y0, y1, n, by omega, hl, by simpa using hf 0 f0 rfl, by simpa using hf 1 f1 rfl⟩
theorem list2_of {α : Type} {l : List α} (h : l.length = 2) : ∃ c0 c1, l = [c0, c1] := by
  match l, h with
  | [c0, c1], _ => exact ⟨c0, c1, rfl⟩
theorem struct3_parts {t : TypeId} {f0 f1 f2 : Field} {H : Type} {enc : TypeId × Value → H} {w : World} {fuel : Nat} {cs : List Value} {x : DataW H × List MemPlace} (ht : Try.prog.underlying t = some (.struct #[f0, f1, f2])) (h : DataW.trod enc Try.prog w 0 (fun _ => true) true fuel t cs = some x) :
    ∃ y0 y1 y2 n, n < fuel ∧ cs.length = Try.prog.cellsOf t ∧ DataW.trod enc Try.prog w 0 (fun _ => true) true n f0.type ((cs.drop f0.offset).take (Try.prog.cellsOf f0.type)) = some y0 ∧ DataW.trod enc Try.prog w 0 (fun _ => true) true n f1.type ((cs.drop f1.offset).take (Try.prog.cellsOf f1.type)) = some y1 ∧ DataW.trod enc Try.prog w 0 (fun _ => true) true n f2.type ((cs.drop f2.offset).take (Try.prog.cellsOf f2.type)) = some y2 := by
  obtain ⟨xs, n, hn, rfl, hl, hlen, hf⟩ := DataW.trod_struct ht h
  match xs, hlen with
  | [y0, y1, y2], _ => exact ⟨y0, y1, y2, n, by omega, hl, by simpa using hf 0 f0 rfl, by simpa using hf 1 f1 rfl, by simpa using hf 2 f2 rfl⟩
theorem list3_of {α : Type} {l : List α} (h : l.length = 3) : ∃ c0 c1 c2, l = [c0, c1, c2] := by
  match l, h with
  | [c0, c1, c2], _ => exact ⟨c0, c1, c2, rfl⟩
theorem struct4_parts {t : TypeId} {f0 f1 f2 f3 : Field} {H : Type} {enc : TypeId × Value → H} {w : World} {fuel : Nat} {cs : List Value} {x : DataW H × List MemPlace} (ht : Try.prog.underlying t = some (.struct #[f0, f1, f2, f3])) (h : DataW.trod enc Try.prog w 0 (fun _ => true) true fuel t cs = some x) :
    ∃ y0 y1 y2 y3 n, n < fuel ∧ cs.length = Try.prog.cellsOf t ∧ DataW.trod enc Try.prog w 0 (fun _ => true) true n f0.type ((cs.drop f0.offset).take (Try.prog.cellsOf f0.type)) = some y0 ∧ DataW.trod enc Try.prog w 0 (fun _ => true) true n f1.type ((cs.drop f1.offset).take (Try.prog.cellsOf f1.type)) = some y1 ∧ DataW.trod enc Try.prog w 0 (fun _ => true) true n f2.type ((cs.drop f2.offset).take (Try.prog.cellsOf f2.type)) = some y2 ∧ DataW.trod enc Try.prog w 0 (fun _ => true) true n f3.type ((cs.drop f3.offset).take (Try.prog.cellsOf f3.type)) = some y3 := by
  obtain ⟨xs, n, hn, rfl, hl, hlen, hf⟩ := DataW.trod_struct ht h
  match xs, hlen with
  | [y0, y1, y2, y3], _ => exact ⟨y0, y1, y2, y3, n, by omega, hl, by simpa using hf 0 f0 rfl, by simpa using hf 1 f1 rfl, by simpa using hf 2 f2 rfl, by simpa using hf 3 f3 rfl⟩
theorem list4_of {α : Type} {l : List α} (h : l.length = 4) : ∃ c0 c1 c2 c3, l = [c0, c1, c2, c3] := by
  match l, h with
  | [c0, c1, c2, c3], _ => exact ⟨c0, c1, c2, c3, rfl⟩
theorem opens_25 : Opens 25 k25 Wf25 := by
  intro H enc w fuel
  induction fuel using Nat.strongRecOn with
  | _ fuel ih =>
  intro cs x h
  obtain ⟨y0, y1, y2, y3, n, hn, hlen, h0, h1, h2, h3⟩ := struct4_parts Try.underlying25 h
  rw [show Try.prog.cellsOf 25 = 4 from by kernel_rfl] at hlen
  obtain ⟨c0, c1, c2, c3, rfl⟩ := list4_of hlen
  have g0 : DataW.trod enc Try.prog w 0 (fun _ => true) true n 3 [c0] = some y0 := by
    have e0 : Try.prog.cellsOf 3 = 1 := by kernel_rfl
    have z0 := h0
    simp only [e0] at z0
    exact z0
  have g1 : DataW.trod enc Try.prog w 0 (fun _ => true) true n 22 [c1] = some y1 := by
    have e1 : Try.prog.cellsOf 22 = 1 := by kernel_rfl
    have z1 := h1
    simp only [e1] at z1
    exact z1
  have g2 : DataW.trod enc Try.prog w 0 (fun _ => true) true n 22 [c2] = some y2 := by
    have e2 : Try.prog.cellsOf 22 = 1 := by kernel_rfl
    have z2 := h2
    simp only [e2] at z2
    exact z2
  have g3 : DataW.trod enc Try.prog w 0 (fun _ => true) true n 23 [c3] = some y3 := by
    have e3 : Try.prog.cellsOf 23 = 1 := by kernel_rfl
    have z3 := h3
    simp only [e3] at z3
    exact z3
  obtain ⟨z0, e0, hw0⟩ := (opens_int Try.underlying3) H enc w n _ _ g0
  replace e0 : [c0] = [.int .i64 z0] := e0
  obtain ⟨z1, ⟨A1, d1, e1, hl1, hC1⟩, hw1⟩ := (opens_slice Try.underlying22 (by kernel_rfl) (opens_int Try.underlying3)) H enc w n _ _ g1
  obtain ⟨z2, ⟨A2, d2, e2, hl2, hC2⟩, hw2⟩ := (opens_slice Try.underlying22 (by kernel_rfl) (opens_int Try.underlying3)) H enc w n _ _ g2
  obtain ⟨z3, ⟨A3, d3, e3, hl3, hC3⟩, hw3⟩ := (opens_slice Try.underlying23 (by kernel_rfl) (opens_bool Try.underlying4)) H enc w n _ _ g3
  obtain rfl := (List.cons.inj e0).1
  obtain rfl := (List.cons.inj e1).1
  obtain rfl := (List.cons.inj e2).1
  obtain rfl := (List.cons.inj e3).1
  exact ⟨⟨z0, z1, z2, z3⟩, k25_mk w ⟨z0, z1, z2, z3⟩ hl1 hC1 hl2 hC2 hl3 hC3, .mk _ _ _ _ hw0 hw1 hw2 hw3⟩
end Go.Proofs.Ytipfkicndjddgaa.P
end

section
namespace Go.Proofs.Ytipfkicndjddgaa.P
open Go.RowKit Go.Proofs.YtipfkicndjddgaaW.PrintWords Go.Proofs.YtipfkicndjddgaaW.PrintLast Go.Proofs.YtipfkicndjddgaaW.PrintMore
attribute [local go_sem] max2_int min2_int max_two min_two max_three min_three max_four min_four   -- for this text's walks alone
set_option linter.unusedVariables false
set_option linter.unusedSimpArgs false

/-! ### laws_toIntS: function 17 -/
def laws_toIntS.l0 : Nat → List Int → List Int → Int → Option (List Int)
 | 0, _, _, _ => none
 | k + 1, x0, x3, x4 => if x4 < (x0.length : Int) then (if 0 ≤ x4 then (if x4 < (x3.length : Int) then (laws_toIntS.l0 k x0 (x3.set (x4 : Int).toNat (rd x0 x4)) (wrap64 (x4 + 1))) else (none)) else (none)) else (some x3)
def laws_toIntS.f (k : Nat) (l0 : List Int) : Option (List Int) := if 0 ≤ (l0.length : Int) then (if ((l0.length : Int) : Int).toNat ≤ 35184372088832 then (laws_toIntS.l0 k l0 (List.replicate ((l0.length : Int) : Int).toNat 0) 0) else (none)) else (none)
set_option maxHeartbeats 8000000 in
set_option maxRecDepth 100000 in
theorem laws_toIntS.calls (k : Nat) (A0 : Option Addr) (c0 : Nat) (l0 : List Int) (r : List Int) (w : World) (hr0 : Kd.C (Kd.int .i64) w A0 l0.length l0) (hc0 : l0.length ≤ c0) (h : laws_toIntS.f k l0 = some r) :
  Calls Try.prog 17 #[.slice A0 l0.length c0] w fun e w' => ∃ v0_ : Value, e = .returned (v0_) ∧ Kd.R (Kd.int .i64) 3 w' w.heap.size (fun _ => True) v0_ r ∧ Below w.heap.size w w' := by
 have HR0 := sd_ hr0
 have HC0 := sd_ hc0
 clear hr0 hc0
 have HB := sd_ (Below.refl w.heap.size w)
 have H : (if 0 ≤ (l0.length : Int) then (if ((l0.length : Int) : Int).toNat ≤ 35184372088832 then (laws_toIntS.l0 k l0 (List.replicate ((l0.length : Int) : Int).toNat 0) 0) else (none)) else (none)) = some r := h
 clear h
 by_cases c2 : 0 ≤ (l0.length : Int)
 ·rw [if_pos c2] at H
  have c2b0 := eq_true c2
  have c2b1 : decide (0 ≤ (l0.length : Int)) = true := decide_eq_true c2
  clear c2
  by_cases c3 : ((l0.length : Int) : Int).toNat ≤ 35184372088832
  ·rw [if_pos c3] at H
   have c3b0 := eq_true c3
   have c3b1 : decide (((l0.length : Int) : Int).toNat ≤ 35184372088832) = true := decide_eq_true c3
   clear c3
   obtain ⟨y207, hy207⟩ : ∃ y_ : List Int, y_ = (List.replicate ((l0.length : Int) : Int).toNat 0) := ⟨_, rfl⟩
   replace H : (laws_toIntS.l0 k l0 y207 0) = some r := by first | (rw [hy207]; with_reducible exact H) | (have H2_ := (Option.bind_some _ _).symm.trans H; rw [hy207]; with_reducible exact H2_) | (have H2_ := (Option.bind_some _ _).symm.trans H; with_reducible exact H2_) | with_reducible exact H | (rw [hy207]; exact H) | exact H
   have Ny207 := sd_ hy207
   clear hy207
   have H' := sd_ H
   clear H
   go_enter Try.func17, Try.ntmps17
   go_wp2_with (first | ((with_reducible refine gate_dst (N := 7) rfl ?_); refine Kd.R_make (Kd.int .i64) _ 3 rfl (N := 7) rfl 22 _ _ rfl (l0.length : Int) rfl rfl Try.underlying22 (.int .i64 0) 8 info3 rfl (by decide) (by omega) 0 (ok := fun _ => True) (okp := fun _ => True) rfl (fun _ hk => hk) trivial (dt_) (Nat.le_trans (Nat.mul_le_mul_right _ (dt_ : (l0.length : Int).toNat ≤ 35184372088832)) (by omega)) (Below.refl _ _) (Nat.le_refl _) ?_; intro v208 w4 ho5 hb hg_ hnew_; clear hg_ hnew_; (first | rw [← Ny207.out] at ho5 | (simp only [Int.reduceToNat] at ho5; rw [← Ny207.out] at ho5)); have HO209 := sd_ (Kd.R_lower ho5 (below_size (bw0_ HB.out))); replace HB := sd_ (below_step (bw0_ HB.out) hb); clear hb ho5))
   go_loopg [4] k (fun kq v4 w' => ∃ (x3_1 : List Int) (x4_1 : Int), v4 = .int .i64 x4_1 ∧ Aside0 (laws_toIntS.l0 kq l0 x3_1 x4_1 = some r) ∧ Aside0 (kq ≤ k) ∧ Aside0 (Kd.R (Kd.int .i64) 3 w' w.heap.size (fun _ => True) v208 x3_1) ∧ Aside0 (Below w.heap.size w w'))
   case atStart => exact ⟨(y207), (0), sm_, H', ⟨Nat.le_refl _⟩, ⟨by (with_reducible repeat (first | apply Kd.R_alloc | apply Kd.R_drewN | apply Kd.R_drew)); exact HO209.out⟩, ⟨bw0_ HB.out⟩⟩
   case round =>
    clear H'
    try clear c1
    try clear c2
    try clear c2b0
    try clear c2b1
    try clear p2
    try clear c3
    try clear c3b0
    try clear c3b1
    obtain ⟨x3_1, x4_1, rfl, HA, HK1, HO_3, HB⟩ := hrel
    cases gk with
    | zero => exact absurd HA.out (by simp [laws_toIntS.l0])
    | succ k1 =>
     have H := HA.out
     clear HA
     simp only [laws_toIntS.l0] at H
     by_cases c6 : x4_1 < (l0.length : Int)
     ·rw [if_pos c6] at H
      have c6b0 : decide (x4_1 < (l0.length : Int)) = true := decide_eq_true c6
      clear c6
      by_cases c7 : 0 ≤ x4_1
      ·rw [if_pos c7] at H
       have c7b0 : decide (0 ≤ x4_1) = true := decide_eq_true c7
       clear c7
       by_cases c8 : x4_1 < (x3_1.length : Int)
       ·rw [if_pos c8] at H
        have c8b0 : decide (x4_1 < (x3_1.length : Int)) = true := decide_eq_true c8
        clear c8
        obtain ⟨y211, hy211⟩ : ∃ y_ : List Int, y_ = (x3_1.set (x4_1 : Int).toNat (rd l0 x4_1)) := ⟨_, rfl⟩
        replace H : (laws_toIntS.l0 k1 l0 y211 (wrap64 (x4_1 + 1))) = some r := by first | (rw [hy211]; with_reducible exact H) | (have H2_ := (Option.bind_some _ _).symm.trans H; rw [hy211]; with_reducible exact H2_) | (have H2_ := (Option.bind_some _ _).symm.trans H; with_reducible exact H2_) | with_reducible exact H | (rw [hy211]; exact H) | exact H
        have Ny211 := sd_ hy211
        clear hy211
        have H' := sd_ H
        clear H
        have p210 : 0 ≤ (x4_1 : Int) := dt_
        have q210 : x4_1 < (l0.length : Int) := dt_
        obtain ⟨ad210, e210, hx210_0⟩ := Kd.at_int HR0.out x4_1 p210 q210
        cases e210
        replace hx210_0 := (HB.out.cell (World.block_lt_of_cell? w _ hx210_0)).trans hx210_0
        replace p210 := eq_true p210
        replace q210 := eq_true q210
        have p9 : 0 ≤ (x4_1 : Int) := dt_
        have q9 : (x4_1 : Int) < ((x3_1.length : Int) : Int) := dt_
        obtain ⟨go9, co9, eo9, gb9, gl9, cl9, HG9⟩ := Kd.R_form HO_3.out (by omega)
        (first | cases eo9 | (injection eo9 with ea_ en_ ec_; (first | subst ea_ | (injection ea_ with ea_; subst ea_)); subst ec_; clear en_))
        have GB9 := sd_ gb9
        have GG9 := sd_ HG9
        clear gb9 gl9 HG9
        obtain ⟨hx9_0, hf9_0⟩ := Kd.R_celln 0 HO_3.out (x4_1 : Int) p9 q9
        replace p9 := eq_true p9
        replace q9 := eq_true q9
        have HP10 := Kd.R_putg HO_3.out (x4_1 : Int) (rd l0 x4_1)
        go_wp2_with (first | ((with_reducible refine gate_store (t := 3) (p := 20) rfl ?_); refine store_event (t := 3) (p := 20) (v := ?vo_w11) (w1 := (wr.setCell ⟨go9, (x4_1 : Int).toNat, none⟩ (.int .i64 (rd l0 x4_1)))) ?hg ?ho ?hn ?hr ?_; (case ho => rfl); (case hg => rfl); (case hn => rfl); (case hr => first | (go_simp; done) | (go_simp; rfl)); intro w11 hw; have hg : wr.grownBy w11 (some go9) := (by rw [hw]; exact HP10.2); have hp_ : Kd.R (Kd.int .i64) 3 w11 w.heap.size (fun _ => True) (.slice (some ⟨go9, 0, none⟩) x3_1.length co9) y211 := (by rw [hw, Ny211.out]; exact HP10.1); clear HP10; replace HO_3 := sd_ (hp_); replace HB := sd_ ((by rw [hw]; exact below_set (HB.out) GB9.out : Below w.heap.size w w11)); clear hg hw hp_))
        go_roundg k1
        case measure => have := HK1.out; omega
        case rel => exact ⟨(y211), (wrap64 (x4_1 + 1)), sm_, H', ⟨by have := HK1.out; omega⟩, ⟨by (with_reducible repeat (first | apply Kd.R_alloc | apply Kd.R_drewN | apply Kd.R_drew)); exact HO_3.out⟩, ⟨bw0_ HB.out⟩⟩
       rw [if_neg c8] at H
       exact absurd H (by simp)
      rw [if_neg c7] at H
      exact absurd H (by simp)
     rw [if_neg c6] at H
     have c6b0 : decide (x4_1 < (l0.length : Int)) = false := decide_eq_false c6
     clear c6
     obtain rfl := Option.some.inj H
     go_wp2
     go_ret
     exact ⟨_, an_, by (with_reducible repeat (first | apply Kd.R_alloc | apply Kd.R_drewN | apply Kd.R_drew)); exact HO_3.out, bw0_ HB.out⟩
  rw [if_neg c3] at H
  exact absurd H (by simp)
 rw [if_neg c2] at H
 exact absurd H (by simp)


/-! ### laws_eqIntS: function 21 -/
def laws_eqIntS.l0 : Nat → List Int → List Int → Int → Option (Bool)
 | 0, _, _, _ => none
 | k + 1, x0, x1, x5 => if x5 < (x0.length : Int) then (if 0 ≤ x5 then (if x5 < (x1.length : Int) then (if (rd x0 x5) = (rd x1 x5) then (laws_eqIntS.l0 k x0 x1 (wrap64 (x5 + 1))) else (some false)) else (none)) else (none)) else (some true)
def laws_eqIntS.f (k : Nat) (l0 : List Int) (l1 : List Int) : Option (Bool) := if (l0.length : Int) = (l1.length : Int) then (laws_eqIntS.l0 k l0 l1 0) else (some false)
set_option maxHeartbeats 8000000 in
set_option maxRecDepth 100000 in
theorem laws_eqIntS.calls (k : Nat) (A0 : Option Addr) (c0 : Nat) (l0 : List Int) (A1 : Option Addr) (c1 : Nat) (l1 : List Int) (r : Bool) (w : World) (hr0 : Kd.C (Kd.int .i64) w A0 l0.length l0) (hc0 : l0.length ≤ c0) (hr1 : Kd.C (Kd.int .i64) w A1 l1.length l1) (hc1 : l1.length ≤ c1) (h : laws_eqIntS.f k l0 l1 = some r) :
  Calls Try.prog 21 #[.slice A0 l0.length c0, .slice A1 l1.length c1] w fun e w' => e = .returned (.bool r) ∧ Drawn0 w w' := by
 have HR0 := sd_ hr0
 have HC0 := sd_ hc0
 clear hr0 hc0
 have HR1 := sd_ hr1
 have HC1 := sd_ hc1
 clear hr1 hc1
 have H : (if (l0.length : Int) = (l1.length : Int) then (laws_eqIntS.l0 k l0 l1 0) else (some false)) = some r := h
 clear h
 by_cases c3 : (l0.length : Int) = (l1.length : Int)
 ·rw [if_pos c3] at H
  have c3b0 : ((l0.length : Int) == (l1.length : Int)) = true := beq_iff_eq.mpr c3
  have c3b1 : ((l0.length : Int) != (l1.length : Int)) = false := bne_eq_false_iff_eq.mpr c3
  have c3b2 : (l0.length == l1.length) = true := by first | simpa using c3 | (simp at c3 ⊢; omega)
  clear c3
  have H' := sd_ H
  clear H
  go_enter Try.func21, Try.ntmps21
  go_wp2
  repeat (go_quiet (fail); try go_wp2)
  go_loopg [5] k (fun kq v5 w' => ∃ (x5_1 : Int), v5 = .int .i64 x5_1 ∧ Aside0 (laws_eqIntS.l0 kq l0 l1 x5_1 = some r) ∧ Aside0 (kq ≤ k) ∧ Drawn0 w w')
  case atStart => exact ⟨(0), sm_, H', ⟨Nat.le_refl _⟩, by repeat (first | exact Drawn0.refl _ | apply Drawn0.step)⟩
  case round =>
   clear H'
   try clear c1
   try clear c2
   try clear p2
   try clear c3
   try clear c3b0
   try clear c3b1
   try clear c3b2
   obtain ⟨x5_1, rfl, HA, HK1, ⟨m1, rfl⟩⟩ := hrel
   cases gk with
   | zero => exact absurd HA.out (by simp [laws_eqIntS.l0])
   | succ k1 =>
    have H := HA.out
    clear HA
    simp only [laws_eqIntS.l0] at H
    by_cases c4 : x5_1 < (l0.length : Int)
    ·rw [if_pos c4] at H
     have c4b0 : decide (x5_1 < (l0.length : Int)) = true := decide_eq_true c4
     clear c4
     by_cases c5 : 0 ≤ x5_1
     ·rw [if_pos c5] at H
      have c5b0 : decide (0 ≤ x5_1) = true := decide_eq_true c5
      clear c5
      by_cases c6 : x5_1 < (l1.length : Int)
      ·rw [if_pos c6] at H
       have c6b0 : decide (x5_1 < (l1.length : Int)) = true := decide_eq_true c6
       clear c6
       by_cases c7 : (rd l0 x5_1) = (rd l1 x5_1)
       ·rw [if_pos c7] at H
        have c7b0 : ((rd l0 x5_1) == (rd l1 x5_1)) = true := beq_iff_eq.mpr c7
        have c7b1 : ((rd l0 x5_1) != (rd l1 x5_1)) = false := bne_eq_false_iff_eq.mpr c7
        clear c7
        have H' := sd_ H
        clear H
        have p366 : 0 ≤ (x5_1 : Int) := dt_
        have q366 : x5_1 < (l0.length : Int) := dt_
        obtain ⟨ad366, e366, hx366_0⟩ := Kd.at_int HR0.out x5_1 p366 q366
        cases e366
        replace p366 := eq_true p366
        replace q366 := eq_true q366
        have p367 : 0 ≤ (x5_1 : Int) := dt_
        have q367 : x5_1 < (l1.length : Int) := dt_
        obtain ⟨ad367, e367, hx367_0⟩ := Kd.at_int HR1.out x5_1 p367 q367
        cases e367
        replace p367 := eq_true p367
        replace q367 := eq_true q367
        go_wp2
        repeat (go_quiet (fail); try go_wp2)
        go_roundg k1
        case measure => have := HK1.out; omega
        case rel => exact ⟨(wrap64 (x5_1 + 1)), sm_, H', ⟨by have := HK1.out; omega⟩, by repeat (first | exact Drawn0.refl _ | apply Drawn0.step)⟩
       rw [if_neg c7] at H
       have c7b0 : ((rd l0 x5_1) == (rd l1 x5_1)) = false := beq_eq_false_iff_ne.mpr c7
       have c7b1 : ((rd l0 x5_1) != (rd l1 x5_1)) = true := bne_iff_ne.mpr c7
       obtain rfl := Option.some.inj H
       have p366 : 0 ≤ (x5_1 : Int) := dt_
       have q366 : x5_1 < (l0.length : Int) := dt_
       obtain ⟨ad366, e366, hx366_0⟩ := Kd.at_int HR0.out x5_1 p366 q366
       cases e366
       replace p366 := eq_true p366
       replace q366 := eq_true q366
       have p367 : 0 ≤ (x5_1 : Int) := dt_
       have q367 : x5_1 < (l1.length : Int) := dt_
       obtain ⟨ad367, e367, hx367_0⟩ := Kd.at_int HR1.out x5_1 p367 q367
       cases e367
       replace p367 := eq_true p367
       replace q367 := eq_true q367
       go_wp2
       repeat (go_quiet (fail); try go_wp2)
       go_ret
       exact ⟨by first | rfl | (simp; done) | (simp [*]; done), by repeat (first | exact Drawn0.refl _ | apply Drawn0.step)⟩
      rw [if_neg c6] at H
      exact absurd H (by simp)
     rw [if_neg c5] at H
     exact absurd H (by simp)
    rw [if_neg c4] at H
    have c4b0 : decide (x5_1 < (l0.length : Int)) = false := decide_eq_false c4
    clear c4
    obtain rfl := Option.some.inj H
    go_wp2
    repeat (go_quiet (fail); try go_wp2)
    go_ret
    exact ⟨by first | rfl | (simp; done) | (simp [*]; done), by repeat (first | exact Drawn0.refl _ | apply Drawn0.step)⟩
 rw [if_neg c3] at H
 have c3b0 : ((l0.length : Int) == (l1.length : Int)) = false := beq_eq_false_iff_ne.mpr c3
 have c3b1 : ((l0.length : Int) != (l1.length : Int)) = true := bne_iff_ne.mpr c3
 have c3b2 : (l0.length == l1.length) = false := by first | simpa using c3 | (simp at c3 ⊢; omega)
 obtain rfl := Option.some.inj H
 go_enter Try.func21, Try.ntmps21
 go_wp2
 repeat (go_quiet (fail); try go_wp2)
 go_ret
 exact ⟨by first | rfl | (simp; done) | (simp [*]; done), by repeat (first | exact Drawn0.refl _ | apply Drawn0.step)⟩


/-! ### laws_markIntS: function 22 -/
def laws_markIntS.l0 : Nat → List Int → Int → Int → Option (Int × List Int)
 | 0, _, _, _ => none
 | k + 1, x0, x1, x5 => if x5 < (x0.length : Int) then (if 0 ≤ x5 then (laws_markIntS.l0 k (x0.set (x5 : Int).toNat x1) (wrap64 (x1 + 1)) (wrap64 (x5 + 1))) else (none)) else (some (x1, x0))
def laws_markIntS.f (k : Nat) (l0 : List Int) (a1 : Int) : Option (Int × List Int) := laws_markIntS.l0 k l0 a1 0
set_option maxHeartbeats 8000000 in
set_option maxRecDepth 100000 in
theorem laws_markIntS.calls (k : Nat) (P0_ : Nat → Prop) (u9000_ : Value) (l0 : List Int) (a1 : Int) (r1 : Int) (r2 : List Int) (w0 w : World) (hB : Below w0.heap.size w0 w) (ho0 : Kd.R (Kd.int .i64) 3 w w0.heap.size P0_ u9000_ l0) (h : laws_markIntS.f k l0 a1 = some (r1, r2)) :
  Calls Try.prog 22 #[u9000_, .int .i64 a1] w fun e w' => e = .returned (.int .i64 r1) ∧ Kd.R (Kd.int .i64) 3 w' w0.heap.size (fun k_ => (P0_ k_ ∨ w.heap.size ≤ k_)) u9000_ r2 ∧ Below w0.heap.size w0 w' ∧ Kept w w' (fun k_ => P0_ k_) := by
 have HO0 := sd_ (show Kd.R (Kd.int .i64) 3 w w0.heap.size (fun k_ => (P0_ k_ ∨ w.heap.size ≤ k_)) u9000_ l0 from Kd.R_mono ho0 (fun k_ hk => (.inl hk)))
 have HK := sd_ (Kept.refl w (fun k_ => P0_ k_))
 have HW0 := sd_ hB.size
 have HB := sd_ hB
 clear hB
 have H : (laws_markIntS.l0 k l0 a1 0) = some (r1, r2) := h
 clear h
 have H' := sd_ H
 clear H
 go_enter Try.func22, Try.ntmps22
 go_wp2
 go_loopg [1, 5] k (fun kq v1 v5 w' => ∃ (x0_1 : List Int) (x1_1 : Int) (x5_1 : Int), v1 = .int .i64 x1_1 ∧ v5 = .int .i64 x5_1 ∧ Aside0 (laws_markIntS.l0 kq x0_1 x1_1 x5_1 = some (r1, r2)) ∧ Aside0 (kq ≤ k) ∧ Aside0 (Kd.R (Kd.int .i64) 3 w' w0.heap.size (fun k_ => (P0_ k_ ∨ w.heap.size ≤ k_)) u9000_ x0_1) ∧ Aside0 (Kept w w' (fun k_ => P0_ k_)) ∧ Aside0 (Below w0.heap.size w0 w'))
 case atStart => exact ⟨(l0), (a1), (0), sm_, sm_, H', ⟨Nat.le_refl _⟩, ⟨by (with_reducible repeat (first | apply Kd.R_alloc | apply Kd.R_drewN | apply Kd.R_drew)); exact HO0.out⟩, ⟨by repeat (first | (with_reducible first | exact HK.out | apply Kept.alloc | apply Kept.drewN | apply Kept.drew) | exact HK.out)⟩, ⟨bw0_ HB.out⟩⟩
 case round =>
  clear H'
  try clear c2
  try clear p2
  obtain ⟨x0_1, x1_1, x5_1, rfl, rfl, HA, HK1, HO_0, HK, HB⟩ := hrel
  cases gk with
  | zero => exact absurd HA.out (by simp [laws_markIntS.l0])
  | succ k1 =>
   have H := HA.out
   clear HA
   simp only [laws_markIntS.l0] at H
   by_cases c3 : x5_1 < (x0_1.length : Int)
   ·rw [if_pos c3] at H
    have c3b0 : decide (x5_1 < (x0_1.length : Int)) = true := decide_eq_true c3
    clear c3
    by_cases c4 : 0 ≤ x5_1
    ·rw [if_pos c4] at H
     have c4b0 : decide (0 ≤ x5_1) = true := decide_eq_true c4
     clear c4
     obtain ⟨y375, hy375⟩ : ∃ y_ : List Int, y_ = (x0_1.set (x5_1 : Int).toNat x1_1) := ⟨_, rfl⟩
     replace H : (laws_markIntS.l0 k1 y375 (wrap64 (x1_1 + 1)) (wrap64 (x5_1 + 1))) = some (r1, r2) := by first | (rw [hy375]; with_reducible exact H) | (have H2_ := (Option.bind_some _ _).symm.trans H; rw [hy375]; with_reducible exact H2_) | (have H2_ := (Option.bind_some _ _).symm.trans H; with_reducible exact H2_) | with_reducible exact H | (rw [hy375]; exact H) | exact H
     have Ny375 := sd_ hy375
     clear hy375
     have H' := sd_ H
     clear H
     obtain ⟨Ao6, co6, eo6⟩ := Kd.R_slice HO_0.out
     subst eo6
     have p5 : 0 ≤ (x5_1 : Int) := dt_
     have q5 : (x5_1 : Int) < ((x0_1.length : Int) : Int) := dt_
     obtain ⟨go5, co5, eo5, gb5, gl5, cl5, HG5⟩ := Kd.R_form HO_0.out (by omega)
     (first | cases eo5 | (injection eo5 with ea_ en_ ec_; (first | subst ea_ | (injection ea_ with ea_; subst ea_)); subst ec_; clear en_))
     have GB5 := sd_ gb5
     have GG5 := sd_ HG5
     clear gb5 gl5 HG5
     have HMgo5 := sd_ (show (P0_ go5 ∨ w.heap.size ≤ go5) from (HO_0.out.1 _ rfl))
     obtain ⟨hx5_0, hf5_0⟩ := Kd.R_celln 0 HO_0.out (x5_1 : Int) p5 q5
     replace p5 := eq_true p5
     replace q5 := eq_true q5
     have HP7 := Kd.R_putg HO_0.out (x5_1 : Int) x1_1
     go_wp2_with (first | ((with_reducible refine gate_store (t := 3) (p := 15) rfl ?_); refine store_event (t := 3) (p := 15) (v := ?vo_w8) (w1 := (wr.setCell ⟨go5, (x5_1 : Int).toNat, none⟩ (.int .i64 x1_1))) ?hg ?ho ?hn ?hr ?_; (case ho => rfl); (case hg => rfl); (case hn => rfl); (case hr => first | (go_simp; done) | (go_simp; rfl)); intro w8 hw; have hg : wr.grownBy w8 (some go5) := (by rw [hw]; exact HP7.2); have hp_ : Kd.R (Kd.int .i64) 3 w8 w0.heap.size (fun k_ => (P0_ k_ ∨ w.heap.size ≤ k_)) (.slice (some ⟨go5, 0, none⟩) x0_1.length co6) y375 := (by rw [hw, Ny375.out]; exact HP7.1); clear HP7; replace HB := sd_ ((by rw [hw]; exact below_set (HB.out) GB5.out : Below w0.heap.size w0 w8)); replace HK := sd_ (Kept.of_grown (S := (fun k_ => P0_ k_)) hg (by repeat (first | (with_reducible first | exact HK.out | apply Kept.alloc | apply Kept.drewN | apply Kept.drew) | exact HK.out)) (fun k_ e_ => (HO_0.out.1 k_ e_))); replace HO_0 := sd_ (hp_); clear hg hw hp_))
     go_roundg k1
     case measure => have := HK1.out; omega
     case rel => exact ⟨(y375), (wrap64 (x1_1 + 1)), (wrap64 (x5_1 + 1)), sm_, sm_, H', ⟨by have := HK1.out; omega⟩, ⟨by (with_reducible repeat (first | apply Kd.R_alloc | apply Kd.R_drewN | apply Kd.R_drew)); exact HO_0.out⟩, ⟨by repeat (first | (with_reducible first | exact HK.out | apply Kept.alloc | apply Kept.drewN | apply Kept.drew) | exact HK.out)⟩, ⟨bw0_ HB.out⟩⟩
    rw [if_neg c4] at H
    exact absurd H (by simp)
   rw [if_neg c3] at H
   have c3b0 : decide (x5_1 < (x0_1.length : Int)) = false := decide_eq_false c3
   clear c3
   simp only [Option.some.injEq, Prod.mk.injEq] at H
   obtain ⟨rfl, rfl⟩ := H
   obtain ⟨Ao9, co9, eo9⟩ := Kd.R_slice HO_0.out
   subst eo9
   go_wp2
   go_ret
   exact ⟨an_, by (with_reducible repeat (first | apply Kd.R_alloc | apply Kd.R_drewN | apply Kd.R_drew)); exact HO_0.out, bw0_ HB.out, by repeat (first | (with_reducible first | exact HK.out | apply Kept.alloc | apply Kept.drewN | apply Kept.drew) | exact HK.out)⟩


/-! ### laws_szBoolS: function 35 -/
def laws_szBoolS.f (l0 : List Bool) (a1 : Int) : Option (Int) := if (wrap64 (a1 - (l0.length : Int))) < 0 then (some (-1)) else (some (wrap64 (a1 - (l0.length : Int))))
set_option maxHeartbeats 8000000 in
set_option maxRecDepth 100000 in
theorem laws_szBoolS.calls (A0 : Option Addr) (c0 : Nat) (l0 : List Bool) (a1 : Int) (r : Int) (w : World) (hr0 : Kd.C Kd.bool w A0 l0.length l0) (hc0 : l0.length ≤ c0) (h : laws_szBoolS.f l0 a1 = some r) :
  Calls Try.prog 35 #[.slice A0 l0.length c0, .int .i64 a1] w fun e w' => e = .returned (.int .i64 r) ∧ Drawn0 w w' := by
 have HR0 := sd_ hr0
 have HC0 := sd_ hc0
 clear hr0 hc0
 have H : (if (wrap64 (a1 - (l0.length : Int))) < 0 then (some (-1)) else (some (wrap64 (a1 - (l0.length : Int))))) = some r := h
 clear h
 by_cases c3 : (wrap64 (a1 - (l0.length : Int))) < 0
 ·rw [if_pos c3] at H
  have c3b0 : decide ((wrap64 (a1 - (l0.length : Int))) < 0) = true := decide_eq_true c3
  clear c3
  obtain rfl := Option.some.inj H
  go_enter Try.func35, Try.ntmps35
  go_wp2
  go_ret
  exact ⟨by first | rfl | (simp; done) | (simp [*]; done), by repeat (first | exact Drawn0.refl _ | apply Drawn0.step)⟩
 rw [if_neg c3] at H
 have c3b0 : decide ((wrap64 (a1 - (l0.length : Int))) < 0) = false := decide_eq_false c3
 clear c3
 obtain rfl := Option.some.inj H
 go_enter Try.func35, Try.ntmps35
 go_wp2
 go_ret
 exact ⟨by first | rfl | (simp; done) | (simp [*]; done), by repeat (first | exact Drawn0.refl _ | apply Drawn0.step)⟩


/-! ### spec_l1First: function 37 -/
def spec_l1First.f (a0 : Int) (a1 : Int) : Option (Int) := if a1 = 0 then (some 0) else (if a1 = 1 then (some 1) else (if a1 ≤ (wrap64 (a0 + 1)) then (if a0 = 0 then (none) else (some (wrap64 (Int.tdiv (wrap64 (a1 - 1)) a0)))) else (if a0 = 0 then (none) else (some (wrap64 (Int.tdiv a1 a0))))))
set_option maxHeartbeats 8000000 in
set_option maxRecDepth 100000 in
theorem spec_l1First.calls (a0 : Int) (a1 : Int) (r : Int) (w : World) (h : spec_l1First.f a0 a1 = some r) :
  Calls Try.prog 37 #[.int .i64 a0, .int .i64 a1] w fun e w' => e = .returned (.int .i64 r) ∧ Drawn0 w w' := by
 have H : (if a1 = 0 then (some 0) else (if a1 = 1 then (some 1) else (if a1 ≤ (wrap64 (a0 + 1)) then (if a0 = 0 then (none) else (some (wrap64 (Int.tdiv (wrap64 (a1 - 1)) a0)))) else (if a0 = 0 then (none) else (some (wrap64 (Int.tdiv a1 a0))))))) = some r := h
 clear h
 by_cases c3 : a1 = 0
 ·rw [if_pos c3] at H
  have c3b0 : (a1 == 0) = true := beq_iff_eq.mpr c3
  have c3b1 : (a1 != 0) = false := bne_eq_false_iff_eq.mpr c3
  clear c3
  obtain rfl := Option.some.inj H
  go_enter Try.func37, Try.ntmps37
  go_wp2
  go_ret
  exact ⟨by first | rfl | (simp; done) | (simp [*]; done), by repeat (first | exact Drawn0.refl _ | apply Drawn0.step)⟩
 rw [if_neg c3] at H
 have c3b0 : (a1 == 0) = false := beq_eq_false_iff_ne.mpr c3
 have c3b1 : (a1 != 0) = true := bne_iff_ne.mpr c3
 by_cases c4 : a1 = 1
 ·rw [if_pos c4] at H
  have c4b0 : (a1 == 1) = true := beq_iff_eq.mpr c4
  have c4b1 : (a1 != 1) = false := bne_eq_false_iff_eq.mpr c4
  clear c4
  obtain rfl := Option.some.inj H
  go_enter Try.func37, Try.ntmps37
  go_wp2
  go_ret
  exact ⟨by first | rfl | (simp; done) | (simp [*]; done), by repeat (first | exact Drawn0.refl _ | apply Drawn0.step)⟩
 rw [if_neg c4] at H
 have c4b0 : (a1 == 1) = false := beq_eq_false_iff_ne.mpr c4
 have c4b1 : (a1 != 1) = true := bne_iff_ne.mpr c4
 by_cases c5 : a1 ≤ (wrap64 (a0 + 1))
 ·rw [if_pos c5] at H
  have c5b0 : decide (a1 ≤ (wrap64 (a0 + 1))) = true := decide_eq_true c5
  clear c5
  by_cases c6 : a0 = 0
  ·rw [if_pos c6] at H
   exact absurd H (by simp)
  rw [if_neg c6] at H
  have c6b0 : (a0 == 0) = false := beq_eq_false_iff_ne.mpr c6
  have c6b1 : (a0 != 0) = true := bne_iff_ne.mpr c6
  obtain rfl := Option.some.inj H
  go_enter Try.func37, Try.ntmps37
  go_wp2
  go_ret
  exact ⟨by first | rfl | (simp; done) | (simp [*]; done), by repeat (first | exact Drawn0.refl _ | apply Drawn0.step)⟩
 rw [if_neg c5] at H
 have c5b0 : decide (a1 ≤ (wrap64 (a0 + 1))) = false := decide_eq_false c5
 clear c5
 by_cases c7 : a0 = 0
 ·rw [if_pos c7] at H
  exact absurd H (by simp)
 rw [if_neg c7] at H
 have c7b0 : (a0 == 0) = false := beq_eq_false_iff_ne.mpr c7
 have c7b1 : (a0 != 0) = true := bne_iff_ne.mpr c7
 obtain rfl := Option.some.inj H
 go_enter Try.func37, Try.ntmps37
 go_wp2
 go_ret
 exact ⟨by first | rfl | (simp; done) | (simp [*]; done), by repeat (first | exact Drawn0.refl _ | apply Drawn0.step)⟩


/-! ### impl_within: function 104 -/
def impl_within.f (a0 : Int) (a1 : Int) (a2 : Int) : Option (Bool) := if a0 ≥ a1 then (some (decide (a0 ≤ a2))) else (some false)
set_option maxHeartbeats 8000000 in
set_option maxRecDepth 100000 in
theorem impl_within.calls (a0 : Int) (a1 : Int) (a2 : Int) (r : Bool) (w : World) (h : impl_within.f a0 a1 a2 = some r) :
  Calls Try.prog 104 #[.int .i64 a0, .int .i64 a1, .int .i64 a2] w fun e w' => e = .returned (.bool r) ∧ Drawn0 w w' := by
 have H : (if a0 ≥ a1 then (some (decide (a0 ≤ a2))) else (some false)) = some r := h
 clear h
 by_cases c4 : a0 ≥ a1
 ·rw [if_pos c4] at H
  have c4b0 : decide (a1 ≤ a0) = true := decide_eq_true c4
  clear c4
  obtain rfl := Option.some.inj H
  go_enter Try.func104, Try.ntmps104
  go_wp2
  go_ret
  exact ⟨by first | rfl | (simp; done) | (simp [*]; done), by repeat (first | exact Drawn0.refl _ | apply Drawn0.step)⟩
 rw [if_neg c4] at H
 have c4b0 : decide (a1 ≤ a0) = false := decide_eq_false c4
 clear c4
 obtain rfl := Option.some.inj H
 go_enter Try.func104, Try.ntmps104
 go_wp2
 go_ret
 exact ⟨by first | rfl | (simp; done) | (simp [*]; done), by repeat (first | exact Drawn0.refl _ | apply Drawn0.step)⟩

end Go.Proofs.Ytipfkicndjddgaa.P
end
