-- Several texts in one (wip/tools/merge.py).
import Derived.Test.YtmcepfimcedocaaDoorP0
import Derived.ProofKit
import Derived.ChangeArms
import Derived.Deep.Slices
import Derived.Lib.SmallJoins
section
/- How what a law is handed reads as a value of the printed kinds: whole numbers, bools, strings, slices, structs. -/
namespace Go.Proofs.YtmcepfimcedocaaDoor.P
open Go.RowKit Go.Proofs.YtmcepfimcedocaaDoorW.PrintWords Go.Proofs.YtmcepfimcedocaaDoorW.PrintLast Go.Proofs.YtmcepfimcedocaaDoorW.PrintMore

/-- What reads as data of type t holds a value of the kind d. -/
def Opens {α : Type} (t : TypeId) (d : Kd α) (wf : α → Prop) : Prop :=
  ∀ (H : Type) (enc : TypeId × Value → H) (w : World) (fuel : Nat) (cs : List Value) (x : DataW H × List MemPlace),
    DataW.trod enc Tryd.prog w 0 (fun _ => true) true fuel t cs = some x → ∃ y : α, d.K w y cs ∧ wf y

theorem opens_int {t : TypeId} {k : IntKind} (hu : Tryd.prog.underlying t = some (.int k)) : Opens t (Kd.int k) (fun n => (Lit.int k n).wf = true) := by
  intro H enc w fuel cs x h
  obtain ⟨n, rfl, _, hw⟩ := DataW.trod_int hu h
  exact ⟨n, rfl, hw⟩
theorem opens_bool {t : TypeId} (hu : Tryd.prog.underlying t = some .bool) : Opens t Kd.bool (fun _ => True) := by
  intro H enc w fuel cs x h
  obtain ⟨n, rfl, _⟩ := DataW.trod_bool hu h
  exact ⟨n, rfl, trivial⟩
theorem list_of {α : Type} (n : Nat) {p : Nat → α → Prop} (h : ∀ i, i < n → ∃ a, p i a) : ∃ l : List α, l.length = n ∧ ∀ i a, l[i]? = some a → p i a := by
  induction n with
  | zero => exact ⟨[], rfl, fun i a h => by simp at h⟩
  | succ n ih =>
    obtain ⟨l, hl, hp⟩ := ih (fun i hi => h i (by omega))
    obtain ⟨a, ha⟩ := h n (by omega)
    refine ⟨l ++ [a], by simp [hl], fun i b hb => ?_⟩
    rcases Nat.lt_or_ge i l.length with hi | hi
    · rw [List.getElem?_append_left hi] at hb
      exact hp i b hb
    · rw [List.getElem?_append_right hi] at hb
      have hi2 : i - l.length = 0 := by
        have := (List.getElem?_eq_some_iff.1 hb).1
        simp at this
        omega
      rw [hi2] at hb
      simp at hb
      subst hb
      rw [show i = n by omega]
      exact ha

/-- A slice's elements, each read with less fuel. -/
theorem slice_opens {α : Type} {t e : TypeId} {d : Kd α} {wf : α → Prop} (hu : Tryd.prog.underlying t = some (.slice e)) (hc : Tryd.prog.cellsOf e = d.sz) {H : Type} {enc : TypeId × Value → H} {w : World} {fuel : Nat} {cs : List Value} {x : DataW H × List MemPlace}
    (h : DataW.trod enc Tryd.prog w 0 (fun _ => true) true fuel t cs = some x)
    (he : ∀ n cs y, n < fuel → DataW.trod enc Tryd.prog w 0 (fun _ => true) true n e cs = some y → ∃ z : α, d.K w z cs ∧ wf z) :
    ∃ l : List α, (Kd.slice e d).K w l cs ∧ (∀ z ∈ l, wf z) ∧ l.length ≤ maxLen := by
  rcases DataW.trod_slice hu h with ⟨rfl, _⟩ | ⟨a, len, cap, elems, rest, n, rfl, rfl, _, _, hl, hm, hlen, hel, _⟩
  · exact ⟨[], ⟨none, 0, rfl, Nat.le_refl _, by exact Kd.C_nil _ _⟩, by simp, by simp⟩
  · obtain ⟨l, hll, hp⟩ := list_of (α := α) len (p := fun i z => wf z ∧ ∃ c, c.length = d.sz ∧ d.K w z c ∧ ∀ j u, c[j]? = some u → w.cell? (a.add (i * d.sz + j)) = some u) (fun i hi => by
      have h1 := hel i hi
      rw [List.getElem?_eq_getElem (by omega)] at h1
      obtain ⟨c, hc1, hc2⟩ := Option.bind_eq_some_iff.1 h1
      obtain ⟨z, hz, hwz⟩ := he n c _ (by omega) hc2
      obtain ⟨_, hlc, hcell⟩ := World.cells?_some hc1
      rw [hc] at hlc hcell
      refine ⟨z, hwz, c, hlc, hz, fun j u hu2 => ?_⟩
      have hj : j < d.sz := by have := (List.getElem?_eq_some_iff.1 hu2).1; omega
      have h2 := hcell j hj
      rw [hu2, Addr.add_add] at h2
      exact h2)
    refine ⟨l, ⟨some a, cap, by rw [hll], by omega, ?_⟩, fun z hz => ?_, by omega⟩
    · refine ⟨rfl, by rw [hll]; unfold maxLen at hm; omega, fun _ => ⟨a, rfl, fun j p hj => (hp j p hj).2⟩⟩
    · obtain ⟨i, hi⟩ := List.getElem?_of_mem hz
      exact (hp i z hi).1
theorem opens_slice {α : Type} {t e : TypeId} {d : Kd α} {wf : α → Prop} (hu : Tryd.prog.underlying t = some (.slice e)) (hc : Tryd.prog.cellsOf e = d.sz) (he : Opens e d wf) :
    Opens t (Kd.slice e d) (fun l => (∀ z ∈ l, wf z) ∧ l.length ≤ maxLen) :=
  fun H enc w _ _ _ h => slice_opens hu hc h (fun n cs y _ hy => he H enc w n cs y hy)
theorem struct4_parts {t : TypeId} {f0 f1 f2 f3 : Field} {H : Type} {enc : TypeId × Value → H} {w : World} {fuel : Nat} {cs : List Value} {x : DataW H × List MemPlace} (ht : Tryd.prog.underlying t = some (.struct #[f0, f1, f2, f3])) (h : DataW.trod enc Tryd.prog w 0 (fun _ => true) true fuel t cs = some x) :
    ∃ y0 y1 y2 y3 n, n < fuel ∧ cs.length = Tryd.prog.cellsOf t ∧ DataW.trod enc Tryd.prog w 0 (fun _ => true) true n f0.type ((cs.drop f0.offset).take (Tryd.prog.cellsOf f0.type)) = some y0 ∧ DataW.trod enc Tryd.prog w 0 (fun _ => true) true n f1.type ((cs.drop f1.offset).take (Tryd.prog.cellsOf f1.type)) = some y1 ∧ DataW.trod enc Tryd.prog w 0 (fun _ => true) true n f2.type ((cs.drop f2.offset).take (Tryd.prog.cellsOf f2.type)) = some y2 ∧ DataW.trod enc Tryd.prog w 0 (fun _ => true) true n f3.type ((cs.drop f3.offset).take (Tryd.prog.cellsOf f3.type)) = some y3 := by
  obtain ⟨xs, n, hn, rfl, hl, hlen, hf⟩ := DataW.trod_struct ht h
  match xs, hlen with
  | [y0, y1, y2, y3], _ => exact ⟨y0, y1, y2, y3, n, by omega, hl, by simpa using hf 0 f0 rfl, by simpa using hf 1 f1 rfl, by simpa using hf 2 f2 rfl, by simpa using hf 3 f3 rfl⟩
theorem list4_of {α : Type} {l : List α} (h : l.length = 4) : ∃ c0 c1 c2 c3, l = [c0, c1, c2, c3] := by
  match l, h with
  | [c0, c1, c2, c3], _ => exact ⟨c0, c1, c2, c3, rfl⟩
theorem opens_25 : Opens 25 k25 Wf25 := by
  intro H enc w fuel
  induction fuel using Nat.strongRecOn with
  | _ fuel ih =>
  intro cs x h
  obtain ⟨y0, y1, y2, y3, n, hn, hlen, h0, h1, h2, h3⟩ := struct4_parts Tryd.underlying25 h
  rw [show Tryd.prog.cellsOf 25 = 4 from by kernel_rfl] at hlen
  obtain ⟨c0, c1, c2, c3, rfl⟩ := list4_of hlen
  have g0 : DataW.trod enc Tryd.prog w 0 (fun _ => true) true n 3 [c0] = some y0 := by
    have e0 : Tryd.prog.cellsOf 3 = 1 := by kernel_rfl
    have z0 := h0
    simp only [e0] at z0
    exact z0
  have g1 : DataW.trod enc Tryd.prog w 0 (fun _ => true) true n 22 [c1] = some y1 := by
    have e1 : Tryd.prog.cellsOf 22 = 1 := by kernel_rfl
    have z1 := h1
    simp only [e1] at z1
    exact z1
  have g2 : DataW.trod enc Tryd.prog w 0 (fun _ => true) true n 22 [c2] = some y2 := by
    have e2 : Tryd.prog.cellsOf 22 = 1 := by kernel_rfl
    have z2 := h2
    simp only [e2] at z2
    exact z2
  have g3 : DataW.trod enc Tryd.prog w 0 (fun _ => true) true n 23 [c3] = some y3 := by
    have e3 : Tryd.prog.cellsOf 23 = 1 := by kernel_rfl
    have z3 := h3
    simp only [e3] at z3
    exact z3
  obtain ⟨z0, e0, hw0⟩ := (opens_int Tryd.underlying3) H enc w n _ _ g0
  replace e0 : [c0] = [.int .i64 z0] := e0
  obtain ⟨z1, ⟨A1, d1, e1, hl1, hC1⟩, hw1⟩ := (opens_slice Tryd.underlying22 (by kernel_rfl) (opens_int Tryd.underlying3)) H enc w n _ _ g1
  obtain ⟨z2, ⟨A2, d2, e2, hl2, hC2⟩, hw2⟩ := (opens_slice Tryd.underlying22 (by kernel_rfl) (opens_int Tryd.underlying3)) H enc w n _ _ g2
  obtain ⟨z3, ⟨A3, d3, e3, hl3, hC3⟩, hw3⟩ := (opens_slice Tryd.underlying23 (by kernel_rfl) (opens_bool Tryd.underlying4)) H enc w n _ _ g3
  obtain rfl := (List.cons.inj e0).1
  obtain rfl := (List.cons.inj e1).1
  obtain rfl := (List.cons.inj e2).1
  obtain rfl := (List.cons.inj e3).1
  exact ⟨⟨z0, z1, z2, z3⟩, k25_mk w ⟨z0, z1, z2, z3⟩ hl1 hC1 hl2 hC2 hl3 hC3, .mk _ _ _ _ hw0 hw1 hw2 hw3⟩
end Go.Proofs.YtmcepfimcedocaaDoor.P
end

section
namespace Go.Proofs.YtmcepfimcedocaaDoor.P
open Go.RowKit Go.Proofs.YtmcepfimcedocaaDoorW.PrintWords Go.Proofs.YtmcepfimcedocaaDoorW.PrintLast Go.Proofs.YtmcepfimcedocaaDoorW.PrintMore
attribute [local go_sem] max2_int min2_int max_two min_two max_three min_three max_four min_four   -- for this text's walks alone
set_option linter.unusedVariables false
set_option linter.unusedSimpArgs false

theorem eqA64 (d : Nat) (w : World) (x0 y0 : Int) (x1 y1 : Int) :
    (Op.equalIn (d + 2) 64 (.agg #[.int .i64 x0, .int .i64 x1]) (.agg #[.int .i64 y0, .int .i64 y1])).run Tryd.prog w = .ok (x0 == y0 && (x1 == y1)) w := by
  have u3 := Tryd.underlying3
  have a3 := Tryd.isAgg3
  have z3 := Tryd.sizeOf3
  rw [Op.equalIn]
  simp only [Sem.run_bind, run_underlying Tryd.underlying64, Result.andThen_ok]
  simp only [Std.Legacy.Range.forIn_eq_forIn_range', Std.Legacy.Range.size, Nat.sub_zero, Nat.add_sub_cancel, Nat.div_one, List.range'_succ, List.range'_zero, List.forIn_cons, List.forIn_nil]
  go_simp
  by_cases h1 : x0 = y0 <;> by_cases h2 : x1 = y1 <;> simp [h1, h2]
/-! ### laws_szIntS: function 14 -/
def laws_szIntS.f (l0 : List Int) (a1 : Int) : Option (Int) := if (wrap64 (a1 - (l0.length : Int))) < 0 then (some (-1)) else (some (wrap64 (a1 - (l0.length : Int))))
set_option maxHeartbeats 8000000 in
set_option maxRecDepth 100000 in
theorem laws_szIntS.calls (A0 : Option Addr) (c0 : Nat) (l0 : List Int) (a1 : Int) (r : Int) (w : World) (hr0 : Kd.C (Kd.int .i64) w A0 l0.length l0) (hc0 : l0.length ≤ c0) (h : laws_szIntS.f l0 a1 = some r) :
  Calls Tryd.prog 14 #[.slice A0 l0.length c0, .int .i64 a1] w fun e w' => e = .returned (.int .i64 r) ∧ Drawn0 w w' := by
 have HR0 := sd_ hr0; have HC0 := sd_ hc0; clear hr0 hc0; have H : (if (wrap64 (a1 - (l0.length : Int))) < 0 then (some (-1)) else (some (wrap64 (a1 - (l0.length : Int))))) = some r := h; clear h; revert H; refine ic_ (fun c3b0 H => ?_) (fun c3b0 H => ?_)
 ·obtain rfl := Option.some.inj H; go_enter Tryd.func14, Tryd.ntmps14; go_wp2; go_ret; exact ⟨by first | rfl | (simp; done) | (simp [*]; done), by repeat (first | exact Drawn0.refl _ | apply Drawn0.step)⟩
 obtain rfl := Option.some.inj H; go_enter Tryd.func14, Tryd.ntmps14; go_wp2; go_ret; exact ⟨by first | rfl | (simp; done) | (simp [*]; done), by repeat (first | exact Drawn0.refl _ | apply Drawn0.step)⟩

/-! ### laws_szBoolS: function 15 -/
def laws_szBoolS.f (l0 : List Bool) (a1 : Int) : Option (Int) := if (wrap64 (a1 - (l0.length : Int))) < 0 then (some (-1)) else (some (wrap64 (a1 - (l0.length : Int))))
set_option maxHeartbeats 8000000 in
set_option maxRecDepth 100000 in
theorem laws_szBoolS.calls (A0 : Option Addr) (c0 : Nat) (l0 : List Bool) (a1 : Int) (r : Int) (w : World) (hr0 : Kd.C Kd.bool w A0 l0.length l0) (hc0 : l0.length ≤ c0) (h : laws_szBoolS.f l0 a1 = some r) :
  Calls Tryd.prog 15 #[.slice A0 l0.length c0, .int .i64 a1] w fun e w' => e = .returned (.int .i64 r) ∧ Drawn0 w w' := by
 have HR0 := sd_ hr0; have HC0 := sd_ hc0; clear hr0 hc0; have H : (if (wrap64 (a1 - (l0.length : Int))) < 0 then (some (-1)) else (some (wrap64 (a1 - (l0.length : Int))))) = some r := h; clear h; revert H; refine ic_ (fun c3b0 H => ?_) (fun c3b0 H => ?_)
 ·obtain rfl := Option.some.inj H; go_enter Tryd.func15, Tryd.ntmps15; go_wp2; go_ret; exact ⟨by first | rfl | (simp; done) | (simp [*]; done), by repeat (first | exact Drawn0.refl _ | apply Drawn0.step)⟩
 obtain rfl := Option.some.inj H; go_enter Tryd.func15, Tryd.ntmps15; go_wp2; go_ret; exact ⟨by first | rfl | (simp; done) | (simp [*]; done), by repeat (first | exact Drawn0.refl _ | apply Drawn0.step)⟩

/-! ### laws_szSystem: function 5 -/
def laws_szSystem.f (a0_0 : Int) (l0_1 : List Int) (l0_2 : List Int) (l0_3 : List Bool) (a1 : Int) : Option (Int) := (laws_szIntS.f l0_1 a1).bind fun t102 => (if t102 < 0 then (some (-1)) else ((laws_szIntS.f l0_2 t102).bind fun t103 => (if t103 < 0 then (some (-1)) else ((laws_szBoolS.f l0_3 t103).bind fun t104 => (if t104 < 0 then (some (-1)) else (some t104))))))
set_option maxHeartbeats 8000000 in
set_option maxRecDepth 100000 in
theorem laws_szSystem.calls (a0_0 : Int) (A0_1 : Option Addr) (c0_1 : Nat) (l0_1 : List Int) (A0_2 : Option Addr) (c0_2 : Nat) (l0_2 : List Int) (A0_3 : Option Addr) (c0_3 : Nat) (l0_3 : List Bool) (a1 : Int) (r : Int) (w : World) (hr0_1 : Kd.C (Kd.int .i64) w A0_1 l0_1.length l0_1) (hc0_1 : l0_1.length ≤ c0_1) (hr0_2 : Kd.C (Kd.int .i64) w A0_2 l0_2.length l0_2) (hc0_2 : l0_2.length ≤ c0_2) (hr0_3 : Kd.C Kd.bool w A0_3 l0_3.length l0_3) (hc0_3 : l0_3.length ≤ c0_3) (h : laws_szSystem.f a0_0 l0_1 l0_2 l0_3 a1 = some r) :
  Calls Tryd.prog 5 #[.agg #[.int .i64 a0_0, .slice A0_1 l0_1.length c0_1, .slice A0_2 l0_2.length c0_2, .slice A0_3 l0_3.length c0_3], .int .i64 a1] w fun e w' => e = .returned (.int .i64 r) ∧ Below w.heap.size w w' := by
 have hu25 := Tryd.underlying25; have HR0_1 := sd_ hr0_1; have HC0_1 := sd_ hc0_1; clear hr0_1 hc0_1; have HR0_2 := sd_ hr0_2; have HC0_2 := sd_ hc0_2; clear hr0_2 hc0_2; have HR0_3 := sd_ hr0_3; have HC0_3 := sd_ hc0_3; clear hr0_3 hc0_3; have HB := sd_ (Below.refl w.heap.size w); have H : ((laws_szIntS.f l0_1 a1).bind fun t102 => (if t102 < 0 then (some (-1)) else ((laws_szIntS.f l0_2 t102).bind fun t103 => (if t103 < 0 then (some (-1)) else ((laws_szBoolS.f l0_3 t103).bind fun t104 => (if t104 < 0 then (some (-1)) else (some t104))))))) = some r := h; clear h
 revert H; refine ob_ fun t102 A3 H => ?_
 have HP4 := sd_ H; clear H; go_enter Tryd.func5, Tryd.ntmps5; go_upto_if 10 with (first | ((with_reducible refine gate_dst (N := 2) rfl ?_); refine bx_ (N := 2) (cs := #[.int .i64 a0_0, .slice A0_1 l0_1.length c0_1, .slice A0_2 l0_2.length c0_2, .slice A0_3 l0_3.length c0_3]) (t := 25) ?_; intro gb101 hg w5 hbox hb; have BK101 := sd_ (hbox); have GW101 := sd_ (gs_ hg (bw0_ HB.out)); have GE101 := sd_ (gs_ hg (bw0_ HB.out)); replace HB := sd_ (below_step (bw0_ HB.out) hb); clear hb hbox hg; obtain ⟨z6_0, z6_1, z6_2, z6_3, f6_0, f6_1, f6_2, f6_3⟩ := bf4_ BK101.out) | ((with_reducible refine gate_callee (f := 14) rfl ?_); refine goesL_ (some 8) rfl rfl Tryd.func14 (by kernel_rfl) rfl #[.slice A0_1 l0_1.length c0_1, .int .i64 a1] rfl la_ ?_; (with_reducible refine (laws_szIntS.calls _ _ l0_1 a1 t102 _ (kc_ HR0_1.out HB.out) HC0_1.out A3.out).mono ?_); rintro e w' ⟨rfl, ⟨nd, rfl⟩⟩; refine ⟨_, rfl, ?_⟩)); have H := HP4.out; clear HP4; revert H; refine ic_ (fun c7b0 H => ?_) (fun c7b0 H => ?_)
 ·(first | rw [c7b0] | (simp only [i64_w, i32_w]; rw [c7b0]) | skip); obtain rfl := Option.some.inj H; go_wp2; go_ret; exact ⟨an_, bw1_ HB.out GE101.out⟩
 (first | rw [c7b0] | (simp only [i64_w, i32_w]; rw [c7b0]) | skip)
 revert H; refine ob_ fun t103 A8 H => ?_
 revert H; refine ic_ (fun c9b0 H => ?_) (fun c9b0 H => ?_)
 ·obtain rfl := Option.some.inj H; obtain ⟨z10_0, z10_1, z10_2, z10_3, f10_0, f10_1, f10_2, f10_3⟩ := bf4_ BK101.out; go_wp2_with (first | ((with_reducible refine gate_callee (f := 14) rfl ?_); refine goesL_ (some 14) rfl rfl Tryd.func14 (by kernel_rfl) rfl #[.slice A0_2 l0_2.length c0_2, .int .i64 t102] rfl la_ ?_; (with_reducible refine (laws_szIntS.calls _ _ l0_2 t102 t103 _ (kc_ HR0_2.out HB.out) HC0_2.out A8.out).mono ?_); rintro e w' ⟨rfl, ⟨nd, rfl⟩⟩; refine ⟨_, rfl, ?_⟩)); go_ret; exact ⟨an_, bw1_ HB.out GE101.out⟩
 revert H; refine ob_ fun t104 A11 H => ?_
 revert H; refine ic_ (fun c12b0 H => ?_) (fun c12b0 H => ?_)
 ·obtain rfl := Option.some.inj H; obtain ⟨z13_0, z13_1, z13_2, z13_3, f13_0, f13_1, f13_2, f13_3⟩ := bf4_ BK101.out; go_wp2_with (first | ((with_reducible refine gate_callee (f := 14) rfl ?_); refine goesL_ (some 14) rfl rfl Tryd.func14 (by kernel_rfl) rfl #[.slice A0_2 l0_2.length c0_2, .int .i64 t102] rfl la_ ?_; (with_reducible refine (laws_szIntS.calls _ _ l0_2 t102 t103 _ (kc_ HR0_2.out HB.out) HC0_2.out A8.out).mono ?_); rintro e w' ⟨rfl, ⟨nd, rfl⟩⟩; refine ⟨_, rfl, ?_⟩) | ((with_reducible refine gate_callee (f := 15) rfl ?_); refine goesL_ (some 20) rfl rfl Tryd.func15 (by kernel_rfl) rfl #[.slice A0_3 l0_3.length c0_3, .int .i64 t103] rfl la_ ?_; (with_reducible refine (laws_szBoolS.calls _ _ l0_3 t103 t104 _ ?side1 ?side2 A11.out).mono ?_); (case side1 => repeat (first | exact (Kd.C_below HR0_3.out (bw1_ HB.out GE101.out)) | (with_reducible refine Kd.C_alloc ?_ _) | (with_reducible refine Kd.C_drewN ?_ _) | (with_reducible refine Kd.C_drew ?_))); (case side2 => exact HC0_3.out); rintro e w' ⟨rfl, ⟨nd, rfl⟩⟩; refine ⟨_, rfl, ?_⟩)); go_ret; exact ⟨an_, bw1_ HB.out GE101.out⟩
 obtain rfl := Option.some.inj H; obtain ⟨z14_0, z14_1, z14_2, z14_3, f14_0, f14_1, f14_2, f14_3⟩ := bf4_ BK101.out; go_wp2_with (first | ((with_reducible refine gate_callee (f := 14) rfl ?_); refine goesL_ (some 14) rfl rfl Tryd.func14 (by kernel_rfl) rfl #[.slice A0_2 l0_2.length c0_2, .int .i64 t102] rfl la_ ?_; (with_reducible refine (laws_szIntS.calls _ _ l0_2 t102 t103 _ (kc_ HR0_2.out HB.out) HC0_2.out A8.out).mono ?_); rintro e w' ⟨rfl, ⟨nd, rfl⟩⟩; refine ⟨_, rfl, ?_⟩) | ((with_reducible refine gate_callee (f := 15) rfl ?_); refine goesL_ (some 20) rfl rfl Tryd.func15 (by kernel_rfl) rfl #[.slice A0_3 l0_3.length c0_3, .int .i64 t103] rfl la_ ?_; (with_reducible refine (laws_szBoolS.calls _ _ l0_3 t103 t104 _ ?side1 ?side2 A11.out).mono ?_); (case side1 => repeat (first | exact (Kd.C_below HR0_3.out (bw1_ HB.out GE101.out)) | (with_reducible refine Kd.C_alloc ?_ _) | (with_reducible refine Kd.C_drewN ?_ _) | (with_reducible refine Kd.C_drew ?_))); (case side2 => exact HC0_3.out); rintro e w' ⟨rfl, ⟨nd, rfl⟩⟩; refine ⟨_, rfl, ?_⟩)); go_ret; exact ⟨an_, bw1_ HB.out GE101.out⟩

/-! ### laws_toIntS: function 21 -/
def laws_toIntS.l0 : Nat → List Int → List Int → Int → Option (List Int)
 | 0, _, _, _ => none
 | k + 1, x0, x3, x4 => if x4 < (x0.length : Int) then (if 0 ≤ x4 then (if x4 < (x3.length : Int) then (laws_toIntS.l0 k x0 (x3.set (x4 : Int).toNat (rd x0 x4)) (wrap64 (x4 + 1))) else (none)) else (none)) else (some x3)
def laws_toIntS.f (k : Nat) (l0 : List Int) : Option (List Int) := if 0 ≤ (l0.length : Int) then (if ((l0.length : Int) : Int).toNat ≤ 35184372088832 then (laws_toIntS.l0 k l0 (List.replicate ((l0.length : Int) : Int).toNat 0) 0) else (none)) else (none)
set_option maxHeartbeats 8000000 in
set_option maxRecDepth 100000 in
theorem laws_toIntS.calls (k : Nat) (A0 : Option Addr) (c0 : Nat) (l0 : List Int) (r : List Int) (w : World) (hr0 : Kd.C (Kd.int .i64) w A0 l0.length l0) (hc0 : l0.length ≤ c0) (h : laws_toIntS.f k l0 = some r) :
  Calls Tryd.prog 21 #[.slice A0 l0.length c0] w fun e w' => ∃ v0_ : Value, e = .returned (v0_) ∧ Kd.R (Kd.int .i64) 3 w' w.heap.size (fun _ => True) v0_ r ∧ Below w.heap.size w w' := by
 have HR0 := sd_ hr0; have HC0 := sd_ hc0; clear hr0 hc0; have HB := sd_ (Below.refl w.heap.size w); have H : (if 0 ≤ (l0.length : Int) then (if ((l0.length : Int) : Int).toNat ≤ 35184372088832 then (laws_toIntS.l0 k l0 (List.replicate ((l0.length : Int) : Int).toNat 0) 0) else (none)) else (none)) = some r := h; clear h; by_cases c2 : 0 ≤ (l0.length : Int)
 ·rw [if_pos c2] at H; have c2b0 := eq_true c2; have c2b1 : decide (0 ≤ (l0.length : Int)) = true := decide_eq_true c2; clear c2; by_cases c3 : ((l0.length : Int) : Int).toNat ≤ 35184372088832
  ·rw [if_pos c3] at H; have c3b0 := eq_true c3; have c3b1 : decide (((l0.length : Int) : Int).toNat ≤ 35184372088832) = true := decide_eq_true c3; clear c3; generalize hy383 : (List.replicate ((l0.length : Int) : Int).toNat 0 : List Int) = y383 at H; have Ny383 := sd_ hy383.symm; clear hy383; have H' := sd_ H; clear H; go_enter Tryd.func21, Tryd.ntmps21; go_wp2_with (first | ((with_reducible refine gate_dst (N := 7) rfl ?_); refine Kd.R_make (Kd.int .i64) _ 3 rfl (N := 7) rfl 22 _ _ rfl (l0.length : Int) rfl rfl Tryd.underlying22 (.int .i64 0) 8 info3 rfl (by decide) (by omega) 0 (ok := fun _ => True) (okp := fun _ => True) rfl (fun _ hk => hk) trivial (dt_) (Nat.le_trans (Nat.mul_le_mul_right _ (dt_ : (l0.length : Int).toNat ≤ 35184372088832)) (by omega)) (Below.refl _ _) (Nat.le_refl _) ?_; intro v384 w4 ho5 hb hg_ hnew_; clear hg_ hnew_; (first | rw [← Ny383.out] at ho5 | (simp only [Int.reduceToNat] at ho5; rw [← Ny383.out] at ho5)); have HO385 := sd_ (Kd.R_lower ho5 (below_size (bw0_ HB.out))); replace HB := sd_ (below_step (bw0_ HB.out) hb); clear hb ho5))
   go_loopg [4] k (fun kq v4 w' => ∃ (x3_1 : List Int) (x4_1 : Int), v4 = .int .i64 x4_1 ∧ Aside0 (laws_toIntS.l0 kq l0 x3_1 x4_1 = some r) ∧ Aside0 (kq ≤ k) ∧ Aside0 (Kd.R (Kd.int .i64) 3 w' w.heap.size (fun _ => True) v384 x3_1) ∧ Aside0 (Below w.heap.size w w'))
   case atStart => exact ⟨(y383), (0), sm_, H', ⟨Nat.le_refl _⟩, ⟨ro_ HO385.out⟩, ⟨bw0_ HB.out⟩⟩
   case round =>
    clear H'; (try clear c2); (try clear c2b0); (try clear c2b1); (try clear p2); (try clear c3); (try clear c3b0); (try clear c3b1); obtain ⟨x3_1, x4_1, rfl, HA, HK1, HO_3, HB⟩ := hrel
    cases gk with
    | zero => exact absurd HA.out (by simp [laws_toIntS.l0])
    | succ k1 =>
     have H := HA.out; clear HA; simp only [laws_toIntS.l0] at H; revert H; refine ic_ (fun c6b0 H => ?_) (fun c6b0 H => ?_)
     ·revert H; refine ih_ fun c7b0 H => ?_
      revert H; refine ih_ fun c8b0 H => ?_
      generalize hy387 : (x3_1.set (x4_1 : Int).toNat (rd l0 x4_1) : List Int) = y387 at H; have Ny387 := sd_ hy387.symm; clear hy387; have H' := sd_ H; clear H; obtain ⟨ad386, e386, hx386_0, p386, q386⟩ := ai_ HR0.out HB.out x4_1
      cases e386
      have p9 : 0 ≤ (x4_1 : Int) := dt_; have q9 : (x4_1 : Int) < ((x3_1.length : Int) : Int) := dt_; obtain ⟨go9, co9, eo9, gb9, gl9, cl9, HG9⟩ := Kd.R_form HO_3.out (by omega); (first | cases eo9 | (injection eo9 with ea_ en_ ec_; (first | subst ea_ | (injection ea_ with ea_; subst ea_)); subst ec_; clear en_)); have GB9 := sd_ gb9; have GG9 := sd_ HG9; clear gb9 gl9 HG9; obtain ⟨hx9_0, hf9_0⟩ := Kd.R_celln 0 HO_3.out (x4_1 : Int) p9 q9; replace p9 := eq_true p9; replace q9 := eq_true q9; have HP10 := Kd.R_putg HO_3.out (x4_1 : Int) (rd l0 x4_1); go_wp2_with (first | ((with_reducible refine gate_store (t := 3) (p := 20) rfl ?_); refine store_event (t := 3) (p := 20) (v := ?vo_w11) (w1 := (wr.setCell ⟨go9, (x4_1 : Int).toNat, none⟩ (.int .i64 (rd l0 x4_1)))) ?hg ?ho ?hn ?hr ?_; (case ho => rfl); (case hg => rfl); (case hn => rfl); (case hr => first | (go_simp; done) | (go_simp; rfl)); intro w11 hw; have hg : wr.grownBy w11 (some go9) := (by rw [hw]; exact HP10.2); have hp_ : Kd.R (Kd.int .i64) 3 w11 w.heap.size (fun _ => True) (.slice (some ⟨go9, 0, none⟩) x3_1.length co9) y387 := (by rw [hw, Ny387.out]; exact HP10.1); clear HP10; replace HO_3 := sd_ (hp_); replace HB := sd_ ((by rw [hw]; exact below_set (HB.out) GB9.out : Below w.heap.size w w11)); clear hg hw hp_)); go_roundg k1
      case measure => have := HK1.out; omega
      case rel => exact ⟨(y387), (wrap64 (x4_1 + 1)), sm_, H', ⟨by have := HK1.out; omega⟩, ⟨ro_ HO_3.out⟩, ⟨bw0_ HB.out⟩⟩
     obtain rfl := Option.some.inj H; go_wp2; go_ret; exact ⟨_, an_, by (with_reducible repeat (first | apply Kd.R_alloc | apply Kd.R_drewN | apply Kd.R_drew)); exact HO_3.out, bw0_ HB.out⟩
  rw [if_neg c3] at H; exact absurd H (by simp)
 rw [if_neg c2] at H; exact absurd H (by simp)

/-! ### laws_toBoolS: function 22 -/
def laws_toBoolS.l0 : Nat → List Bool → List Bool → Int → Option (List Bool)
 | 0, _, _, _ => none
 | k + 1, x0, x3, x4 => if x4 < (x0.length : Int) then (if 0 ≤ x4 then (if x4 < (x3.length : Int) then (laws_toBoolS.l0 k x0 (x3.set (x4 : Int).toNat (rdOf false x0 x4)) (wrap64 (x4 + 1))) else (none)) else (none)) else (some x3)
def laws_toBoolS.f (k : Nat) (l0 : List Bool) : Option (List Bool) := if 0 ≤ (l0.length : Int) then (if ((l0.length : Int) : Int).toNat ≤ 281474976710656 then (laws_toBoolS.l0 k l0 (List.replicate ((l0.length : Int) : Int).toNat false) 0) else (none)) else (none)
set_option maxHeartbeats 8000000 in
set_option maxRecDepth 100000 in
theorem laws_toBoolS.calls (k : Nat) (A0 : Option Addr) (c0 : Nat) (l0 : List Bool) (r : List Bool) (w : World) (hr0 : Kd.C Kd.bool w A0 l0.length l0) (hc0 : l0.length ≤ c0) (h : laws_toBoolS.f k l0 = some r) :
  Calls Tryd.prog 22 #[.slice A0 l0.length c0] w fun e w' => ∃ v0_ : Value, e = .returned (v0_) ∧ Kd.R Kd.bool 4 w' w.heap.size (fun _ => True) v0_ r ∧ Below w.heap.size w w' := by
 have HR0 := sd_ hr0; have HC0 := sd_ hc0; clear hr0 hc0; have HB := sd_ (Below.refl w.heap.size w); have H : (if 0 ≤ (l0.length : Int) then (if ((l0.length : Int) : Int).toNat ≤ 281474976710656 then (laws_toBoolS.l0 k l0 (List.replicate ((l0.length : Int) : Int).toNat false) 0) else (none)) else (none)) = some r := h; clear h; by_cases c2 : 0 ≤ (l0.length : Int)
 ·rw [if_pos c2] at H; have c2b0 := eq_true c2; have c2b1 : decide (0 ≤ (l0.length : Int)) = true := decide_eq_true c2; clear c2; by_cases c3 : ((l0.length : Int) : Int).toNat ≤ 281474976710656
  ·rw [if_pos c3] at H; have c3b0 := eq_true c3; have c3b1 : decide (((l0.length : Int) : Int).toNat ≤ 281474976710656) = true := decide_eq_true c3; clear c3; generalize hy388 : (List.replicate ((l0.length : Int) : Int).toNat false : List Bool) = y388 at H; have Ny388 := sd_ hy388.symm; clear hy388; have H' := sd_ H; clear H; go_enter Tryd.func22, Tryd.ntmps22; go_wp2_with (first | ((with_reducible refine gate_dst (N := 7) rfl ?_); refine Kd.R_make Kd.bool _ 4 rfl (N := 7) rfl 23 _ _ rfl (l0.length : Int) rfl rfl Tryd.underlying23 (.bool false) 1 info4 rfl (by decide) (by omega) false (ok := fun _ => True) (okp := fun _ => True) rfl (fun _ hk => hk) trivial (dt_) (Nat.le_trans (Nat.mul_le_mul_right _ (dt_ : (l0.length : Int).toNat ≤ 281474976710656)) (by omega)) (Below.refl _ _) (Nat.le_refl _) ?_; intro v389 w4 ho5 hb hg_ hnew_; clear hg_ hnew_; (first | rw [← Ny388.out] at ho5 | (simp only [Int.reduceToNat] at ho5; rw [← Ny388.out] at ho5)); have HO390 := sd_ (Kd.R_lower ho5 (below_size (bw0_ HB.out))); replace HB := sd_ (below_step (bw0_ HB.out) hb); clear hb ho5))
   go_loopg [4] k (fun kq v4 w' => ∃ (x3_1 : List Bool) (x4_1 : Int), v4 = .int .i64 x4_1 ∧ Aside0 (laws_toBoolS.l0 kq l0 x3_1 x4_1 = some r) ∧ Aside0 (kq ≤ k) ∧ Aside0 (Kd.R Kd.bool 4 w' w.heap.size (fun _ => True) v389 x3_1) ∧ Aside0 (Below w.heap.size w w'))
   case atStart => exact ⟨(y388), (0), sm_, H', ⟨Nat.le_refl _⟩, ⟨ro_ HO390.out⟩, ⟨bw0_ HB.out⟩⟩
   case round =>
    clear H'; (try clear c2); (try clear c2b0); (try clear c2b1); (try clear p2); (try clear c3); (try clear c3b0); (try clear c3b1); obtain ⟨x3_1, x4_1, rfl, HA, HK1, HO_3, HB⟩ := hrel
    cases gk with
    | zero => exact absurd HA.out (by simp [laws_toBoolS.l0])
    | succ k1 =>
     have H := HA.out; clear HA; simp only [laws_toBoolS.l0] at H; revert H; refine ic_ (fun c6b0 H => ?_) (fun c6b0 H => ?_)
     ·revert H; refine ih_ fun c7b0 H => ?_
      revert H; refine ih_ fun c8b0 H => ?_
      generalize hy392 : (x3_1.set (x4_1 : Int).toNat (rdOf false l0 x4_1) : List Bool) = y392 at H; have Ny392 := sd_ hy392.symm; clear hy392; have H' := sd_ H; clear H; obtain ⟨ad391, e391, hx391_0, p391, q391⟩ := ab_ HR0.out HB.out x4_1
      cases e391
      have p9 : 0 ≤ (x4_1 : Int) := dt_; have q9 : (x4_1 : Int) < ((x3_1.length : Int) : Int) := dt_; obtain ⟨go9, co9, eo9, gb9, gl9, cl9, HG9⟩ := Kd.R_form HO_3.out (by omega); (first | cases eo9 | (injection eo9 with ea_ en_ ec_; (first | subst ea_ | (injection ea_ with ea_; subst ea_)); subst ec_; clear en_)); have GB9 := sd_ gb9; have GG9 := sd_ HG9; clear gb9 gl9 HG9; obtain ⟨hx9_0, hf9_0⟩ := Kd.R_celln false HO_3.out (x4_1 : Int) p9 q9; replace p9 := eq_true p9; replace q9 := eq_true q9; have HP10 := Kd.R_putg HO_3.out (x4_1 : Int) (rdOf false l0 x4_1); go_wp2_with (first | ((with_reducible refine gate_store (t := 4) (p := 20) rfl ?_); refine store_event (t := 4) (p := 20) (v := ?vo_w11) (w1 := (wr.setCell ⟨go9, (x4_1 : Int).toNat, none⟩ (.bool (rdOf false l0 x4_1)))) ?hg ?ho ?hn ?hr ?_; (case ho => rfl); (case hg => rfl); (case hn => rfl); (case hr => first | (go_simp; done) | (go_simp; rfl)); intro w11 hw; have hg : wr.grownBy w11 (some go9) := (by rw [hw]; exact HP10.2); have hp_ : Kd.R Kd.bool 4 w11 w.heap.size (fun _ => True) (.slice (some ⟨go9, 0, none⟩) x3_1.length co9) y392 := (by rw [hw, Ny392.out]; exact HP10.1); clear HP10; replace HO_3 := sd_ (hp_); replace HB := sd_ ((by rw [hw]; exact below_set (HB.out) GB9.out : Below w.heap.size w w11)); clear hg hw hp_)); go_roundg k1
      case measure => have := HK1.out; omega
      case rel => exact ⟨(y392), (wrap64 (x4_1 + 1)), sm_, H', ⟨by have := HK1.out; omega⟩, ⟨ro_ HO_3.out⟩, ⟨bw0_ HB.out⟩⟩
     obtain rfl := Option.some.inj H; go_wp2; go_ret; exact ⟨_, an_, by (with_reducible repeat (first | apply Kd.R_alloc | apply Kd.R_drewN | apply Kd.R_drew)); exact HO_3.out, bw0_ HB.out⟩
  rw [if_neg c3] at H; exact absurd H (by simp)
 rw [if_neg c2] at H; exact absurd H (by simp)

/-! ### spec_l1First: function 44 -/
def spec_l1First.f (a0 : Int) (a1 : Int) : Option (Int) := if a1 = 0 then (some 0) else (if a1 = 1 then (some 1) else (if a1 ≤ (wrap64 (a0 + 1)) then (if a0 = 0 then (none) else (some (wrap64 (Int.tdiv (wrap64 (a1 - 1)) a0)))) else (if a0 = 0 then (none) else (some (wrap64 (Int.tdiv a1 a0))))))
set_option maxHeartbeats 8000000 in
set_option maxRecDepth 100000 in
theorem spec_l1First.calls (a0 : Int) (a1 : Int) (r : Int) (w : World) (h : spec_l1First.f a0 a1 = some r) :
  Calls Tryd.prog 44 #[.int .i64 a0, .int .i64 a1] w fun e w' => e = .returned (.int .i64 r) ∧ Drawn0 w w' := by
 have H : (if a1 = 0 then (some 0) else (if a1 = 1 then (some 1) else (if a1 ≤ (wrap64 (a0 + 1)) then (if a0 = 0 then (none) else (some (wrap64 (Int.tdiv (wrap64 (a1 - 1)) a0)))) else (if a0 = 0 then (none) else (some (wrap64 (Int.tdiv a1 a0))))))) = some r := h; clear h; by_cases c3 : a1 = 0
 ·rw [if_pos c3] at H; have c3b0 : (a1 == 0) = true := beq_iff_eq.mpr c3; have c3b1 : (a1 != 0) = false := bne_eq_false_iff_eq.mpr c3; clear c3; obtain rfl := Option.some.inj H; go_enter Tryd.func44, Tryd.ntmps44; go_wp2; go_ret; exact ⟨by first | rfl | (simp; done) | (simp [*]; done), by repeat (first | exact Drawn0.refl _ | apply Drawn0.step)⟩
 rw [if_neg c3] at H; have c3b0 : (a1 == 0) = false := beq_eq_false_iff_ne.mpr c3; have c3b1 : (a1 != 0) = true := bne_iff_ne.mpr c3; by_cases c4 : a1 = 1
 ·rw [if_pos c4] at H; have c4b0 : (a1 == 1) = true := beq_iff_eq.mpr c4; have c4b1 : (a1 != 1) = false := bne_eq_false_iff_eq.mpr c4; clear c4; obtain rfl := Option.some.inj H; go_enter Tryd.func44, Tryd.ntmps44; go_wp2; go_ret; exact ⟨by first | rfl | (simp; done) | (simp [*]; done), by repeat (first | exact Drawn0.refl _ | apply Drawn0.step)⟩
 rw [if_neg c4] at H; have c4b0 : (a1 == 1) = false := beq_eq_false_iff_ne.mpr c4; have c4b1 : (a1 != 1) = true := bne_iff_ne.mpr c4; revert H; refine ic_ (fun c5b0 H => ?_) (fun c5b0 H => ?_)
 ·by_cases c6 : a0 = 0
  ·rw [if_pos c6] at H; exact absurd H (by simp)
  rw [if_neg c6] at H; have c6b0 : (a0 == 0) = false := beq_eq_false_iff_ne.mpr c6; have c6b1 : (a0 != 0) = true := bne_iff_ne.mpr c6; obtain rfl := Option.some.inj H; go_enter Tryd.func44, Tryd.ntmps44; go_wp2; go_ret; exact ⟨by first | rfl | (simp; done) | (simp [*]; done), by repeat (first | exact Drawn0.refl _ | apply Drawn0.step)⟩
 by_cases c7 : a0 = 0
 ·rw [if_pos c7] at H; exact absurd H (by simp)
 rw [if_neg c7] at H; have c7b0 : (a0 == 0) = false := beq_eq_false_iff_ne.mpr c7; have c7b1 : (a0 != 0) = true := bne_iff_ne.mpr c7; obtain rfl := Option.some.inj H; go_enter Tryd.func44, Tryd.ntmps44; go_wp2; go_ret; exact ⟨by first | rfl | (simp; done) | (simp [*]; done), by repeat (first | exact Drawn0.refl _ | apply Drawn0.step)⟩

end Go.Proofs.YtmcepfimcedocaaDoor.P
end
