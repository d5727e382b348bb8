-- Several texts in one (wip/tools/merge.py).
import Derived.Test.YtipfkicndjddgaaP0
import Derived.Test.YtipfkicndjddgaaM7
import Derived.Test.YtipfkicndjddgaaM1
section
namespace Go.Proofs.Ytipfkicndjddgaa.P
open Go.RowKit Go.Proofs.YtipfkicndjddgaaW.PrintWords Go.Proofs.YtipfkicndjddgaaW.PrintLast Go.Proofs.YtipfkicndjddgaaW.PrintMore
attribute [local go_sem] max2_int min2_int max_two min_two max_three min_three max_four min_four   -- for this text's walks alone
set_option linter.unusedVariables false
set_option linter.unusedSimpArgs false

/-! ### slices_Compare_int_int: function 81 -/
def slices_Compare_int_int.l0 : Nat → List Int → List Int → List Int → Int → Int → Option (Int)
 | 0, _, _, _, _, _ => none
 | k + 1, x0, x1, x9, x10, x11 => if x11 < x10 then (if 0 ≤ x11 then (if x11 < (x9.length : Int) then (if x11 ≥ (x1.length : Int) then (some 1) else (if x11 < (x1.length : Int) then ((cmp_Compare_int.f (rd x9 x11) (rd x1 x11)).bind fun t381 => (if t381 = 0 then (slices_Compare_int_int.l0 k x0 x1 x9 x10 (wrap64 (x11 + 1))) else (some t381))) else (none))) else (none)) else (none)) else (if (x0.length : Int) < (x1.length : Int) then (some (-1)) else (some 0))
def slices_Compare_int_int.f (k : Nat) (l0 : List Int) (l1 : List Int) : Option (Int) := slices_Compare_int_int.l0 k l0 l1 l0 (l0.length : Int) 0
set_option maxHeartbeats 8000000 in
set_option maxRecDepth 100000 in
theorem slices_Compare_int_int.calls (k : Nat) (A0 : Option Addr) (c0 : Nat) (l0 : List Int) (A1 : Option Addr) (c1 : Nat) (l1 : List Int) (r : Int) (w : World) (hr0 : Kd.C (Kd.int .i64) w A0 l0.length l0) (hc0 : l0.length ≤ c0) (hr1 : Kd.C (Kd.int .i64) w A1 l1.length l1) (hc1 : l1.length ≤ c1) (h : slices_Compare_int_int.f k l0 l1 = some r) :
  Calls Try.prog 81 #[.slice A0 l0.length c0, .slice A1 l1.length c1] w fun e w' => e = .returned (.int .i64 r) ∧ Drawn0 w w' := by
 have HR0 := sd_ hr0
 have HC0 := sd_ hc0
 clear hr0 hc0
 have HR1 := sd_ hr1
 have HC1 := sd_ hc1
 clear hr1 hc1
 have H : (slices_Compare_int_int.l0 k l0 l1 l0 (l0.length : Int) 0) = some r := h
 clear h
 have H' := sd_ H
 clear H
 go_enter Try.func81, Try.ntmps81
 go_wp2
 go_loopg [11] k (fun kq v11 w' => ∃ (x11_1 : Int), v11 = .int .i64 x11_1 ∧ Aside0 (slices_Compare_int_int.l0 kq l0 l1 l0 (l0.length : Int) x11_1 = some r) ∧ Aside0 (kq ≤ k) ∧ Drawn0 w w')
 case atStart => exact ⟨(0), sm_, H', ⟨Nat.le_refl _⟩, by repeat (first | exact Drawn0.refl _ | apply Drawn0.step)⟩
 case round =>
  clear H'
  try clear c1
  try clear p2
  obtain ⟨x11_1, rfl, HA, HK1, ⟨m1, rfl⟩⟩ := hrel
  cases gk with
  | zero => exact absurd HA.out (by simp [slices_Compare_int_int.l0])
  | succ k1 =>
   have H := HA.out
   clear HA
   simp only [slices_Compare_int_int.l0] at H
   by_cases c3 : x11_1 < (l0.length : Int)
   ·rw [if_pos c3] at H
    have c3b0 : decide (x11_1 < (l0.length : Int)) = true := decide_eq_true c3
    clear c3
    by_cases c4 : 0 ≤ x11_1
    ·rw [if_pos c4] at H
     have c4b0 : decide (0 ≤ x11_1) = true := decide_eq_true c4
     clear c4
     by_cases c5 : x11_1 < (l0.length : Int)
     ·rw [if_pos c5] at H
      have c5b0 : decide (x11_1 < (l0.length : Int)) = true := decide_eq_true c5
      clear c5
      by_cases c6 : x11_1 ≥ (l1.length : Int)
      ·rw [if_pos c6] at H
       have c6b0 : decide ((l1.length : Int) ≤ x11_1) = true := decide_eq_true c6
       clear c6
       obtain rfl := Option.some.inj H
       have p379 : 0 ≤ (x11_1 : Int) := dt_
       have q379 : x11_1 < (l0.length : Int) := dt_
       obtain ⟨ad379, e379, hx379_0⟩ := Kd.at_int HR0.out x11_1 p379 q379
       cases e379
       replace p379 := eq_true p379
       replace q379 := eq_true q379
       go_wp2
       go_ret
       exact ⟨by first | rfl | (simp; done) | (simp [*]; done), by repeat (first | exact Drawn0.refl _ | apply Drawn0.step)⟩
      rw [if_neg c6] at H
      have c6b0 : decide ((l1.length : Int) ≤ x11_1) = false := decide_eq_false c6
      clear c6
      by_cases c7 : x11_1 < (l1.length : Int)
      ·rw [if_pos c7] at H
       have c7b0 : decide (x11_1 < (l1.length : Int)) = true := decide_eq_true c7
       clear c7
       replace H := Option.bind_eq_some_iff.mp H
       obtain ⟨t381, A80, H⟩ := H
       try dsimp only at H
       have A8 := sd_ A80
       clear A80
       by_cases c9 : t381 = 0
       ·rw [if_pos c9] at H
        have c9b0 : (t381 == 0) = true := beq_iff_eq.mpr c9
        have c9b1 : (t381 != 0) = false := bne_eq_false_iff_eq.mpr c9
        clear c9
        have H' := sd_ H
        clear H
        have p379 : 0 ≤ (x11_1 : Int) := dt_
        have q379 : x11_1 < (l0.length : Int) := dt_
        obtain ⟨ad379, e379, hx379_0⟩ := Kd.at_int HR0.out x11_1 p379 q379
        cases e379
        replace p379 := eq_true p379
        replace q379 := eq_true q379
        have p380 : 0 ≤ (x11_1 : Int) := dt_
        have q380 : x11_1 < (l1.length : Int) := dt_
        obtain ⟨ad380, e380, hx380_0⟩ := Kd.at_int HR1.out x11_1 p380 q380
        cases e380
        replace p380 := eq_true p380
        replace q380 := eq_true q380
        go_wp2_with (first | ((with_reducible refine gate_callee (f := 110) rfl ?_); refine goesL_ (some 26) rfl rfl Try.func110 (by kernel_rfl) rfl #[.int .i64 (rd l0 x11_1), .int .i64 (rd l1 x11_1)] rfl la_ ?_; (with_reducible refine (cmp_Compare_int.calls (rd l0 x11_1) (rd l1 x11_1) t381 _ A8.out).mono ?_); rintro e w' ⟨rfl, ⟨nd, rfl⟩⟩; refine ⟨_, rfl, ?_⟩))
        go_roundg k1
        case measure => have := HK1.out; omega
        case rel => exact ⟨(wrap64 (x11_1 + 1)), sm_, H', ⟨by have := HK1.out; omega⟩, by repeat (first | exact Drawn0.refl _ | apply Drawn0.step)⟩
       rw [if_neg c9] at H
       have c9b0 : (t381 == 0) = false := beq_eq_false_iff_ne.mpr c9
       have c9b1 : (t381 != 0) = true := bne_iff_ne.mpr c9
       obtain rfl := Option.some.inj H
       have p379 : 0 ≤ (x11_1 : Int) := dt_
       have q379 : x11_1 < (l0.length : Int) := dt_
       obtain ⟨ad379, e379, hx379_0⟩ := Kd.at_int HR0.out x11_1 p379 q379
       cases e379
       replace p379 := eq_true p379
       replace q379 := eq_true q379
       have p380 : 0 ≤ (x11_1 : Int) := dt_
       have q380 : x11_1 < (l1.length : Int) := dt_
       obtain ⟨ad380, e380, hx380_0⟩ := Kd.at_int HR1.out x11_1 p380 q380
       cases e380
       replace p380 := eq_true p380
       replace q380 := eq_true q380
       go_wp2_with (first | ((with_reducible refine gate_callee (f := 110) rfl ?_); refine goesL_ (some 26) rfl rfl Try.func110 (by kernel_rfl) rfl #[.int .i64 (rd l0 x11_1), .int .i64 (rd l1 x11_1)] rfl la_ ?_; (with_reducible refine (cmp_Compare_int.calls (rd l0 x11_1) (rd l1 x11_1) t381 _ A8.out).mono ?_); rintro e w' ⟨rfl, ⟨nd, rfl⟩⟩; refine ⟨_, rfl, ?_⟩))
       go_ret
       exact ⟨by first | rfl | (simp; done) | (simp [*]; done), by repeat (first | exact Drawn0.refl _ | apply Drawn0.step)⟩
      rw [if_neg c7] at H
      exact absurd H (by simp)
     rw [if_neg c5] at H
     exact absurd H (by simp)
    rw [if_neg c4] at H
    exact absurd H (by simp)
   rw [if_neg c3] at H
   have c3b0 : decide (x11_1 < (l0.length : Int)) = false := decide_eq_false c3
   clear c3
   by_cases c10 : (l0.length : Int) < (l1.length : Int)
   ·rw [if_pos c10] at H
    have c10b0 : decide ((l0.length : Int) < (l1.length : Int)) = true := decide_eq_true c10
    have c10b1 : decide (l0.length < l1.length) = true := decide_eq_true (Int.ofNat_lt.mp c10)
    clear c10
    obtain rfl := Option.some.inj H
    go_wp2
    go_ret
    exact ⟨by first | rfl | (simp; done) | (simp [*]; done), by repeat (first | exact Drawn0.refl _ | apply Drawn0.step)⟩
   rw [if_neg c10] at H
   have c10b0 : decide ((l0.length : Int) < (l1.length : Int)) = false := decide_eq_false c10
   have c10b1 : decide (l0.length < l1.length) = false := decide_eq_false (fun h => c10 (Int.ofNat_lt.mpr h))
   clear c10
   obtain rfl := Option.some.inj H
   go_wp2
   go_ret
   exact ⟨by first | rfl | (simp; done) | (simp [*]; done), by repeat (first | exact Drawn0.refl _ | apply Drawn0.step)⟩


/-! ### impl_ViewsOf_1: function 80 -/
def impl_ViewsOf_1.f (k : Nat) (l0 : List Int) (l1 : List Int) : Option (Int) := (slices_Compare_int_int.f k l0 l1).bind fun t382 => (some t382)
set_option maxHeartbeats 8000000 in
set_option maxRecDepth 100000 in
theorem impl_ViewsOf_1.calls (k : Nat) (A0 : Option Addr) (c0 : Nat) (l0 : List Int) (A1 : Option Addr) (c1 : Nat) (l1 : List Int) (r : Int) (w : World) (hr0 : Kd.C (Kd.int .i64) w A0 l0.length l0) (hc0 : l0.length ≤ c0) (hr1 : Kd.C (Kd.int .i64) w A1 l1.length l1) (hc1 : l1.length ≤ c1) (h : impl_ViewsOf_1.f k l0 l1 = some r) :
  Calls Try.prog 80 #[.slice A0 l0.length c0, .slice A1 l1.length c1] w fun e w' => e = .returned (.int .i64 r) ∧ Drawn0 w w' := by
 have HR0 := sd_ hr0
 have HC0 := sd_ hc0
 clear hr0 hc0
 have HR1 := sd_ hr1
 have HC1 := sd_ hc1
 clear hr1 hc1
 have H : ((slices_Compare_int_int.f k l0 l1).bind fun t382 => (some t382)) = some r := h
 clear h
 replace H := Option.bind_eq_some_iff.mp H
 obtain ⟨t382, A30, H⟩ := H
 try dsimp only at H
 have A3 := sd_ A30
 clear A30
 obtain rfl := Option.some.inj H
 go_enter Try.func80, Try.ntmps80
 go_wp2_with (first | ((with_reducible refine gate_callee (f := 81) rfl ?_); refine goesL_ (some 7) rfl rfl Try.func81 (by kernel_rfl) rfl #[.slice A0 l0.length c0, .slice A1 l1.length c1] rfl la_ ?_; (with_reducible refine (slices_Compare_int_int.calls k _ _ l0 _ _ l1 t382 _ (kp_ HR0.out) HC0.out (kp_ HR1.out) HC1.out A3.out).mono ?_); rintro e w' ⟨rfl, ⟨nd, rfl⟩⟩; refine ⟨_, rfl, ?_⟩))
 go_ret
 exact ⟨by first | rfl | (simp; done) | (simp [*]; done), by repeat (first | exact Drawn0.refl _ | apply Drawn0.step)⟩

end Go.Proofs.Ytipfkicndjddgaa.P
end

section
namespace Go.Proofs.Ytipfkicndjddgaa.P
open Go.Shelf Go.RowKit Go.Lib Go.Sort Go.Proofs.YtipfkicndjddgaaW.PrintWords Go.Proofs.YtipfkicndjddgaaW.PrintLast Go.Proofs.YtipfkicndjddgaaW.PrintMore
set_option linter.unusedVariables false
set_option linter.unusedSimpArgs false
/-! ### slices_SortFunc_int_int: function 79 (by hand) -/
def slices_SortFunc_int_int.f (l : List (List Int)) (x : List Int → List Int → Option Int) : Option (List (List Int)) := if l.length < 4611686018427387904 ∧ (∀ a ∈ [] :: l, ∀ b ∈ [] :: l, x a b = some (cmpL a b)) then some (sortL l) else none
theorem shr_any {x y j : Int} (h : shr .i64 x y = j) (hy : 0 ≤ y) : Op.shift .shr .i64 x .i64 y = pure (.int .i64 j) := by
  rw [← h]
  unfold Op.shift shr
  rw [if_neg (by omega)]
  simp only []
  rw [Int.fdiv_eq_ediv_of_nonneg _ (Int.pow_nonneg (by decide))]
theorem shift_shr_any64 {yk : IntKind} {x y : Int} (h : 0 ≤ y) : Op.shift .shr .i64 x yk y = pure (.int .i64 (shr .i64 x y)) := shr_any rfl h
theorem sortW_block {α : Type} [Inhabited α] (enc : α → Value) (w : World) (g m : Nat) (dk : Array α) (os : Array Obj) (hg : g < w.heap.size) {k : Nat} (hk : k < w.heap.size) (hne : k ≠ g) : (sortWorld enc w g 0 m dk os).heap[k]? = w.heap[k]? := by
  unfold sortWorld grow putRow mapBlock Go.Sort.ahead
  dsimp only
  rw [Array.getElem?_append_left (by rw [Array.size_modify]; exact hk), Array.getElem?_modify, if_neg (fun h => hne h.symm)]
theorem sortW_own {α : Type} [Inhabited α] (enc : α → Value) (w : World) (g m : Nat) (dk : Array α) (os : Array Obj) {cur : Array Value} {t : TypeId} (hh : w.heap[g]? = some (.cells cur t (0, 0))) : (sortWorld enc w g 0 m dk os).heap[g]? = some (.cells (putCells enc 0 dk cur) t (0, 0)) := by
  have hg : g < w.heap.size := (Array.getElem?_eq_some_iff.1 hh).1
  unfold sortWorld grow putRow mapBlock Go.Sort.ahead
  dsimp only
  rw [Array.getElem?_append_left (by rw [Array.size_modify]; exact hg), Array.getElem?_modify, if_pos rfl, hh]
  rfl
theorem sortW_size {α : Type} [Inhabited α] (enc : α → Value) (w : World) (g m : Nat) (dk : Array α) (os : Array Obj) : w.heap.size ≤ (sortWorld enc w g 0 m dk os).heap.size := by
  unfold sortWorld grow putRow mapBlock Go.Sort.ahead
  dsimp only
  rw [Array.size_append, Array.size_modify]
  omega
theorem getD_some {α : Type} {l : List α} {j : Nat} (z : α) (h : j < l.length) : l.getD j z = l[j] := by rw [List.getD_eq_getElem?_getD, List.getElem?_eq_getElem h]; rfl
theorem getD_none {α : Type} {l : List α} {j : Nat} (z : α) (h : ¬ j < l.length) : l.getD j z = z := by rw [List.getD_eq_getElem?_getD, List.getElem?_eq_none (by omega)]; rfl
theorem range_at {n j : Nat} (h : j < n) : (Array.range n)[j]! = j := by rw [getElem!_pos _ _ (by simpa using h)]; simp
set_option maxHeartbeats 4000000 in
set_option maxRecDepth 100000 in
theorem slices_SortFunc_int_int.calls (k : Nat) (u : Value) (l r : List (List Int)) {ok : Nat → Prop} (w0 w : World) (hB : Below w0.heap.size w0 w) (hS : Kd.S (Kd.slice 3 (Kd.int .i64)) 22 w w0.heap.size ok u l) (h : slices_SortFunc_int_int.f l (fun z0_ z1_ => impl_ViewsOf_1.f k z0_ z1_) = some r) :
    Calls Try.prog 79 #[u, .func (.func 80) #[] #[]] w fun e w' => e = .returned (.tuple #[]) ∧ Kd.S (Kd.slice 3 (Kd.int .i64)) 22 w' w0.heap.size ok u r ∧ Below w0.heap.size w0 w' ∧ Kept w w' (fun k_ => some k_ = u.ownBlock) := by
  unfold slices_SortFunc_int_int.f at h
  split at h
  case isFalse => cases h
  rename_i hx
  obtain ⟨hbound, hx⟩ := hx
  obtain rfl := Option.some.inj h
  obtain ⟨A, c, rfl⟩ := Kd.S_slice hS
  by_cases hl : l.length = 0
  · obtain rfl := List.length_eq_zero_iff.mp hl
    refine Calls.mono (AnyF.slices_SortFunc_none (P := Try.prog) (ρ := sortL_ren) { shelfSort with } A c (.func (.func 80) #[] #[]) w) ?_
    rintro e w' ⟨rfl, rfl⟩
    exact ⟨rfl, by simpa [Go.Proofs.Ytipfkicndjddgaa.P.sortL] using hS, hB, Kept.refl _ _⟩
  obtain ⟨f, h0, inner, ho, hr⟩ := hS
  obtain ⟨hlen, hv | ⟨g, cap, cur, hv, hg, hh, hn, hc, hsz, htk⟩⟩ := ho
  · exact absurd hv.2 (by rw [List.length_zipIdx]; exact hl)
  injection hv with hA hn' hcap
  subst hA hcap
  rw [List.length_zipIdx] at hlen hn htk
  have hsl : (Kd.tag f (Kd.slice 3 (Kd.int .i64))).sz = 1 := rfl
  rw [hsl, Nat.mul_one] at hlen htk
  rw [hsl, Nat.mul_one] at hsz
  have hgs : g < w.heap.size := (Array.getElem?_eq_some_iff.1 hh).1
  -- the rows' values
  have hrow : ∀ j (hj : j < l.length), ∃ v, inner[j]? = some v ∧ (Kd.int .i64).R 3 w w0.heap.size (fun k_ => (ok k_ ∧ some k_ ≠ (Value.slice (some ⟨g, 0, none⟩) l.length c).ownBlock) ∧ f k_ = j) v l[j] := by
    intro j hj
    obtain ⟨v, e, hR⟩ := hr.2 j (l[j], j) (by rw [List.getElem?_zipIdx, List.getElem?_eq_getElem hj, Nat.zero_add]; rfl)
    refine ⟨v, ?_, hR⟩
    rw [hsl, Nat.mul_one, List.drop_eq_getElem_cons (by omega)] at e
    have := congrArg List.head? e
    rw [List.take_succ_cons] at this
    rw [List.getElem?_eq_getElem (by omega)]
    exact this
  let enc : Nat → Value := fun j => inner.getD j (.slice none 0 0)
  let cf : Nat → Nat → Int := fun i j => cmpL (l.getD i []) (l.getD j [])
  have henc : ∀ j (hj : j < l.length), (Kd.int .i64).R 3 w w0.heap.size (fun k_ => (ok k_ ∧ some k_ ≠ (Value.slice (some ⟨g, 0, none⟩) l.length c).ownBlock) ∧ f k_ = j) (enc j) l[j] := by
    intro j hj
    obtain ⟨v, e, hR⟩ := hrow j hj
    have : enc j = v := by show inner.getD j _ = v; rw [List.getD_eq_getElem?_getD, e]; rfl
    rw [this]; exact hR
  have hout : ∀ j, ¬ j < l.length → enc j = .slice none 0 0 := fun j hj => getD_none _ (by omega)
  have hone : OneCell enc := fun j => by
    by_cases hj : j < l.length
    · obtain ⟨A', c', e⟩ := Kd.R_slice (henc j hj)
      rw [e]; rfl
    · rw [hout j hj]; rfl
  have hO : SWO (ltOf cf) := {
    irrefl := fun x => by simp [ltOf, cf, cmpL_self]
    trans := fun x y z h1 h2 => by
      simp only [ltOf, decide_eq_true_eq, cf] at h1 h2 ⊢
      have h3 := cmpL_trans _ _ _ (Int.le_of_lt h1) (Int.le_of_lt h2)
      have h4 : cmpL (l.getD x []) (l.getD z []) ≠ 0 := fun e => by
        have e2 := cmpL_eq _ _ e
        rw [e2] at h1
        have := cmpL_neg (l.getD y []) (l.getD z [])
        omega
      omega
    ntrans := fun x y z h1 h2 => by
      simp only [ltOf, decide_eq_false_iff_not, cf] at h1 h2 ⊢
      have n1 := cmpL_neg (l.getD x []) (l.getD y [])
      have n2 := cmpL_neg (l.getD y []) (l.getD z [])
      have n3 := cmpL_neg (l.getD x []) (l.getD z [])
      have := cmpL_trans (l.getD z []) (l.getD y []) (l.getD x []) (by omega) (by omega)
      omega }
  have hd : (Array.range l.length).size = l.length := by simp
  have hreads : ∀ (m : Nat) (os : Array Obj) (dk : Array Nat) (j : Nat), ∃ A' c', enc j = .slice A' (l.getD j []).length c' ∧ (l.getD j []).length ≤ c' ∧ (Kd.int .i64).C (sortWorld enc w g 0 m dk os) A' (l.getD j []).length (l.getD j []) := by
    intro m os dk j
    by_cases hj : j < l.length
    · have h1 := Kd.R_step (w1 := sortWorld enc w g 0 m dk os) (henc j hj) (fun k_ hk hlt => sortW_block enc w g m dk os hgs hlt (fun e => hk.1.2 (by simp [Value.ownBlock, e])))
      obtain ⟨A', c', e, hl', hC⟩ := Kd.R_reads h1
      rw [getD_some [] hj]
      exact ⟨A', c', e, hl', hC⟩
    · rw [getD_none [] hj, hout j hj]
      exact ⟨none, 0, rfl, Nat.le_refl _, Kd.C_nil _ _⟩
  have hmem : ∀ j, l.getD j [] ∈ [] :: l := fun j => by
    by_cases hj : j < l.length
    · rw [getD_some [] hj]; exact List.mem_cons_of_mem _ (List.getElem_mem _)
    · rw [getD_none [] hj]; exact List.mem_cons_self
  have hcmp : CmpReads Try.prog 80 #[] enc cf g 0 (Array.range l.length).size w := by
    intro m os dk _ x y
    obtain ⟨A1, c1, e1, h1, r1⟩ := hreads m os dk x
    obtain ⟨A2, c2, e2, h2, r2⟩ := hreads m os dk y
    rw [e1, e2]
    refine (impl_ViewsOf_1.calls k A1 c1 _ A2 c2 _ (cf x y) _ r1 h1 r2 h2 (hx _ (hmem x) _ (hmem y))).mono ?_
    rintro e w' ⟨rfl, hD⟩
    exact ⟨rfl, hD.out⟩
  have hcell : ∀ j (hj : j < l.length), cur[j]? = some (enc j) := by
    intro j hj
    obtain ⟨v, e, _⟩ := hrow j hj
    have e2 : enc j = v := by show inner.getD j _ = v; rw [List.getD_eq_getElem?_getD, e]; rfl
    rw [e2, ← Array.getElem?_toList, ← e, ← htk, List.getElem?_take_of_lt hj]
  have hH : Holds enc w g 0 (Array.range l.length) := by
    intro j hj
    rw [hd] at hj
    rw [range_at hj, Nat.zero_add]
    exact ⟨(blk_cell hh j).trans (hcell j hj), blk_frozen hh j⟩
  have hsmall : (Array.range l.length).size < 4611686018427387904 := by
    rw [hd]; exact hbound
  have main := Any.slices_SortFunc (ρ := sortL_ren) shelfSort enc hone cf hO 80 #[] g 0 c (Array.range l.length) w (enters_of Try.func80 (by kernel_rfl) rfl) hcmp.lays hH hgs hsmall
  rw [hd] at main
  refine Calls.mono main ?_
  rintro e w' ⟨rfl, d', m, os, hp, hs, rfl⟩
  obtain ⟨ps, _, pp⟩ := hp
  have e1 : d'.extract 0 l.length = d' := by rw [← hd, ← ps, Array.extract_size]
  have e2 : (Array.range l.length).extract 0 l.length = Array.range l.length := by
    have : (Array.range l.length).extract 0 (Array.range l.length).size = Array.range l.length := Array.extract_size
    rwa [hd] at this
  rw [e1, e2, Array.toList_range] at pp
  rw [hd] at ps
  have hlt : ∀ i ∈ d'.toList, i < l.length := fun i hi => by simpa using pp.mem_iff.1 hi
  have hI : ∀ j (hj : j < l.length), ∃ i, d'.toList[j]? = some i ∧ d'[j]! = i ∧ i < l.length := fun j hj => by
    have hj' : j < d'.toList.length := by simpa [ps] using hj
    refine ⟨d'.toList[j], List.getElem?_eq_getElem hj', ?_, hlt _ (List.getElem_mem _)⟩
    rw [getElem!_pos _ _ (by simpa [ps] using hj)]
    simp
  have hr1 : (d'.toList.map fun i => l.getD i []).Perm l := by
    refine (pp.map _).trans ?_
    have : (List.range l.length).map (fun i => l.getD i []) = l := by
      apply List.ext_getElem (by simp)
      intro i h1 h2
      rw [List.getElem_map, List.getElem_range]
      exact getD_some [] h2
    rw [this]
  have hr2 : (d'.toList.map fun i => l.getD i []).Pairwise fun a b => cmpL a b ≤ 0 := by
    rw [List.pairwise_map, List.pairwise_iff_getElem]
    intro i j hi hj hij
    have hi' : i < l.length := by simpa [ps] using hi
    have hj' : j < l.length := by simpa [ps] using hj
    have := hs i j (Nat.zero_le _) hij hj'
    simp only [ltOf, decide_eq_false_iff_not, cf] at this
    have n1 := cmpL_neg (l.getD d'[i]! []) (l.getD d'[j]! [])
    rw [getElem!_pos d' i (by rw [ps]; exact hi'), getElem!_pos d' j (by rw [ps]; exact hj')] at this n1
    simp only [Array.getElem_toList]
    omega
  have hres := sort_one hr1 hr2
  have hblk := sortW_own enc w g m d' os hh
  have hsl' : ∀ f', (Kd.tag f' (Kd.slice 3 (Kd.int .i64))).sz = 1 := fun _ => rfl
  have hnd : d'.toList.Nodup := pp.symm.nodup List.nodup_range
  refine ⟨rfl, ?_, ?_, ?_⟩
  · rw [← hres]
    refine ⟨fun k_ => d'.toList.idxOf (f k_), h0, d'.toList.map enc, ⟨?_, Or.inr ⟨g, c, putCells enc 0 d' cur, ?_, hg, hblk, ?_, hc, ?_, ?_⟩⟩, ?_, ?_⟩
    · rw [hsl']; simp
    · rw [List.length_zipIdx, List.length_map]
      simp [ps]
    · rw [List.length_zipIdx, List.length_map]; simpa [ps] using hn
    · rw [hsl']; simp [putCells, hsz]
    · rw [hsl', List.length_zipIdx, List.length_map]
      apply List.ext_getElem?
      intro j
      by_cases hj : j < l.length
      · obtain ⟨i, q1, q2, q3⟩ := hI j hj
        rw [List.getElem?_take_of_lt (by simpa [ps] using hj), List.getElem?_map, q1, Array.getElem?_toList]
        unfold putCells
        rw [Array.getElem?_mapIdx, hcell j hj]
        simp only [Option.map_some]
        rw [if_pos ⟨Nat.zero_le _, by rw [ps]; omega⟩, Nat.sub_zero, q2]
      · rw [List.getElem?_eq_none (by simp [ps]; omega), List.getElem?_eq_none (by simp [ps]; omega)]
    · rw [hsl', List.length_zipIdx]; simp
    · rintro j ⟨p, q⟩ hj
      rw [List.getElem?_zipIdx, Nat.zero_add] at hj
      obtain ⟨x, hx1, hx2⟩ := Option.map_eq_some_iff.1 hj
      simp only [Prod.mk.injEq] at hx2
      obtain ⟨rfl, rfl⟩ := hx2
      have hj' : j < l.length := by
        have := (List.getElem?_eq_some_iff.1 hx1).1
        simpa [ps] using this
      obtain ⟨i, q1, q2, q3⟩ := hI j hj'
      rw [List.getElem?_map, q1, Option.map_some, getD_some [] q3] at hx1
      obtain rfl := Option.some.inj hx1
      have hM := Kd.R_step (w1 := sortWorld enc w g 0 m d' os) (henc i q3) (fun k_ hk hlt' => sortW_block enc w g m d' os hgs hlt' (fun e => hk.1.2 (by simp [Value.ownBlock, e])))
      refine ⟨enc i, ?_, Kd.R_mono hM fun k_ hk => ⟨?_, ?_⟩⟩
      · rw [hsl', Nat.mul_one, List.drop_eq_getElem_cons (by simp [ps]; omega), List.take_succ_cons]
        have : d'.toList[j]? = some i := q1
        rw [List.getElem?_eq_some_iff] at this
        simp [this.2]
      · exact ⟨hk.1.1, by simpa [Value.ownBlock] using hk.1.2⟩
      · show d'.toList.idxOf (f k_) = j
        rw [hk.2]
        have hj2 : j < d'.toList.length := (List.getElem?_eq_some_iff.1 q1).1
        have e3 : d'.toList[j] = i := (List.getElem?_eq_some_iff.1 q1).2
        rw [← e3]
        exact hnd.idxOf_getElem j hj2
  · refine ⟨hB.os, hB.tape, hB.output, Nat.le_trans hB.size (sortW_size _ _ _ _ _ _), fun k_ hk => ?_⟩
    exact (sortW_block enc w g m d' os hgs (Nat.lt_of_lt_of_le hk hB.size) (by omega)).trans (hB.block k_ hk)
  · refine ⟨sortW_size _ _ _ _ _ _, fun k_ hk hne => sortW_block enc w g m d' os hgs hk (fun e => hne (by simp [Value.ownBlock, e]))⟩
end Go.Proofs.Ytipfkicndjddgaa.P
end
