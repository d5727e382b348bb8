-- Several texts in one (wip/tools/merge.py).
import Derived.Test.YtipfkicndjddgaaM2
import Derived.Test.YtipfkicndjddgaaM6
import Derived.IntWalk
import Derived.Test.YtipfkicndjddgaaM1
section
/- The plain laws: loops, copies, comparisons. -/
set_option linter.unusedSimpArgs false
set_option linter.unusedVariables false
namespace Go.Proofs.Ytipfkicndjddgaa.Pure
open Go.RowKit Go.Proofs.Ytipfkicndjddgaa.P Go.Proofs.YtipfkicndjddgaaW.PrintWords Go.Proofs.YtipfkicndjddgaaW.PrintLast
theorem evCongr {α : Type} {g f : Nat → Option α} {r : α} (h : ∀ k, g k = f k) (k : Ev f r) : Ev g r := by
  obtain ⟨K, k⟩ := k
  exact ⟨K, fun n hn => (h n).trans (k n hn)⟩
theorem evRounds {α : Type} {g : Nat → Option α} {r : α} (h : Ev g r) : ∃ k, g k = some r := by
  obtain ⟨K, h⟩ := h
  exact ⟨K, h K (Nat.le_refl _)⟩
/-! ## Loops -/
def findO {α : Type} (g : Int → Option α) : Int → Nat → Option α
  | _, 0 => none
  | x, m + 1 => (g x).or (findO g (x + 1) m)
theorem findO_none {α : Type} {g : Int → Option α} : ∀ (m : Nat) (x : Int), findO g x m = none → ∀ y, x ≤ y → y < x + m → g y = none
  | 0, x, _, y, h1, h2 => by omega
  | m + 1, x, h, y, h1, h2 => by
    have h' : (g x).or (findO g (x + 1) m) = none := h
    rw [Option.or_eq_none_iff] at h'
    by_cases e : y = x
    · rw [e]; exact h'.1
    · exact findO_none m (x + 1) h'.2 y (by omega) (by omega)
theorem findO_congr {α : Type} {g g' : Int → Option α} : ∀ (m : Nat) (x : Int), (∀ y, x ≤ y → y < x + m → g y = g' y) → findO g x m = findO g' x m
  | 0, _, _ => rfl
  | m + 1, x, h => by
    show (g x).or (findO g (x + 1) m) = (g' x).or (findO g' (x + 1) m)
    rw [h x (by omega) (by omega), findO_congr m (x + 1) fun y h1 h2 => h y (by omega) (by omega)]
theorem findO_nil {α : Type} : ∀ (m : Nat) (x : Int), findO (fun _ => (none : Option α)) x m = none
  | 0, _ => rfl
  | m + 1, x => findO_nil m (x + 1)
theorem loop {α : Type} {F : Nat → Int → Option α} {n : Int} {g : Int → Option α} {e : α} (he : Ev (fun k => F k n) e)
    (hs : ∀ x, 0 ≤ x → x < n → ∀ r, Ev (fun k => F k (x + 1)) r → Ev (fun k => F k x) ((g x).getD r)) :
    ∀ (m : Nat) (x : Int), 0 ≤ x → x + m = n → Ev (fun k => F k x) ((findO g x m).getD e)
  | 0, x, _, h => by
    obtain rfl : x = n := by omega
    exact he
  | m + 1, x, h0, h => by
    have ih := loop he hs m (x + 1) (by omega) (by omega)
    have := hs x h0 (by omega) _ ih
    show Ev _ (((g x).or (findO g (x + 1) m)).getD e)
    revert this
    cases g x <;> exact id
theorem loop0 {α : Type} {F : Nat → Int → Option α} {n : Int} {g : Int → Option α} {e : α} (hn : 0 ≤ n) (he : Ev (fun k => F k n) e)
    (hs : ∀ x, 0 ≤ x → x < n → ∀ r, Ev (fun k => F k (x + 1)) r → Ev (fun k => F k x) ((g x).getD r)) : Ev (fun k => F k 0) ((findO g 0 n.toNat).getD e) :=
  loop he hs n.toNat 0 (by omega) (by omega)
theorem loop_hit {α : Type} {F : Nat → Int → Option α} {n : Int} {g : Int → Option α} {v : α}
    (hs : ∀ x, 0 ≤ x → x < n → ∀ r, (g x = none → Ev (fun k => F k (x + 1)) r) → Ev (fun k => F k x) ((g x).getD r)) :
    ∀ (m : Nat) (x : Int), 0 ≤ x → x + m = n → findO g x m = some v → Ev (fun k => F k x) v
  | 0, x, _, _, h => by cases h
  | m + 1, x, h0, h, hf => by
    have hf' : (g x).or (findO g (x + 1) m) = some v := hf
    have := hs x h0 (by omega) v
    cases c : g x with
    | none =>
      rw [c] at hf' this
      exact this fun _ => loop_hit hs m (x + 1) (by omega) (by omega) hf'
    | some u =>
      rw [c] at hf' this
      obtain rfl : u = v := Option.some.inj hf'
      exact this (fun h => by cases h)
theorem w64 {x : Int} (h1 : -9223372036854775808 ≤ x) (h2 : x ≤ 9223372036854775807) : wrap64 x = x := by unfold wrap64; omega
/-! ## Copies and sizes -/
theorem wf_range {x : Int} (h : (Lit.int .i64 x).wf = true) : -9223372036854775808 ≤ x ∧ x ≤ 9223372036854775807 := by
  simp [Lit.wf, IntKind.min, IntKind.max, IntKind.signed, IntKind.bits] at h
  exact h
theorem rd_get {l : List Int} {i : Nat} (h : i < l.length) : rd l (i : Int) = l[i] := by
  unfold rd; rw [Int.toNat_natCast, List.getD_eq_getElem?_getD, List.getElem?_eq_getElem h]; rfl
theorem rdB_get {l : List Bool} {i : Nat} (h : i < l.length) : rdOf false l (i : Int) = l[i] := by
  unfold rdOf; rw [Int.toNat_natCast, List.getD_eq_getElem?_getD, List.getElem?_eq_getElem h]; rfl
theorem toIntS_loop (l : List Int) (hl : l.length ≤ 1048576) : ∀ (m i : Nat) (acc : List Int), i + m = l.length → acc.length = l.length → acc.take i = l.take i → Ev (fun k => laws_toIntS.l0 k l acc (i : Int)) l
  | 0, i, acc, h, ha, ht => by
    have : acc = l := by
      have h1 : acc.take i = acc := List.take_of_length_le (by omega)
      have h2 : l.take i = l := List.take_of_length_le (by omega)
      rw [← h1, ht, h2]
    subst this
    refine Ev.step (f := fun _ => some acc) (fun k => ?_) (Ev.now _)
    simp only [laws_toIntS.l0]
    rw [if_neg (by omega)]
  | m + 1, i, acc, h, ha, ht => by
    have ih := toIntS_loop l hl m (i + 1) (acc.set i (rd l (i : Int))) (by omega) (by simp [ha]) (by
      rw [rd_get (by omega)]
      apply List.ext_getElem (by simp [ha])
      intro j h1 h2
      simp only [List.length_take] at h2
      rw [List.getElem_take, List.getElem_take, List.getElem_set]
      split
      · next e => subst e; rfl
      · next e =>
        have e1 : (acc.take i)[j]'(by simp; omega) = (l.take i)[j]'(by simp; omega) := by simp only [ht]
        rw [List.getElem_take, List.getElem_take] at e1
        exact e1)
    refine Ev.step (fun k => ?_) ih
    simp only [laws_toIntS.l0]
    rw [if_pos (by omega), if_pos (by omega), if_pos (by omega), w64 (by omega) (by omega)]
    simp
theorem toIntS (l : List Int) (hl : l.length ≤ 1048576) : Ev (fun k => laws_toIntS.f k l) l := by
  unfold laws_toIntS.f
  refine evCongr (fun k => (if_pos (by omega)).trans (if_pos (by omega))) ?_
  exact toIntS_loop l hl l.length 0 _ (by omega) (by simp) (by simp)
theorem eqIntS (l : List Int) (hl : l.length ≤ 1048576) : Ev (fun k => laws_eqIntS.f k l l) true := by
  unfold laws_eqIntS.f
  refine evCongr (fun k => if_pos rfl) ?_
  have hh : (findO (fun _ => (none : Option Bool)) 0 (l.length : Int).toNat).getD true = true := by rw [findO_nil]; rfl
  rw [← hh]
  refine loop0 (F := fun k x => laws_eqIntS.l0 k l l x) (n := (l.length : Int)) (g := fun _ => none) (e := true) (by omega) ?_ ?_
  · refine Ev.step (f := fun _ => some true) (fun k => ?_) (Ev.now _)
    simp only [laws_eqIntS.l0]; rw [if_neg (by omega)]
  · intro x h0 h1 r hr
    refine Ev.step (fun k => ?_) hr
    simp only [laws_eqIntS.l0]; rw [if_pos h1, if_pos h0, if_pos h1, w64 (by omega) (by omega)]; simp
def inV (x lo hi : Int) : Bool := decide (x ≥ lo) && decide (x ≤ hi)
theorem in_eq (x lo hi : Int) : spec_l1In.f x lo hi = some (inV x lo hi) := by
  unfold spec_l1In.f inV
  by_cases c : x ≥ lo
  · rw [if_pos c]; simp [c]
  · rw [if_neg c]; simp [c]
theorem within_eq (x lo hi : Int) : impl_within.f x lo hi = some (inV x lo hi) := in_eq x lo hi
end Go.Proofs.Ytipfkicndjddgaa.Pure
end

section
namespace Go.Proofs.Ytipfkicndjddgaa.P
open Go.RowKit Go.Proofs.YtipfkicndjddgaaW.PrintWords Go.Proofs.YtipfkicndjddgaaW.PrintLast Go.Proofs.YtipfkicndjddgaaW.PrintMore
attribute [local go_sem] max2_int min2_int max_two min_two max_three min_three max_four min_four   -- for this text's walks alone
set_option linter.unusedVariables false
set_option linter.unusedSimpArgs false

/-! ### laws_eqSystem: function 12 -/
def laws_eqSystem.f (k : Nat) (a0_0 : Int) (l0_1 : List Int) (l0_2 : List Int) (l0_3 : List Bool) (a1_0 : Int) (l1_1 : List Int) (l1_2 : List Int) (l1_3 : List Bool) : Option (Bool) := if a0_0 = a1_0 then ((laws_eqIntS.f k l0_1 l1_1).bind fun t372 => (if t372 = true then ((laws_eqIntS.f k l0_2 l1_2).bind fun t373 => (if t373 = true then ((laws_eqBoolS.f k l0_3 l1_3).bind fun t374 => (if t374 = true then (some true) else (some false))) else (some false))) else (some false))) else (some false)
set_option maxHeartbeats 8000000 in
set_option maxRecDepth 100000 in
theorem laws_eqSystem.calls (k : Nat) (a0_0 : Int) (A0_1 : Option Addr) (c0_1 : Nat) (l0_1 : List Int) (A0_2 : Option Addr) (c0_2 : Nat) (l0_2 : List Int) (A0_3 : Option Addr) (c0_3 : Nat) (l0_3 : List Bool) (a1_0 : Int) (A1_1 : Option Addr) (c1_1 : Nat) (l1_1 : List Int) (A1_2 : Option Addr) (c1_2 : Nat) (l1_2 : List Int) (A1_3 : Option Addr) (c1_3 : Nat) (l1_3 : List Bool) (r : Bool) (w : World) (hr0_1 : Kd.C (Kd.int .i64) w A0_1 l0_1.length l0_1) (hc0_1 : l0_1.length ≤ c0_1) (hr0_2 : Kd.C (Kd.int .i64) w A0_2 l0_2.length l0_2) (hc0_2 : l0_2.length ≤ c0_2) (hr0_3 : Kd.C Kd.bool w A0_3 l0_3.length l0_3) (hc0_3 : l0_3.length ≤ c0_3) (hr1_1 : Kd.C (Kd.int .i64) w A1_1 l1_1.length l1_1) (hc1_1 : l1_1.length ≤ c1_1) (hr1_2 : Kd.C (Kd.int .i64) w A1_2 l1_2.length l1_2) (hc1_2 : l1_2.length ≤ c1_2) (hr1_3 : Kd.C Kd.bool w A1_3 l1_3.length l1_3) (hc1_3 : l1_3.length ≤ c1_3) (h : laws_eqSystem.f k a0_0 l0_1 l0_2 l0_3 a1_0 l1_1 l1_2 l1_3 = some r) :
  Calls Try.prog 12 #[.agg #[.int .i64 a0_0, .slice A0_1 l0_1.length c0_1, .slice A0_2 l0_2.length c0_2, .slice A0_3 l0_3.length c0_3], .agg #[.int .i64 a1_0, .slice A1_1 l1_1.length c1_1, .slice A1_2 l1_2.length c1_2, .slice A1_3 l1_3.length c1_3]] w fun e w' => e = .returned (.bool r) ∧ Below w.heap.size w w' := by
 have hu27 := Try.underlying27
 have HR0_1 := sd_ hr0_1
 have HC0_1 := sd_ hc0_1
 clear hr0_1 hc0_1
 have HR0_2 := sd_ hr0_2
 have HC0_2 := sd_ hc0_2
 clear hr0_2 hc0_2
 have HR0_3 := sd_ hr0_3
 have HC0_3 := sd_ hc0_3
 clear hr0_3 hc0_3
 have HR1_1 := sd_ hr1_1
 have HC1_1 := sd_ hc1_1
 clear hr1_1 hc1_1
 have HR1_2 := sd_ hr1_2
 have HC1_2 := sd_ hc1_2
 clear hr1_2 hc1_2
 have HR1_3 := sd_ hr1_3
 have HC1_3 := sd_ hc1_3
 clear hr1_3 hc1_3
 have HB := sd_ (Below.refl w.heap.size w)
 have H : (if a0_0 = a1_0 then ((laws_eqIntS.f k l0_1 l1_1).bind fun t372 => (if t372 = true then ((laws_eqIntS.f k l0_2 l1_2).bind fun t373 => (if t373 = true then ((laws_eqBoolS.f k l0_3 l1_3).bind fun t374 => (if t374 = true then (some true) else (some false))) else (some false))) else (some false))) else (some false)) = some r := h
 clear h
 have HP3 := sd_ H
 clear H
 go_enter Try.func12, Try.ntmps12
 go_upto_if 9 with (first | ((with_reducible refine gate_dst (N := 2) rfl ?_); refine bx_ (N := 2) (cs := #[.int .i64 a0_0, .slice A0_1 l0_1.length c0_1, .slice A0_2 l0_2.length c0_2, .slice A0_3 l0_3.length c0_3]) (t := 27) ?_; intro gb370 hg w4 hbox hb; have BK370 := sd_ (hbox); have GW370 := sd_ (gs_ hg (bw0_ HB.out)); have GE370 := sd_ (gs_ hg (bw0_ HB.out)); replace HB := sd_ (below_step (bw0_ HB.out) hb); clear hb hbox hg) | ((with_reducible refine gate_dst (N := 3) rfl ?_); refine bx_ (N := 3) (cs := #[.int .i64 a1_0, .slice A1_1 l1_1.length c1_1, .slice A1_2 l1_2.length c1_2, .slice A1_3 l1_3.length c1_3]) (t := 27) ?_; intro gb371 hg w5 hbox hb; have BK371 := sd_ (hbox); have GW371 := sd_ (gs_ hg (bw1_ HB.out GE370.out)); have GE371 := sd_ (gs_ hg (bw1_ HB.out GE370.out)); replace HB := sd_ (below_step (bw1_ HB.out GE370.out) hb); have NB370_371 := sd_ (nl_ hg (bl_ BK370.out)); have NB371_370 := sd_ (ng_ hg (bl_ BK370.out)); replace BK370 := sd_ (bb_ BK370.out hb); clear hb hbox hg; have hnb6 := NB370_371.out; have hnc6 := NB371_370.out; obtain ⟨hcz7_0, hcz7_1, hcz7_2, hcz7_3, hfz7_0, hfz7_1, hfz7_2, hfz7_3⟩ := bf4_ BK370.out; obtain ⟨hcz8_0, hcz8_1, hcz8_2, hcz8_3, hfz8_0, hfz8_1, hfz8_2, hfz8_3⟩ := bf4_ BK371.out))
 have H := HP3.out
 clear HP3
 by_cases c9 : a0_0 = a1_0
 ·rw [if_pos c9] at H
  have c9b0 : (a0_0 == a1_0) = true := beq_iff_eq.mpr c9
  have c9b1 : (a0_0 != a1_0) = false := bne_eq_false_iff_eq.mpr c9
  clear c9
  (first | rw [c9b0] | (simp only [i64_w, i32_w]; rw [c9b0]) | skip)
  replace H := Option.bind_eq_some_iff.mp H
  obtain ⟨t372, A100, H⟩ := H
  try dsimp only at H
  have A10 := sd_ A100
  clear A100
  by_cases c11 : t372 = true
  ·subst c11
   have H1 : ((laws_eqIntS.f k l0_2 l1_2).bind fun t373 => (if t373 = true then ((laws_eqBoolS.f k l0_3 l1_3).bind fun t374 => (if t374 = true then (some true) else (some false))) else (some false))) = some r := by rw [if_pos rfl] at H; exact H
   clear H
   have H := H1
   clear H1
   replace H := Option.bind_eq_some_iff.mp H
   obtain ⟨t373, A120, H⟩ := H
   try dsimp only at H
   have A12 := sd_ A120
   clear A120
   by_cases c13 : t373 = true
   ·subst c13
    have H1 : ((laws_eqBoolS.f k l0_3 l1_3).bind fun t374 => (if t374 = true then (some true) else (some false))) = some r := by rw [if_pos rfl] at H; exact H
    clear H
    have H := H1
    clear H1
    replace H := Option.bind_eq_some_iff.mp H
    obtain ⟨t374, A140, H⟩ := H
    try dsimp only at H
    have A14 := sd_ A140
    clear A140
    by_cases c15 : t374 = true
    ·subst c15
     have H1 : (some true) = some r := by rw [if_pos rfl] at H; exact H
     clear H
     have H := H1
     clear H1
     obtain rfl := Option.some.inj H
     have hnb16 := NB370_371.out
     have hnc16 := NB371_370.out
     obtain ⟨hcz17_0, hcz17_1, hcz17_2, hcz17_3, hfz17_0, hfz17_1, hfz17_2, hfz17_3⟩ := bf4_ BK370.out
     obtain ⟨hcz18_0, hcz18_1, hcz18_2, hcz18_3, hfz18_0, hfz18_1, hfz18_2, hfz18_3⟩ := bf4_ BK371.out
     go_wp2_with (first | ((with_reducible refine gate_callee (f := 21) rfl ?_); refine goesL_ (some 14) rfl rfl Try.func21 (by kernel_rfl) rfl #[.slice A0_1 l0_1.length c0_1, .slice A1_1 l1_1.length c1_1] rfl la_ ?_; (with_reducible refine (laws_eqIntS.calls k _ _ l0_1 _ _ l1_1 true _ (kc_ HR0_1.out HB.out) HC0_1.out (kc_ HR1_1.out HB.out) HC1_1.out A10.out).mono ?_); rintro e w' ⟨rfl, ⟨nd, rfl⟩⟩; refine ⟨_, rfl, ?_⟩) | ((with_reducible refine gate_callee (f := 21) rfl ?_); refine goesL_ (some 20) rfl rfl Try.func21 (by kernel_rfl) rfl #[.slice A0_2 l0_2.length c0_2, .slice A1_2 l1_2.length c1_2] rfl la_ ?_; (with_reducible refine (laws_eqIntS.calls k _ _ l0_2 _ _ l1_2 true _ ?side1 ?side2 ?side3 ?side4 A12.out).mono ?_); (case side1 => repeat (first | exact (Kd.C_below HR0_2.out (bw2_ HB.out GE370.out GE371.out)) | (with_reducible refine Kd.C_alloc ?_ _) | (with_reducible refine Kd.C_drewN ?_ _) | (with_reducible refine Kd.C_drew ?_))); (case side2 => exact HC0_2.out); (case side3 => repeat (first | exact (Kd.C_below HR1_2.out (bw2_ HB.out GE370.out GE371.out)) | (with_reducible refine Kd.C_alloc ?_ _) | (with_reducible refine Kd.C_drewN ?_ _) | (with_reducible refine Kd.C_drew ?_))); (case side4 => exact HC1_2.out); rintro e w' ⟨rfl, ⟨nd, rfl⟩⟩; refine ⟨_, rfl, ?_⟩) | ((with_reducible refine gate_callee (f := 55) rfl ?_); refine goesL_ (some 26) rfl rfl Try.func55 (by kernel_rfl) rfl #[.slice A0_3 l0_3.length c0_3, .slice A1_3 l1_3.length c1_3] rfl la_ ?_; (with_reducible refine (laws_eqBoolS.calls k _ _ l0_3 _ _ l1_3 true _ ?side1 ?side2 ?side3 ?side4 A14.out).mono ?_); (case side1 => repeat (first | exact (Kd.C_below HR0_3.out (bw2_ HB.out GE370.out GE371.out)) | (with_reducible refine Kd.C_alloc ?_ _) | (with_reducible refine Kd.C_drewN ?_ _) | (with_reducible refine Kd.C_drew ?_))); (case side2 => exact HC0_3.out); (case side3 => repeat (first | exact (Kd.C_below HR1_3.out (bw2_ HB.out GE370.out GE371.out)) | (with_reducible refine Kd.C_alloc ?_ _) | (with_reducible refine Kd.C_drewN ?_ _) | (with_reducible refine Kd.C_drew ?_))); (case side4 => exact HC1_3.out); rintro e w' ⟨rfl, ⟨nd, rfl⟩⟩; refine ⟨_, rfl, ?_⟩))
     go_ret
     exact ⟨an_, bw2_ HB.out GE370.out GE371.out⟩
    replace c15 := Bool.eq_false_iff.mpr c15
    subst c15
    have H1 : (some false) = some r := by rw [if_neg (show ¬ (false = true) by decide)] at H; exact H
    clear H
    have H := H1
    clear H1
    obtain rfl := Option.some.inj H
    have hnb19 := NB370_371.out
    have hnc19 := NB371_370.out
    obtain ⟨hcz20_0, hcz20_1, hcz20_2, hcz20_3, hfz20_0, hfz20_1, hfz20_2, hfz20_3⟩ := bf4_ BK370.out
    obtain ⟨hcz21_0, hcz21_1, hcz21_2, hcz21_3, hfz21_0, hfz21_1, hfz21_2, hfz21_3⟩ := bf4_ BK371.out
    go_wp2_with (first | ((with_reducible refine gate_callee (f := 21) rfl ?_); refine goesL_ (some 14) rfl rfl Try.func21 (by kernel_rfl) rfl #[.slice A0_1 l0_1.length c0_1, .slice A1_1 l1_1.length c1_1] rfl la_ ?_; (with_reducible refine (laws_eqIntS.calls k _ _ l0_1 _ _ l1_1 true _ (kc_ HR0_1.out HB.out) HC0_1.out (kc_ HR1_1.out HB.out) HC1_1.out A10.out).mono ?_); rintro e w' ⟨rfl, ⟨nd, rfl⟩⟩; refine ⟨_, rfl, ?_⟩) | ((with_reducible refine gate_callee (f := 21) rfl ?_); refine goesL_ (some 20) rfl rfl Try.func21 (by kernel_rfl) rfl #[.slice A0_2 l0_2.length c0_2, .slice A1_2 l1_2.length c1_2] rfl la_ ?_; (with_reducible refine (laws_eqIntS.calls k _ _ l0_2 _ _ l1_2 true _ ?side1 ?side2 ?side3 ?side4 A12.out).mono ?_); (case side1 => repeat (first | exact (Kd.C_below HR0_2.out (bw2_ HB.out GE370.out GE371.out)) | (with_reducible refine Kd.C_alloc ?_ _) | (with_reducible refine Kd.C_drewN ?_ _) | (with_reducible refine Kd.C_drew ?_))); (case side2 => exact HC0_2.out); (case side3 => repeat (first | exact (Kd.C_below HR1_2.out (bw2_ HB.out GE370.out GE371.out)) | (with_reducible refine Kd.C_alloc ?_ _) | (with_reducible refine Kd.C_drewN ?_ _) | (with_reducible refine Kd.C_drew ?_))); (case side4 => exact HC1_2.out); rintro e w' ⟨rfl, ⟨nd, rfl⟩⟩; refine ⟨_, rfl, ?_⟩) | ((with_reducible refine gate_callee (f := 55) rfl ?_); refine goesL_ (some 26) rfl rfl Try.func55 (by kernel_rfl) rfl #[.slice A0_3 l0_3.length c0_3, .slice A1_3 l1_3.length c1_3] rfl la_ ?_; (with_reducible refine (laws_eqBoolS.calls k _ _ l0_3 _ _ l1_3 false _ ?side1 ?side2 ?side3 ?side4 A14.out).mono ?_); (case side1 => repeat (first | exact (Kd.C_below HR0_3.out (bw2_ HB.out GE370.out GE371.out)) | (with_reducible refine Kd.C_alloc ?_ _) | (with_reducible refine Kd.C_drewN ?_ _) | (with_reducible refine Kd.C_drew ?_))); (case side2 => exact HC0_3.out); (case side3 => repeat (first | exact (Kd.C_below HR1_3.out (bw2_ HB.out GE370.out GE371.out)) | (with_reducible refine Kd.C_alloc ?_ _) | (with_reducible refine Kd.C_drewN ?_ _) | (with_reducible refine Kd.C_drew ?_))); (case side4 => exact HC1_3.out); rintro e w' ⟨rfl, ⟨nd, rfl⟩⟩; refine ⟨_, rfl, ?_⟩))
    go_ret
    exact ⟨an_, bw2_ HB.out GE370.out GE371.out⟩
   replace c13 := Bool.eq_false_iff.mpr c13
   subst c13
   have H1 : (some false) = some r := by rw [if_neg (show ¬ (false = true) by decide)] at H; exact H
   clear H
   have H := H1
   clear H1
   obtain rfl := Option.some.inj H
   have hnb22 := NB370_371.out
   have hnc22 := NB371_370.out
   obtain ⟨hcz23_0, hcz23_1, hcz23_2, hcz23_3, hfz23_0, hfz23_1, hfz23_2, hfz23_3⟩ := bf4_ BK370.out
   obtain ⟨hcz24_0, hcz24_1, hcz24_2, hcz24_3, hfz24_0, hfz24_1, hfz24_2, hfz24_3⟩ := bf4_ BK371.out
   go_wp2_with (first | ((with_reducible refine gate_callee (f := 21) rfl ?_); refine goesL_ (some 14) rfl rfl Try.func21 (by kernel_rfl) rfl #[.slice A0_1 l0_1.length c0_1, .slice A1_1 l1_1.length c1_1] rfl la_ ?_; (with_reducible refine (laws_eqIntS.calls k _ _ l0_1 _ _ l1_1 true _ (kc_ HR0_1.out HB.out) HC0_1.out (kc_ HR1_1.out HB.out) HC1_1.out A10.out).mono ?_); rintro e w' ⟨rfl, ⟨nd, rfl⟩⟩; refine ⟨_, rfl, ?_⟩) | ((with_reducible refine gate_callee (f := 21) rfl ?_); refine goesL_ (some 20) rfl rfl Try.func21 (by kernel_rfl) rfl #[.slice A0_2 l0_2.length c0_2, .slice A1_2 l1_2.length c1_2] rfl la_ ?_; (with_reducible refine (laws_eqIntS.calls k _ _ l0_2 _ _ l1_2 false _ ?side1 ?side2 ?side3 ?side4 A12.out).mono ?_); (case side1 => repeat (first | exact (Kd.C_below HR0_2.out (bw2_ HB.out GE370.out GE371.out)) | (with_reducible refine Kd.C_alloc ?_ _) | (with_reducible refine Kd.C_drewN ?_ _) | (with_reducible refine Kd.C_drew ?_))); (case side2 => exact HC0_2.out); (case side3 => repeat (first | exact (Kd.C_below HR1_2.out (bw2_ HB.out GE370.out GE371.out)) | (with_reducible refine Kd.C_alloc ?_ _) | (with_reducible refine Kd.C_drewN ?_ _) | (with_reducible refine Kd.C_drew ?_))); (case side4 => exact HC1_2.out); rintro e w' ⟨rfl, ⟨nd, rfl⟩⟩; refine ⟨_, rfl, ?_⟩))
   go_ret
   exact ⟨an_, bw2_ HB.out GE370.out GE371.out⟩
  replace c11 := Bool.eq_false_iff.mpr c11
  subst c11
  have H1 : (some false) = some r := by rw [if_neg (show ¬ (false = true) by decide)] at H; exact H
  clear H
  have H := H1
  clear H1
  obtain rfl := Option.some.inj H
  have hnb25 := NB370_371.out
  have hnc25 := NB371_370.out
  obtain ⟨hcz26_0, hcz26_1, hcz26_2, hcz26_3, hfz26_0, hfz26_1, hfz26_2, hfz26_3⟩ := bf4_ BK370.out
  obtain ⟨hcz27_0, hcz27_1, hcz27_2, hcz27_3, hfz27_0, hfz27_1, hfz27_2, hfz27_3⟩ := bf4_ BK371.out
  go_wp2_with (first | ((with_reducible refine gate_callee (f := 21) rfl ?_); refine goesL_ (some 14) rfl rfl Try.func21 (by kernel_rfl) rfl #[.slice A0_1 l0_1.length c0_1, .slice A1_1 l1_1.length c1_1] rfl la_ ?_; (with_reducible refine (laws_eqIntS.calls k _ _ l0_1 _ _ l1_1 false _ (kc_ HR0_1.out HB.out) HC0_1.out (kc_ HR1_1.out HB.out) HC1_1.out A10.out).mono ?_); rintro e w' ⟨rfl, ⟨nd, rfl⟩⟩; refine ⟨_, rfl, ?_⟩))
  go_ret
  exact ⟨an_, bw2_ HB.out GE370.out GE371.out⟩
 rw [if_neg c9] at H
 have c9b0 : (a0_0 == a1_0) = false := beq_eq_false_iff_ne.mpr c9
 have c9b1 : (a0_0 != a1_0) = true := bne_iff_ne.mpr c9
 (first | rw [c9b0] | (simp only [i64_w, i32_w]; rw [c9b0]) | skip)
 obtain rfl := Option.some.inj H
 go_wp2
 go_ret
 exact ⟨an_, bw2_ HB.out GE370.out GE371.out⟩


/-! ### laws_markSystem: function 13 -/
def laws_markSystem.f (k : Nat) (a0_0 : Int) (l0_1 : List Int) (l0_2 : List Int) (l0_3 : List Bool) (a1 : Int) : Option (Int × List Int × List Int × List Bool) := (laws_markIntS.f k l0_1 a1).bind fun bt378 => ((laws_markIntS.f k l0_2 bt378.1).bind fun bt380 => ((laws_markBoolS.f k l0_3 bt380.1).bind fun bt382 => (some (bt382.1, bt378.2, bt380.2, bt382.2))))
set_option maxHeartbeats 8000000 in
set_option maxRecDepth 100000 in
theorem laws_markSystem.calls (k : Nat) (a0_0 : Int) (P0_1_ : Nat → Prop) (u9000_ : Value) (l0_1 : List Int) (P0_2_ : Nat → Prop) (u9001_ : Value) (l0_2 : List Int) (P0_3_ : Nat → Prop) (u9002_ : Value) (l0_3 : List Bool) (a1 : Int) (r1 : Int) (r2 : List Int) (r3 : List Int) (r4 : List Bool) (w0 w : World) (hB : Below w0.heap.size w0 w) (ho0_1 : Kd.R (Kd.int .i64) 3 w w0.heap.size P0_1_ u9000_ l0_1) (hp0_1_0_2 : ∀ k_, P0_1_ k_ → ¬ P0_2_ k_) (ho0_2 : Kd.R (Kd.int .i64) 3 w w0.heap.size P0_2_ u9001_ l0_2) (hp0_2_0_1 : ∀ k_, P0_2_ k_ → ¬ P0_1_ k_) (ho0_3 : Kd.R Kd.bool 4 w w0.heap.size P0_3_ u9002_ l0_3) (h : laws_markSystem.f k a0_0 l0_1 l0_2 l0_3 a1 = some (r1, r2, r3, r4)) :
  Calls Try.prog 13 #[.agg #[.int .i64 a0_0, u9000_, u9001_, u9002_], .int .i64 a1] w fun e w' => e = .returned (.int .i64 r1) ∧ Kd.R (Kd.int .i64) 3 w' w0.heap.size (fun k_ => ((P0_1_ k_ ∨ P0_2_ k_ ∨ P0_3_ k_) ∨ w.heap.size ≤ k_)) u9000_ r2 ∧ Kd.R (Kd.int .i64) 3 w' w0.heap.size (fun k_ => ((P0_1_ k_ ∨ P0_2_ k_ ∨ P0_3_ k_) ∨ w.heap.size ≤ k_)) u9001_ r3 ∧ Kd.R Kd.bool 4 w' w0.heap.size (fun k_ => ((P0_1_ k_ ∨ P0_2_ k_ ∨ P0_3_ k_) ∨ w.heap.size ≤ k_)) u9002_ r4 ∧ Below w0.heap.size w0 w' ∧ Kept w w' (fun k_ => P0_1_ k_ ∨ P0_2_ k_ ∨ P0_3_ k_) := by
 have hu27 := Try.underlying27
 have HO0_1 := sd_ (show Kd.R (Kd.int .i64) 3 w w0.heap.size (fun k_ => ((P0_1_ k_ ∨ P0_2_ k_ ∨ P0_3_ k_) ∨ w.heap.size ≤ k_) ∧ some k_ ≠ (u9001_ : Value).ownBlock) u9000_ l0_1 from Kd.R_mono ho0_1 (fun k_ hk => ⟨(.inl (.inl hk)), fun e_ => hp0_1_0_2 k_ hk (ho0_2.1 k_ e_.symm)⟩))
 have HO0_2 := sd_ (show Kd.R (Kd.int .i64) 3 w w0.heap.size (fun k_ => ((P0_1_ k_ ∨ P0_2_ k_ ∨ P0_3_ k_) ∨ w.heap.size ≤ k_) ∧ some k_ ≠ (u9000_ : Value).ownBlock) u9001_ l0_2 from Kd.R_mono ho0_2 (fun k_ hk => ⟨(.inl (.inr (.inl hk))), fun e_ => hp0_2_0_1 k_ hk (ho0_1.1 k_ e_.symm)⟩))
 have HO0_3 := sd_ (show Kd.R Kd.bool 4 w w0.heap.size (fun k_ => ((P0_1_ k_ ∨ P0_2_ k_ ∨ P0_3_ k_) ∨ w.heap.size ≤ k_)) u9002_ l0_3 from Kd.R_mono ho0_3 (fun k_ hk => (.inl (.inr (.inr hk)))))
 have HK := sd_ (Kept.refl w (fun k_ => P0_1_ k_ ∨ P0_2_ k_ ∨ P0_3_ k_))
 have HW0 := sd_ hB.size
 have HB := sd_ hB
 clear hB
 have H : ((laws_markIntS.f k l0_1 a1).bind fun bt378 => ((laws_markIntS.f k l0_2 bt378.1).bind fun bt380 => ((laws_markBoolS.f k l0_3 bt380.1).bind fun bt382 => (some (bt382.1, bt378.2, bt380.2, bt382.2))))) = some (r1, r2, r3, r4) := h
 clear h
 replace H := Option.bind_eq_some_iff.mp H
 obtain ⟨⟨t378, t379⟩, A30, H⟩ := H
 try dsimp only at H
 have A3 := sd_ A30
 clear A30
 replace H := Option.bind_eq_some_iff.mp H
 obtain ⟨⟨t380, t381⟩, A40, H⟩ := H
 try dsimp only at H
 have A4 := sd_ A40
 clear A40
 replace H := Option.bind_eq_some_iff.mp H
 obtain ⟨⟨t382, t383⟩, A50, H⟩ := H
 try dsimp only at H
 have A5 := sd_ A50
 clear A50
 simp only [Option.some.injEq, Prod.mk.injEq] at H
 obtain ⟨rfl, rfl, rfl, rfl⟩ := H
 obtain ⟨Ao6, co6, eo6⟩ := Kd.R_slice HO0_1.out
 subst eo6
 obtain ⟨Ao7, co7, eo7⟩ := Kd.R_slice HO0_2.out
 subst eo7
 obtain ⟨Ao8, co8, eo8⟩ := Kd.R_slice HO0_3.out
 subst eo8
 go_enter Try.func13, Try.ntmps13
 go_wp2_with (first | ((with_reducible refine gate_dst (N := 2) rfl ?_); refine bx_ (N := 2) (cs := #[.int .i64 a0_0, .slice Ao6 l0_1.length co6, .slice Ao7 l0_2.length co7, .slice Ao8 l0_3.length co8]) (t := 27) ?_; intro gb377 hg w9 hbox hb; replace HO0_1 := sd_ (Kd.R_below (ro_ HO0_1.out) hb); replace HO0_2 := sd_ (Kd.R_below (ro_ HO0_2.out) hb); replace HO0_3 := sd_ (Kd.R_below (ro_ HO0_3.out) hb); have BK377 := sd_ (hbox); have GW377 := sd_ ((by rw [hg]; exact (by first | exact HK.out.1 | exact (show Kept w _ (fun k_ => P0_1_ k_ ∨ P0_2_ k_ ∨ P0_3_ k_) from by repeat (first | (with_reducible first | exact HK.out | apply Kept.alloc | apply Kept.drewN | apply Kept.drew) | exact HK.out)).1) : w.heap.size ≤ gb377)); replace HK := sd_ (Kept.below (S := (fun k_ => P0_1_ k_ ∨ P0_2_ k_ ∨ P0_3_ k_)) (by repeat (first | (with_reducible first | exact HK.out | apply Kept.alloc | apply Kept.drewN | apply Kept.drew) | exact HK.out)) hb); have GE377 := sd_ ((by rw [hg]; exact (below_size (bw0_ HB.out)) : w0.heap.size ≤ gb377)); replace HB := sd_ (below_step (bw0_ HB.out) hb); clear hb hbox hg; obtain ⟨hcz10_0, hcz10_1, hcz10_2, hcz10_3, hfz10_0, hfz10_1, hfz10_2, hfz10_3⟩ := bf4_ BK377.out) | ((with_reducible refine gate_callee (f := 22) rfl ?_); refine goesL_ (some 8) rfl rfl Try.func22 (by kernel_rfl) rfl #[.slice Ao6 l0_1.length co6, .int .i64 a1] rfl la_ ?_; (with_reducible refine (laws_markIntS.calls k (fun k_ => some k_ = (.slice Ao6 l0_1.length co6 : Value).ownBlock) (.slice Ao6 l0_1.length co6) l0_1 a1 t378 t379 w0 _ ?side1 ?side2 A3.out).mono ?_); (case side1 => repeat (first | (with_reducible first | exact HB.out | apply below_alloc | apply pw_below_drewN | apply below_drew1 | refine below_set ?_ GE377.out) | exact HB.out)); (case side2 => exact Kd.R_tight rfl HO0_1.out); rintro e w11 ⟨rfl, hy0, hb, hkp⟩; refine ⟨_, rfl, ?_⟩; replace HO0_2 := sd_ (Kd.R_mono (ok' := fun k_ => ((P0_1_ k_ ∨ P0_2_ k_ ∨ P0_3_ k_) ∨ w.heap.size ≤ k_) ∧ some k_ ≠ (.slice Ao6 l0_1.length co6 : Value).ownBlock) (Kd.R_keptB (HO0_2.out) hkp (fun k_ hk_ hs_ => (hk_.2) hs_)) (fun k_ hk_ => ⟨hk_.1.1, hk_.1.2⟩)); replace HO0_3 := sd_ (Kd.R_mono (ok' := fun k_ => ((P0_1_ k_ ∨ P0_2_ k_ ∨ P0_3_ k_) ∨ w.heap.size ≤ k_)) (Kd.R_keptB ((Kd.R_apart' HO0_3.out (Kd.R_typed HO0_1.out) (by decide))) hkp (fun k_ hk_ hs_ => (hk_.2) hs_)) (fun k_ hk_ => hk_.1.1)); replace BK377 := sd_ (blk_kept (bz_ BK377.out) hkp (fun hs_ => (fun e_ => (Kd.R_ne HO0_1.out BK377.out (by decide)) e_) hs_)); replace HK := sd_ (Kept.then_ (S := (fun k_ => P0_1_ k_ ∨ P0_2_ k_ ∨ P0_3_ k_)) (by repeat (first | (with_reducible first | exact HK.out | apply Kept.alloc | apply Kept.drewN | apply Kept.drew | refine Kept.setCell ?_ (.inr GW377.out) _) | exact HK.out)) hkp (fun k_ hs_ => (fun e_ => (HO0_1.out.1 k_ e_.symm).1) hs_)); replace HO0_1 := sd_ (Kd.R_reok rfl hy0 (fun k_ e_ => HO0_1.out.1 k_ e_)); replace HB := sd_ (hb); (try clear hb); (try clear hkp); (try clear hy0); obtain ⟨hcz12_0, hcz12_1, hcz12_2, hcz12_3, hfz12_0, hfz12_1, hfz12_2, hfz12_3⟩ := bf4_ BK377.out) | ((with_reducible refine gate_callee (f := 22) rfl ?_); refine goesL_ (some 12) rfl rfl Try.func22 (by kernel_rfl) rfl #[.slice Ao7 l0_2.length co7, .int .i64 t378] rfl la_ ?_; (with_reducible refine (laws_markIntS.calls k (fun k_ => some k_ = (.slice Ao7 l0_2.length co7 : Value).ownBlock) (.slice Ao7 l0_2.length co7) l0_2 t378 t380 t381 w0 _ ?side1 ?side2 A4.out).mono ?_); (case side1 => repeat (first | (with_reducible first | exact HB.out | apply below_alloc | apply pw_below_drewN | apply below_drew1 | refine below_set ?_ GE377.out) | exact HB.out)); (case side2 => exact Kd.R_tight rfl HO0_2.out); rintro e w13 ⟨rfl, hy0, hb, hkp⟩; refine ⟨_, rfl, ?_⟩; replace HO0_1 := sd_ (Kd.R_mono (ok' := fun k_ => ((P0_1_ k_ ∨ P0_2_ k_ ∨ P0_3_ k_) ∨ w.heap.size ≤ k_) ∧ some k_ ≠ (.slice Ao7 l0_2.length co7 : Value).ownBlock) (Kd.R_keptB (HO0_1.out) hkp (fun k_ hk_ hs_ => (hk_.2) hs_)) (fun k_ hk_ => ⟨hk_.1.1, hk_.1.2⟩)); replace HO0_3 := sd_ (Kd.R_mono (ok' := fun k_ => ((P0_1_ k_ ∨ P0_2_ k_ ∨ P0_3_ k_) ∨ w.heap.size ≤ k_)) (Kd.R_keptB ((Kd.R_apart' HO0_3.out (Kd.R_typed HO0_2.out) (by decide))) hkp (fun k_ hk_ hs_ => (hk_.2) hs_)) (fun k_ hk_ => hk_.1.1)); replace BK377 := sd_ (blk_kept (bz_ BK377.out) hkp (fun hs_ => (fun e_ => (Kd.R_ne HO0_2.out BK377.out (by decide)) e_) hs_)); replace HK := sd_ (Kept.then_ (S := (fun k_ => P0_1_ k_ ∨ P0_2_ k_ ∨ P0_3_ k_)) (by repeat (first | (with_reducible first | exact HK.out | apply Kept.alloc | apply Kept.drewN | apply Kept.drew | refine Kept.setCell ?_ (.inr GW377.out) _) | exact HK.out)) hkp (fun k_ hs_ => (fun e_ => (HO0_2.out.1 k_ e_.symm).1) hs_)); replace HO0_2 := sd_ (Kd.R_reok rfl hy0 (fun k_ e_ => HO0_2.out.1 k_ e_)); replace HB := sd_ (hb); (try clear hb); (try clear hkp); (try clear hy0); obtain ⟨hcz14_0, hcz14_1, hcz14_2, hcz14_3, hfz14_0, hfz14_1, hfz14_2, hfz14_3⟩ := bf4_ BK377.out) | ((with_reducible refine gate_callee (f := 56) rfl ?_); refine goesL_ (some 16) rfl rfl Try.func56 (by kernel_rfl) rfl #[.slice Ao8 l0_3.length co8, .int .i64 t380] rfl la_ ?_; (with_reducible refine (laws_markBoolS.calls k (fun k_ => some k_ = (.slice Ao8 l0_3.length co8 : Value).ownBlock) (.slice Ao8 l0_3.length co8) l0_3 t380 t382 t383 w0 _ ?side1 ?side2 A5.out).mono ?_); (case side1 => repeat (first | (with_reducible first | exact HB.out | apply below_alloc | apply pw_below_drewN | apply below_drew1 | refine below_set ?_ GE377.out) | exact HB.out)); (case side2 => exact Kd.R_tight rfl HO0_3.out); rintro e w15 ⟨rfl, hy0, hb, hkp⟩; refine ⟨_, rfl, ?_⟩; replace HO0_1 := sd_ (Kd.R_mono (ok' := fun k_ => ((P0_1_ k_ ∨ P0_2_ k_ ∨ P0_3_ k_) ∨ w.heap.size ≤ k_) ∧ some k_ ≠ (.slice Ao7 l0_2.length co7 : Value).ownBlock) (Kd.R_keptB ((Kd.R_apart' HO0_1.out (Kd.R_typed HO0_3.out) (by decide))) hkp (fun k_ hk_ hs_ => (hk_.2) hs_)) (fun k_ hk_ => ⟨hk_.1.1.1, hk_.1.1.2⟩)); replace HO0_2 := sd_ (Kd.R_mono (ok' := fun k_ => ((P0_1_ k_ ∨ P0_2_ k_ ∨ P0_3_ k_) ∨ w.heap.size ≤ k_) ∧ some k_ ≠ (.slice Ao6 l0_1.length co6 : Value).ownBlock) (Kd.R_keptB ((Kd.R_apart' HO0_2.out (Kd.R_typed HO0_3.out) (by decide))) hkp (fun k_ hk_ hs_ => (hk_.2) hs_)) (fun k_ hk_ => ⟨hk_.1.1.1, hk_.1.1.2⟩)); replace BK377 := sd_ (blk_kept (bz_ BK377.out) hkp (fun hs_ => (fun e_ => (Kd.R_ne HO0_3.out BK377.out (by decide)) e_) hs_)); replace HK := sd_ (Kept.then_ (S := (fun k_ => P0_1_ k_ ∨ P0_2_ k_ ∨ P0_3_ k_)) (by repeat (first | (with_reducible first | exact HK.out | apply Kept.alloc | apply Kept.drewN | apply Kept.drew | refine Kept.setCell ?_ (.inr GW377.out) _) | exact HK.out)) hkp (fun k_ hs_ => (fun e_ => (HO0_3.out.1 k_ e_.symm)) hs_)); replace HO0_3 := sd_ (Kd.R_reok rfl hy0 (fun k_ e_ => HO0_3.out.1 k_ e_)); replace HB := sd_ (hb); (try clear hb); (try clear hkp); (try clear hy0)))
 go_ret
 exact ⟨an_, by (with_reducible repeat (first | apply Kd.R_alloc | apply Kd.R_drewN | apply Kd.R_drew)); exact Kd.R_mono HO0_1.out (fun _ hk => hk.1), by (with_reducible repeat (first | apply Kd.R_alloc | apply Kd.R_drewN | apply Kd.R_drew)); exact Kd.R_mono HO0_2.out (fun _ hk => hk.1), by (with_reducible repeat (first | apply Kd.R_alloc | apply Kd.R_drewN | apply Kd.R_drew)); exact HO0_3.out, bw1_ HB.out GE377.out, by repeat (first | (with_reducible first | exact HK.out | apply Kept.alloc | apply Kept.drewN | apply Kept.drew | refine Kept.setCell ?_ (.inr GW377.out) _) | exact HK.out)⟩

end Go.Proofs.Ytipfkicndjddgaa.P
end
