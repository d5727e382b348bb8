-- Several texts in one (wip/tools/merge.py).
import Derived.Test.YtjjkagnbdfofbaaPf86
import Derived.Test.YtjjkagnbdfofbaaPf21
import Derived.Test.YtjjkagnbdfofbaaM13
import Derived.Test.YtjjkagnbdfofbaaPf7
import Derived.Test.YtjjkagnbdfofbaaM2
section
/- Marked sets of grades. -/
set_option linter.unusedSimpArgs false
set_option linter.unusedVariables false
namespace Go.Proofs.Ytjjkagnbdfofbaa.Pure
open Go.RowKit Go.Proofs.Ytjjkagnbdfofbaa.P Go.Proofs.YtjjkagnbdfofbaaW.PrintWords Go.Proofs.YtjjkagnbdfofbaaW.PrintLast
/-- What a pair of grades tells of a marked set. -/
def v1 (n : Int) (p t : List Int) (b : List Bool) (s : List Bool) (x y : Int) : Option Bool :=
  if rdOf false s x = true then
    (if rdOf false s (A n p x y) = true ∧ rdOf false s (A n t x y) = rdOf false s y ∧ (L n b x y = true → rdOf false s y = true) then none else some false)
  else (if rdOf false s (A n p x y) = rdOf false s y ∧ rdOf false s (A n t x y) = false then none else some false)
def v0 (n : Int) (p t : List Int) (b : List Bool) (s : List Bool) (x : Int) : Option Bool := findO (v1 n p t b s x) 0 n.toNat
def markV (n : Int) (p t : List Int) (b : List Bool) (s : List Bool) : Bool := if rdOf false s 0 = false ∧ rdOf false s 1 = true then (findO (v0 n p t b s) 0 n.toNat).getD true else false
section
variable {n : Int} {p t : List Int} {b : List Bool} {s : List Bool}
theorem specMarks (h : OK n p t b) (hs : (s.length : Int) = n) : Ev (fun k => spec_l1View.l0 k s 0 n p t b) ((findO (v0 n p t b s) 0 n.toNat).getD true) := by
  have hn : 0 ≤ n := by have := h.lo; omega
  have up : ∀ x, 0 ≤ x → x < n → wrap64 (x + 1) = x + 1 := fun x h0 h1 => w64 (by omega) (by have := h.hi; omega)
  refine loop0 (F := fun k x => spec_l1View.l0 k s x n p t b) hn ?_ ?_
  · refine Ev.step (f := fun _ => some true) (fun k => ?_) (Ev.now _)
    simp only [spec_l1View.l0]; rw [if_neg (by omega)]
  · intro x x0 x1 r hr
    refine Ev.step (f := fun k => spec_l1View.l1 k s x 0 n p t b) (fun k => ?_) ?_
    · simp only [spec_l1View.l0]; rw [if_pos x1]
    · unfold v0
      refine loop0 (F := fun k y => spec_l1View.l1 k s x y n p t b) hn ?_ ?_
      · refine Ev.step (fun k => ?_) hr
        simp only [spec_l1View.l1]; rw [if_neg (by omega), up x x0 x1]
      · intro y y0 y1 r hr
        have hx : Rg n x := ⟨x0, x1⟩
        have hy : Rg n y := ⟨y0, y1⟩
        have ha := A_in h hx hy
        have hm := M_in h hx hy
        have ha' : A n p x y < (s.length : Int) := by rw [hs]; exact ha.2
        have hm' : A n t x y < (s.length : Int) := by rw [hs]; exact hm.2
        have x2 : x < (s.length : Int) := by omega
        have y2 : y < (s.length : Int) := by omega
        refine Ev.step (f := fun k => if v1 n p t b s x y = none then spec_l1View.l1 k s x (y + 1) n p t b else some false) (fun k => ?_) ?_
        · simp only [spec_l1View.l1, add_eq h hx hy, mul_eq h hx hy, le_eq h hx hy, Option.bind_some, if_pos y1, if_pos ha.1, if_pos ha', if_pos x0, if_pos x2, if_pos y0, if_pos y2, if_pos hm.1, if_pos hm', up y y0 y1]
          unfold v1
          generalize rdOf false s x = q1
          generalize rdOf false s (A n p x y) = q2
          generalize rdOf false s (A n t x y) = q3
          generalize rdOf false s y = q4
          generalize L n b x y = q5
          cases q1 <;> cases q2 <;> cases q3 <;> cases q4 <;> cases q5 <;> simp
        · cases c : v1 n p t b s x y with
          | none => simpa using hr
          | some u =>
            have : u = false := by
              unfold v1 at c
              repeat' split at c
              all_goals first | exact (Option.some.inj c).symm | cases c
            subst this
            simpa using Ev.now false
theorem implMarks (h : OK n p t b) (hs : (s.length : Int) = n) : Ev (fun k => impl_isView.l0 k s 0 n p t b) ((findO (v0 n p t b s) 0 n.toNat).getD true) := by
  have hn : 0 ≤ n := by have := h.lo; omega
  have up : ∀ x, 0 ≤ x → x < n → wrap64 (x + 1) = x + 1 := fun x h0 h1 => w64 (by omega) (by have := h.hi; omega)
  refine loop0 (F := fun k x => impl_isView.l0 k s x n p t b) hn ?_ ?_
  · refine Ev.step (f := fun _ => some true) (fun k => ?_) (Ev.now _)
    simp only [impl_isView.l0]; rw [if_neg (by omega)]
  · intro x x0 x1 r hr
    refine Ev.step (f := fun k => impl_isView.l1 k s x 0 n p t b) (fun k => ?_) ?_
    · simp only [impl_isView.l0]; rw [if_pos x1]
    · unfold v0
      refine loop0 (F := fun k y => impl_isView.l1 k s x y n p t b) hn ?_ ?_
      · refine Ev.step (fun k => ?_) hr
        simp only [impl_isView.l1]; rw [if_neg (by omega), up x x0 x1]
      · intro y y0 y1 r hr
        have hx : Rg n x := ⟨x0, x1⟩
        have hy : Rg n y := ⟨y0, y1⟩
        have ha := A_in h hx hy
        have hm := M_in h hx hy
        have ha' : A n p x y < (s.length : Int) := by rw [hs]; exact ha.2
        have hm' : A n t x y < (s.length : Int) := by rw [hs]; exact hm.2
        have x2 : x < (s.length : Int) := by omega
        have y2 : y < (s.length : Int) := by omega
        refine Ev.step (f := fun k => if v1 n p t b s x y = none then impl_isView.l1 k s x (y + 1) n p t b else some false) (fun k => ?_) ?_
        · simp only [impl_isView.l1, plus_is, times_is, below_is, add_eq h hx hy, mul_eq h hx hy, le_eq h hx hy, Option.bind_some, if_pos y1, if_pos ha.1, if_pos ha', if_pos x0, if_pos x2, if_pos y0, if_pos y2, if_pos hm.1, if_pos hm', up y y0 y1]
          unfold v1
          generalize rdOf false s x = q1
          generalize rdOf false s (A n p x y) = q2
          generalize rdOf false s (A n t x y) = q3
          generalize rdOf false s y = q4
          generalize L n b x y = q5
          cases q1 <;> cases q2 <;> cases q3 <;> cases q4 <;> cases q5 <;> simp
        · cases c : v1 n p t b s x y with
          | none => simpa using hr
          | some u =>
            have : u = false := by
              unfold v1 at c
              repeat' split at c
              all_goals first | exact (Option.some.inj c).symm | cases c
            subst this
            simpa using Ev.now false
theorem specMark (h : OK n p t b) (hs : (s.length : Int) = n) : Ev (fun k => spec_l1View.f k n p t b s) (markV n p t b s) := by
  have p0 : 0 < (s.length : Int) := by have := h.lo; omega
  have p1 : 1 < (s.length : Int) := by have := h.lo; omega
  unfold spec_l1View.f markV
  simp only [if_pos p0, if_pos p1]
  have main := specMarks h hs
  refine evCongr (f := fun k => spec_l1View.j0 k s (rdOf false s 0 || !rdOf false s 1) n p t b) (fun k => ?_) (Ev.step (f := fun k => if rdOf false s 0 = false ∧ rdOf false s 1 = true then spec_l1View.l0 k s 0 n p t b else some false) (fun k => ?_) ?_)
  · cases rdOf false s 0 <;> simp
  · simp only [spec_l1View.j0]
    cases rdOf false s 0 <;> cases rdOf false s 1 <;> simp
  · split
    · exact main
    · exact Ev.now _
theorem implMark (h : OK n p t b) (hs : (s.length : Int) = n) : Ev (fun k => impl_isView.f k n p t b s) (markV n p t b s) := by
  have p0 : 0 < (s.length : Int) := by have := h.lo; omega
  have p1 : 1 < (s.length : Int) := by have := h.lo; omega
  unfold impl_isView.f markV
  simp only [if_pos p0, if_pos p1]
  have main := implMarks h hs
  refine evCongr (f := fun k => impl_isView.j0 k s (!rdOf false s 1 || rdOf false s 0) n p t b) (fun k => ?_) (Ev.step (f := fun k => if rdOf false s 0 = false ∧ rdOf false s 1 = true then impl_isView.l0 k s 0 n p t b else some false) (fun k => ?_) ?_)
  · cases rdOf false s 1 <;> simp
  · simp only [impl_isView.j0]
    cases rdOf false s 0 <;> cases rdOf false s 1 <;> simp
  · split
    · exact main
    · exact Ev.now _
end
end Go.Proofs.Ytjjkagnbdfofbaa.Pure
end

section
/- IsView: what the program tells. -/
set_option linter.unusedSimpArgs false
set_option linter.unusedVariables false
namespace Go.Proofs.Ytjjkagnbdfofbaa.Pure
open Go.RowKit Go.Proofs.Ytjjkagnbdfofbaa.P Go.Proofs.YtjjkagnbdfofbaaW.PrintWords Go.Proofs.YtjjkagnbdfofbaaW.PrintLast
/-- What is told of a list of grades from its place i on, behind the marks s. -/
def listV (n : Int) (p t : List Int) (b : List Bool) (xs : List Int) : Nat → Int → List Bool → Bool
  | 0, _, s => markV n p t b s
  | m + 1, i, s => if inV (rd xs i) 0 (wrap64 (n - 1)) = true then (if i > 0 ∧ rd xs i ≤ rd xs (i - 1) then false else listV n p t b xs m (i + 1) (s.set (rd xs i).toNat true)) else false
section
variable {n : Int} {p t : List Int} {b : List Bool} {xs : List Int}
theorem implList (h : OK n p t b) (hl : xs.length ≤ 1048576) : ∀ (m : Nat) (i : Int) (s : List Bool), 0 ≤ i → i + m = xs.length → (s.length : Int) = n → Ev (fun k => impl_IsView.l0 k xs s xs (xs.length : Int) i n p t b) (listV n p t b xs m i s)
  | 0, i, s, h0, h1, hs => by
    refine Ev.step (fun k => ?_) (Ev.bind (implMark h hs) (Ev.now _))
    simp only [impl_IsView.l0]; rw [if_neg (by omega)]
  | m + 1, i, s, h0, h1, hs => by
    have i1 : i < (xs.length : Int) := by omega
    have ih := implList h hl m (i + 1) (s.set (rd xs i).toNat true) (by omega) (by omega) (by simpa using hs)
    have up : wrap64 (i + 1) = i + 1 := w64 (by omega) (by omega)
    have dn : wrap64 (i - 1) = i - 1 := w64 (by omega) (by omega)
    refine Ev.step (f := fun k => if inV (rd xs i) 0 (wrap64 (n - 1)) = true then (if i > 0 ∧ rd xs i ≤ rd xs (i - 1) then some false else impl_IsView.l0 k xs (s.set (rd xs i).toNat true) xs (xs.length : Int) (i + 1) n p t b) else some false) (fun k => ?_) ?_
    · simp only [impl_IsView.l0, has_eq, Option.bind_some, if_pos i1, if_pos h0, up, dn]
      by_cases c : inV (rd xs i) 0 (wrap64 (n - 1)) = true
      · have hx := (inV_Rg h).mp c
        have hx0 : 0 ≤ rd xs i := hx.1
        have hx1 : rd xs i < (s.length : Int) := by rw [hs]; exact hx.2
        simp only [if_pos c, if_pos hx0, if_pos hx1]
        by_cases ci : i > 0
        · have e1 : 0 ≤ i - 1 := by omega
          have e2 : i - 1 < (xs.length : Int) := by omega
          simp only [if_pos ci, if_pos e1, if_pos e2]
          by_cases cr : rd xs i ≤ rd xs (i - 1)
          · simp [cr, ci]
          · simp [cr, ci]
        · simp [ci]
      · simp only [if_neg c]
    · unfold listV
      split
      · split
        · exact Ev.now _
        · exact ih
      · exact Ev.now _
theorem implView (hl : xs.length ≤ 1048576) : Ev (fun k => impl_IsView.f k n p t b xs) (if sysV n p t b = true then listV n p t b xs xs.length 0 (List.replicate n.toNat false) else false) := by
  unfold impl_IsView.f
  refine Ev.bind (implSystem n p t b) ?_
  by_cases c : sysV n p t b = true
  · have h := sysV_ok c
    have n0 : 0 ≤ n := by have := h.lo; omega
    have n1 : n.toNat ≤ 281474976710656 := by have := h.hi; omega
    simp only [if_pos c, if_pos n0, if_pos n1]
    exact implList h hl xs.length 0 _ (by omega) (by omega) (by simp; omega)
  · simp only [if_neg c]
    exact Ev.now _
end
end Go.Proofs.Ytjjkagnbdfofbaa.Pure
end

section
namespace Go.Proofs.Ytjjkagnbdfofbaa.P
open Go.RowKit Go.Proofs.YtjjkagnbdfofbaaW.PrintWords Go.Proofs.YtjjkagnbdfofbaaW.PrintLast Go.Proofs.YtjjkagnbdfofbaaW.PrintMore
attribute [local go_sem] max2_int min2_int max_two min_two max_three min_three max_four min_four   -- for this text's walks alone
set_option linter.unusedVariables false
set_option linter.unusedSimpArgs false

mutual
def spec_l1Views.l0 : Nat → List Bool → List Int → Int → Int → List Int → List Int → List Bool → Option ((List (List Int)))
 | 0, _, _, _, _, _, _, _ => none
 | k + 1, x1, x7, x8, x375000, x375001, x375002, x375003 => if x8 < x375000 then (if 0 ≤ x8 then (if x8 < (x1.length : Int) then (if rdOf false x1 x8 = true then (if x7.length < 17592186044416 then (spec_l1Views.l0 k x1 (x7 ++ [x8]) (wrap64 (x8 + 1)) x375000 x375001 x375002 x375003) else (none)) else (spec_l1Views.l0 k x1 x7 (wrap64 (x8 + 1)) x375000 x375001 x375002 x375003)) else (none)) else (none)) else (some (([x7] : List (List Int))))
def spec_l1Views.l1 : Nat → List Bool → Int → List (List Int) → Int → Int → List Int → List Int → List Bool → Option ((List (List Int)))
 | 0, _, _, _, _, _, _, _, _ => none
 | k + 1, x1, x2, x9, x10, x375000, x375001, x375002, x375003 => if x10 < 2 then ((some (([] : List Bool) : List Bool)).bind fun y389 => (if y389.length + x1.length < 140737488355328 then ((some (y389 ++ x1 : List Bool)).bind fun y392 => (if 0 ≤ x2 then (if x2 < (y392.length : Int) then ((spec_l1Views.f k x375000 x375001 x375002 x375003 (y392.set (x2 : Int).toNat (x10 == 0)) (wrap64 (x2 + 1))).bind fun t396 => (if x9.length + t396.length < 5864062014805 then (spec_l1Views.l1 k x1 x2 (x9 ++ t396) (wrap64 (x10 + 1)) x375000 x375001 x375002 x375003) else (none))) else (none)) else (none))) else (none))) else (some x9)
def spec_l1Views.f : Nat → Int → List Int → List Int → List Bool → List Bool → Int → Option ((List (List Int)))
 | 0, _, _, _, _, _, _ => none
 | k + 1, a0_0, l0_1, l0_2, l0_3, l1, a2 => if a2 = a0_0 then ((spec_l1View.f k a0_0 l0_1 l0_2 l0_3 l1).bind fun t375 => (if t375 = true then (spec_l1Views.l0 k l1 (([] : List Int)) 0 a0_0 l0_1 l0_2 l0_3) else (some ([] : List (List Int))))) else (spec_l1Views.l1 k l1 a2 (([] : List (List Int))) 0 a0_0 l0_1 l0_2 l0_3)
end
set_option maxHeartbeats 8000000 in
set_option maxRecDepth 100000 in
theorem spec_l1Views.calls (k : Nat) : ∀ (a0_0 : Int) (A0_1 : Option Addr) (c0_1 : Nat) (l0_1 : List Int) (A0_2 : Option Addr) (c0_2 : Nat) (l0_2 : List Int) (A0_3 : Option Addr) (c0_3 : Nat) (l0_3 : List Bool) (A1 : Option Addr) (c1 : Nat) (l1 : List Bool) (a2 : Int) (r : List (List Int)) (w : World) (hr0_1 : Kd.C (Kd.int .i64) w A0_1 l0_1.length l0_1) (hc0_1 : l0_1.length ≤ c0_1) (hr0_2 : Kd.C (Kd.int .i64) w A0_2 l0_2.length l0_2) (hc0_2 : l0_2.length ≤ c0_2) (hr0_3 : Kd.C Kd.bool w A0_3 l0_3.length l0_3) (hc0_3 : l0_3.length ≤ c0_3) (hr1 : Kd.C Kd.bool w A1 l1.length l1) (hc1 : l1.length ≤ c1) (h : spec_l1Views.f k a0_0 l0_1 l0_2 l0_3 l1 a2 = some r),
  Calls Try.prog 71 #[.agg #[.int .i64 a0_0, .slice A0_1 l0_1.length c0_1, .slice A0_2 l0_2.length c0_2, .slice A0_3 l0_3.length c0_3], .slice A1 l1.length c1, .int .i64 a2] w fun e w' => ∃ v0_ : Value, e = .returned (v0_) ∧ Kd.N (Kd.slice 3 (Kd.int .i64)) 24 w' w.heap.size (fun k_ => (w.heap.size ≤ k_)) v0_ r ∧ Below w.heap.size w w' := by
 induction k using Nat.strongRecOn with
 | _ k ih =>
 intro a0_0 A0_1 c0_1 l0_1 A0_2 c0_2 l0_2 A0_3 c0_3 l0_3 A1 c1 l1 a2 r w hr0_1 hc0_1 hr0_2 hc0_2 hr0_3 hc0_3 hr1 hc1 h
 cases k with
 | zero => exact absurd h (by simp [spec_l1Views.f])
 | succ k =>
 simp only [spec_l1Views.f] at h; have hu27 := Try.underlying27; have HR0_1 := sd_ hr0_1; have HC0_1 := sd_ hc0_1; clear hr0_1 hc0_1; have HR0_2 := sd_ hr0_2; have HC0_2 := sd_ hc0_2; clear hr0_2 hc0_2; have HR0_3 := sd_ hr0_3; have HC0_3 := sd_ hc0_3; clear hr0_3 hc0_3; have HR1 := sd_ hr1; have HC1 := sd_ hc1; clear hr1 hc1; have HB := sd_ (Below.refl w.heap.size w); have H : (if a2 = a0_0 then ((spec_l1View.f k a0_0 l0_1 l0_2 l0_3 l1).bind fun t375 => (if t375 = true then (spec_l1Views.l0 k l1 (([] : List Int)) 0 a0_0 l0_1 l0_2 l0_3) else (some ([] : List (List Int))))) else (spec_l1Views.l1 k l1 a2 (([] : List (List Int))) 0 a0_0 l0_1 l0_2 l0_3)) = some r := h; clear h; have HP4 := sd_ H; clear H; go_enter Try.func71, Try.ntmps71; go_upto_if 15 with (first | ((with_reducible refine gate_dst (N := 3) rfl ?_); refine bx_ (N := 3) (cs := #[.int .i64 a0_0, .slice A0_1 l0_1.length c0_1, .slice A0_2 l0_2.length c0_2, .slice A0_3 l0_3.length c0_3]) (t := 27) ?_; intro gb374 hg w5 hbox hb; have BK374 := sd_ (hbox); have GW374 := sd_ (gs_ hg (bw0_ HB.out)); have GE374 := sd_ (gs_ hg (bw0_ HB.out)); replace HB := sd_ (below_step (bw0_ HB.out) hb); clear hb hbox hg; obtain ⟨z6_0, z6_1, z6_2, z6_3, f6_0, f6_1, f6_2, f6_3⟩ := bf4_ BK374.out)); have H := HP4.out; clear HP4; by_cases c7 : a2 = a0_0
 ·rw [if_pos c7] at H; have c7b0 : (a2 == a0_0) = true := beq_iff_eq.mpr c7; have c7b1 : (a2 != a0_0) = false := bne_eq_false_iff_eq.mpr c7; clear c7; (first | rw [c7b0] | (simp only [i64_w, i32_w]; rw [c7b0]) | skip)
  revert H; refine ob_ fun t375 A8 H => ?_
  have HP9 := sd_ H; clear H; obtain ⟨z10_0, z10_1, z10_2, z10_3, f10_0, f10_1, f10_2, f10_3⟩ := bf4_ BK374.out; go_upto_if 19 with (first | ((with_reducible refine gate_callee (f := 86) rfl ?_); refine goesL_ (some 18) rfl rfl Try.func86 (by kernel_rfl) rfl #[.agg #[.int .i64 a0_0, .slice A0_1 l0_1.length c0_1, .slice A0_2 l0_2.length c0_2, .slice A0_3 l0_3.length c0_3], .slice A1 l1.length c1] rfl la_ ?_; (with_reducible refine (spec_l1View.calls k a0_0 _ _ l0_1 _ _ l0_2 _ _ l0_3 _ _ l1 t375 _ (kc_ HR0_1.out HB.out) HC0_1.out (kc_ HR0_2.out HB.out) HC0_2.out (kc_ HR0_3.out HB.out) HC0_3.out (kc_ HR1.out HB.out) HC1.out A8.out).mono ?_); rintro e w11 ⟨rfl, hb⟩; refine ⟨_, rfl, ?_⟩; replace BK374 := sd_ (bb_ BK374.out hb); replace HB := sd_ (below_step (bw1_ HB.out GE374.out) hb); (try clear hb))); have H := HP9.out; clear HP9; obtain rfl | rfl := bt_ t375
  ·replace H := it_ H; obtain ⟨y376, hy376⟩ : ∃ y_ : List Int, y_ = (([] : List Int)) := ⟨_, rfl⟩
   replace H : (spec_l1Views.l0 k l1 y376 0 a0_0 l0_1 l0_2 l0_3) = some r := by first | (rw [hy376]; with_reducible exact H) | (have H2_ := (Option.bind_some _ _).symm.trans H; rw [hy376]; with_reducible exact H2_) | (have H2_ := (Option.bind_some _ _).symm.trans H; with_reducible exact H2_) | with_reducible exact H | (rw [hy376]; exact H) | exact H
   have Ny376 := sd_ hy376; clear hy376; have H' := sd_ H; clear H; go_wp2_with (first | ((with_reducible refine gate_dst (N := 20) rfl ?_); refine Kd.R_lit (Kd.int .i64) _ 3 ?hg (N := 20) ?hd (xs := ([] : List Int)) (inner := []) (ok := fun _ => True) (okp := fun _ => True) ?hr ?hp (fun _ hk => hk) trivial (Below.refl _ _) (Nat.le_refl _) (by simp) ?_; (case hd => rfl); (case hg => rfl); (case hr => first | (go_simp; done) | (go_simp; rfl)); (case hp => exact (Reps.none _ _)); intro v377 w13 ho14 hb hg_ hnew_; clear hg_ hnew_; (first | rw [← Ny376.out] at ho14 | (simp only [Int.reduceToNat] at ho14; rw [← Ny376.out] at ho14)); have HO378 := sd_ (Kd.R_lower (Kd.R_newM (M := fun k_ => (w.heap.size ≤ k_)) ho14 (below_size (bw1_ HB.out GE374.out)) (fun k_ h_ => h_)) (below_size (bw1_ HB.out GE374.out))); replace BK374 := sd_ (bb_ BK374.out hb); replace HB := sd_ (below_step (bw1_ HB.out GE374.out) hb); clear hb ho14))
   go_loopg [7, 8] k (fun kq v7 v8 w' => ∃ (x7_1 : List Int) (x8_1 : Int), v8 = .int .i64 x8_1 ∧ Aside0 (spec_l1Views.l0 kq l1 x7_1 x8_1 a0_0 l0_1 l0_2 l0_3 = some r) ∧ Aside0 (kq ≤ k) ∧ Aside0 (Kd.R (Kd.int .i64) 3 w' w.heap.size (fun k_ => (w.heap.size ≤ k_)) v7 x7_1) ∧ Aside0 (w'.heap[gb374]? = some (.cells #[.int .i64 a0_0, (.slice A0_1 l0_1.length c0_1), (.slice A0_2 l0_2.length c0_2), (.slice A0_3 l0_3.length c0_3)] 27 (0, 0))) ∧ Aside0 (Below w.heap.size w w'))
   case atStart => exact ⟨(y376), (0), sm_, H', ⟨Nat.le_refl _⟩, ⟨by (with_reducible repeat (first | apply Kd.R_alloc | apply Kd.R_drewN | apply Kd.R_drew)); exact Kd.R_mono HO378.out (fun _ hk => hk.1)⟩, ⟨bz_ BK374.out⟩, ⟨bw1_ HB.out GE374.out⟩⟩
   case round =>
    clear H'; (try clear c1); (try clear p2); (try clear c7); (try clear c7b0); (try clear c7b1); (try clear c8); (try clear c12); (try clear z10_0 z10_1 z10_2 z10_3); (try clear z6_0 z6_1 z6_2 z6_3); (try clear f10_0 f10_1 f10_2 f10_3); (try clear f6_0 f6_1 f6_2 f6_3); obtain ⟨x7_1, x8_1, rfl, HA, HK1, HO_7, BK374, HB⟩ := hrel
    cases gk with
    | zero => exact absurd HA.out (by simp [spec_l1Views.l0])
    | succ k1 =>
     have H := HA.out; clear HA; simp only [spec_l1Views.l0] at H; revert H; refine ic_ (fun c15b0 H => ?_) (fun c15b0 H => ?_)
     ·(first | rw [c15b0] | (simp only [i64_w, i32_w]; rw [c15b0]) | skip)
      revert H; refine ih_ fun c16b0 H => ?_
      revert H; refine ih_ fun c17b0 H => ?_
      generalize hbq18 : rdOf false l1 x8_1 = bq18 at H; have Nbq18 := sd_ hbq18.symm; clear hbq18; obtain rfl | rfl := bt_ bq18
      ·replace H := it_ H
       revert H; refine il_ fun LMc20 H => ?_
       generalize hy380 : (x7_1 ++ [x8_1] : List Int) = y380 at H; have Ny380 := sd_ hy380.symm; clear hy380; have H' := sd_ H; clear H; obtain ⟨z21_0, z21_1, z21_2, z21_3, f21_0, f21_1, f21_2, f21_3⟩ := bf4_ BK374.out; obtain ⟨ad379, e379, hx379_0, p379, q379⟩ := ab_ HR1.out HB.out x8_1; (try rw [← Nbq18.out] at hx379_0)
       cases e379
       go_wp2_with (first | ((with_reducible refine gate_builtin (b := .append) (xs := #[.tmp 31, .tmp 33]) rfl ?_); at_builtin; refine Kd.R_append (Kd.int .i64) (w0 := w) w.heap.size rfl (.tmp 31) (.tmp 33) 24 3 (.int .i64 0) 8 rfl Try.underlying24 info3 rfl (by decide) (by omega) u7 x7_1 x8_1 [.int .i64 x8_1] (fun k_ => (w.heap.size ≤ k_)) (fun _ => False) rfl rfl ?aP (fun _ hk => hk.elim) ?aF ?aO ?aB ?aS ?aL ?_; (case aP => exact rfl); (case aB => exact (bw1_ HB.out GE374.out)); (case aF => exact (fun k_ hk => (Nat.le_trans (below_size (bw1_ HB.out GE374.out)) hk))); (case aO => exact (ro_ HO_7.out)); (case aS => exact (below_size (bw1_ HB.out GE374.out))); (case aL => have := LMc20.out; omega); intro v381 w22 ho hb hg hat; rw [← Ny380.out] at ho; have n0_ := sd_ (blk_grown (g := gb374) (o := .cells #[.int .i64 a0_0, .slice A0_1 l0_1.length c0_1, .slice A0_2 l0_2.length c0_2, .slice A0_3 l0_3.length c0_3] 27 (0, 0)) (bz_ BK374.out) hg (Kd.R_ne HO_7.out BK374.out (by decide))); have n1_ := sd_ (hb); have n2_ := sd_ (ho); clear BK374; clear HB; clear HO_7; have BK374 := n0_; have HB := n1_; have HO382 := n2_; clear n0_ n1_ n2_; clear ho hb hg hat)); go_roundg k1
       case measure => have := HK1.out; omega
       case rel => exact ⟨(y380), (wrap64 (x8_1 + 1)), sm_, H', ⟨by have := HK1.out; omega⟩, ⟨ro_ HO382.out⟩, ⟨bz_ BK374.out⟩, ⟨bw1_ HB.out GE374.out⟩⟩
      replace H := if_ H; have H' := sd_ H; clear H; obtain ⟨z23_0, z23_1, z23_2, z23_3, f23_0, f23_1, f23_2, f23_3⟩ := bf4_ BK374.out; obtain ⟨ad379, e379, hx379_0, p379, q379⟩ := ab_ HR1.out HB.out x8_1; (try rw [← Nbq18.out] at hx379_0)
      cases e379
      go_wp2; go_roundg k1
      case measure => have := HK1.out; omega
      case rel => exact ⟨(x7_1), (wrap64 (x8_1 + 1)), sm_, H', ⟨by have := HK1.out; omega⟩, ⟨ro_ HO_7.out⟩, ⟨bz_ BK374.out⟩, ⟨bw1_ HB.out GE374.out⟩⟩
     (first | rw [c15b0] | (simp only [i64_w, i32_w]; rw [c15b0]) | skip); generalize hy383 : (([x7_1] : List (List Int)) : List (List Int)) = y383 at H; have Ny383 := sd_ hy383.symm; clear hy383; obtain rfl := Option.some.inj H; obtain ⟨z24_0, z24_1, z24_2, z24_3, f24_0, f24_1, f24_2, f24_3⟩ := bf4_ BK374.out; obtain ⟨Ao25, co25, eo25⟩ := Kd.R_slice HO_7.out; subst eo25; go_wp2_with (first | ((with_reducible refine gate_dst (N := 36) rfl ?_); refine Kd.N_lit (Kd.slice 3 (Kd.int .i64)) _ 24 ?hg (N' := 36) ?hd (xs := ([x7_1] : List (List Int))) (inner := [.slice Ao25 x7_1.length co25]) (ok := (fun k_ => (w.heap.size ≤ k_) ∧ k_ ≠ gb374)) (okp := (fun k_ => (w.heap.size ≤ k_) ∧ k_ ≠ gb374)) ?hr ?hp (fun _ hk => hk) ((show ∀ k_, wr.heap.size ≤ k_ → (fun k_ => (w.heap.size ≤ k_) ∧ k_ ≠ gb374) k_ from fun k_ hk => ⟨(Nat.le_trans (below_size (bw1_ HB.out GE374.out)) hk), Kd.freshB (g := gb374) (o := .cells #[.int .i64 a0_0, .slice A0_1 l0_1.length c0_1, .slice A0_2 l0_2.length c0_2, .slice A0_3 l0_3.length c0_3] 27 (0, 0)) (bz_ BK374.out) k_ hk⟩) _ (Nat.le_refl _)) (Below.refl _ _) (Nat.le_refl _) (by simp) ?_; (case hd => rfl); (case hg => rfl); (case hr => first | (go_simp; done) | (go_simp; rfl)); (case hp => exact (Reps.one (show Kd.FK (Kd.slice 3 (Kd.int .i64)) _ _ x7_1 [.slice Ao25 x7_1.length co25] from (Kd.FK_slice_mk (Kd.R_reads' (Kd.R_mono (ok' := (fun k_ => (w.heap.size ≤ k_) ∧ k_ ≠ gb374)) (Kd.R_types (HO_7.out) BK374.out (by decide)) (fun k_ hk => ⟨hk.1, hk.2⟩))).2.1 (Kd.R_F (Kd.R_mono (ok' := (fun k_ => (w.heap.size ≤ k_) ∧ k_ ≠ gb374)) (Kd.R_types (HO_7.out) BK374.out (by decide)) (fun k_ hk => ⟨hk.1, hk.2⟩))))) (Reps.none _ _))); intro v384 w26 ho27 hb hg_ hnew_; clear hg_ hnew_; (first | rw [← Ny383.out] at ho27 | (simp only [Int.reduceToNat] at ho27; rw [← Ny383.out] at ho27)); have n0_ := sd_ (Kd.N_lower ho27 (below_size (bw1_ HB.out GE374.out))); have n1_ := sd_ (bb_ BK374.out hb); have n2_ := sd_ (below_step (bw1_ HB.out GE374.out) hb); clear BK374; clear HB; clear HO_7; have HO385 := n0_; have BK374 := n1_; have HB := n2_; clear n0_ n1_ n2_; clear hb ho27)); go_ret; exact ⟨_, an_, by (with_reducible repeat (first | apply Kd.N_alloc | apply Kd.N_drewN | apply Kd.N_drew)); exact Kd.N_mono HO385.out (fun _ hk => hk.1), bw1_ HB.out GE374.out⟩
  replace H := if_ H; obtain rfl := Option.some.inj H; go_wp2; go_ret; exact ⟨_, an_, by first | exact Kd.S_nil _ _ _ _ _ | exact Kd.N_nil _ _ _ _ _ | exact Kd.V_nil _ _ _ _ _ | exact Kd.Q_nil _ _ _ _ _ | exact Kd.R_nil _ _ _ _ _, bw1_ HB.out GE374.out⟩
 rw [if_neg c7] at H; have c7b0 : (a2 == a0_0) = false := beq_eq_false_iff_ne.mpr c7; have c7b1 : (a2 != a0_0) = true := bne_iff_ne.mpr c7; (first | rw [c7b0] | (simp only [i64_w, i32_w]; rw [c7b0]) | skip); obtain ⟨y386, hy386⟩ : ∃ y_ : List (List Int), y_ = (([] : List (List Int))) := ⟨_, rfl⟩
 replace H : (spec_l1Views.l1 k l1 a2 y386 0 a0_0 l0_1 l0_2 l0_3) = some r := by first | (rw [hy386]; with_reducible exact H) | (have H2_ := (Option.bind_some _ _).symm.trans H; rw [hy386]; with_reducible exact H2_) | (have H2_ := (Option.bind_some _ _).symm.trans H; with_reducible exact H2_) | with_reducible exact H | (rw [hy386]; exact H) | exact H
 have Ny386 := sd_ hy386; clear hy386; have H' := sd_ H; clear H; go_wp2_with (first | ((with_reducible refine gate_dst (N := 37) rfl ?_); refine Kd.N_lit (Kd.slice 3 (Kd.int .i64)) _ 24 ?hg (N' := 37) ?hd (xs := ([] : List (List Int))) (inner := []) (ok := (fun k_ => (w.heap.size ≤ k_) ∧ k_ ≠ gb374)) (okp := (fun k_ => (w.heap.size ≤ k_) ∧ k_ ≠ gb374)) ?hr ?hp (fun _ hk => hk) ((show ∀ k_, w5.heap.size ≤ k_ → (fun k_ => (w.heap.size ≤ k_) ∧ k_ ≠ gb374) k_ from fun k_ hk => ⟨(Nat.le_trans (below_size (bw1_ HB.out GE374.out)) hk), Kd.freshB (g := gb374) (o := .cells #[.int .i64 a0_0, .slice A0_1 l0_1.length c0_1, .slice A0_2 l0_2.length c0_2, .slice A0_3 l0_3.length c0_3] 27 (0, 0)) (bz_ BK374.out) k_ hk⟩) _ (Nat.le_refl _)) (Below.refl _ _) (Nat.le_refl _) (by simp) ?_; (case hd => rfl); (case hg => rfl); (case hr => first | (go_simp; done) | (go_simp; rfl)); (case hp => exact (Reps.none _ _)); intro v387 w28 ho29 hb hg_ hnew_; clear hg_ hnew_; (first | rw [← Ny386.out] at ho29 | (simp only [Int.reduceToNat] at ho29; rw [← Ny386.out] at ho29)); have HO388 := sd_ (Kd.N_lower ho29 (below_size (bw1_ HB.out GE374.out))); replace BK374 := sd_ (bb_ BK374.out hb); replace HB := sd_ (below_step (bw1_ HB.out GE374.out) hb); clear hb ho29))
 go_loopg [9, 10] k (fun kq v9 v10 w' => ∃ (x9_1 : List (List Int)) (x10_1 : Int), v10 = .int .i64 x10_1 ∧ Aside0 (spec_l1Views.l1 kq l1 a2 x9_1 x10_1 a0_0 l0_1 l0_2 l0_3 = some r) ∧ Aside0 (kq ≤ k) ∧ Aside0 (Kd.N (Kd.slice 3 (Kd.int .i64)) 24 w' w.heap.size (fun k_ => (w.heap.size ≤ k_) ∧ k_ ≠ gb374) v9 x9_1) ∧ Aside0 (w'.heap[gb374]? = some (.cells #[.int .i64 a0_0, (.slice A0_1 l0_1.length c0_1), (.slice A0_2 l0_2.length c0_2), (.slice A0_3 l0_3.length c0_3)] 27 (0, 0))) ∧ Aside0 (Below w.heap.size w w'))
 case atStart => exact ⟨(y386), (0), sm_, H', ⟨Nat.le_refl _⟩, ⟨by (with_reducible repeat (first | apply Kd.N_alloc | apply Kd.N_drewN | apply Kd.N_drew)); exact HO388.out⟩, ⟨bz_ BK374.out⟩, ⟨bw1_ HB.out GE374.out⟩⟩
 case round =>
  clear H'; (try clear c1); (try clear p2); (try clear c7); (try clear c7b0); (try clear c7b1); (try clear z6_0 z6_1 z6_2 z6_3 f6_0 f6_1 f6_2 f6_3); obtain ⟨x9_1, x10_1, rfl, HA, HK1, HO_9, BK374, HB⟩ := hrel
  cases gk with
  | zero => exact absurd HA.out (by simp [spec_l1Views.l1])
  | succ k1 =>
   have H := HA.out; clear HA; simp only [spec_l1Views.l1] at H; revert H; refine ic_ (fun c30b0 H => ?_) (fun c30b0 H => ?_)
   ·revert H; refine oy_ fun y389 Ny389 H => ?_
    revert H; refine il_ fun LMc31 H => ?_
    revert H; refine oy_ fun y392 Ny392 H => ?_
    revert H; refine ih_ fun c32b0 H => ?_
    revert H; refine ih_ fun c33b0 H => ?_
    generalize hy395 : (y392.set (a2 : Int).toNat (x10_1 == 0) : List Bool) = y395 at H; have Ny395 := sd_ hy395.symm; clear hy395
    revert H; refine ob_ fun t396 A35 H => ?_
    revert H; refine il_ fun LMc36 H => ?_
    generalize hy399 : (x9_1 ++ t396 : List (List Int)) = y399 at H; have Ny399 := sd_ hy399.symm; clear hy399; have H' := sd_ H; clear H; go_wp2_with (first | ((with_reducible refine gate_dst (N := 42) rfl ?_); refine Kd.R_lit Kd.bool _ 4 ?hg (N := 42) ?hd (xs := ([] : List Bool)) (inner := []) (ok := fun _ => True) (okp := fun _ => True) ?hr ?hp (fun _ hk => hk) trivial (Below.refl _ _) (Nat.le_refl _) (by simp) ?_; (case hd => rfl); (case hg => rfl); (case hr => first | (go_simp; done) | (go_simp; rfl)); (case hp => exact (Reps.none _ _)); intro v390 w37 ho38 hb hg_ hnew_; clear hg_ hnew_; (first | rw [← Ny389.out] at ho38 | (simp only [Int.reduceToNat] at ho38; rw [← Ny389.out] at ho38)); replace HO_9 := sd_ (Kd.N_elder' (by (with_reducible repeat (first | apply Kd.N_alloc | apply Kd.N_drewN | apply Kd.N_drew)); exact HO_9.out) (Kd.R_base ho38) hb); have HO391 := sd_ (Kd.R_lower (Kd.R_newM (M := fun k_ => (w.heap.size ≤ k_)) ho38 (below_size (bw1_ HB.out GE374.out)) (fun k_ h_ => h_)) (below_size (bw1_ HB.out GE374.out))); replace BK374 := sd_ (bb_ BK374.out hb); replace HB := sd_ (below_step (bw1_ HB.out GE374.out) hb); clear hb ho38) | ((with_reducible refine gate_builtin (b := .append) (xs := #[.tmp 42, .tmp 43]) rfl ?_); at_builtin; refine Kd.R_append_rows Kd.bool (w0 := w) w.heap.size rfl (.tmp 42) (.tmp 43) 25 4 (.bool false) 1 rfl Try.underlying25 info4 rfl (by decide) (by omega) v390 y389 l1 _ _ _ (fun k_ => (w.heap.size ≤ k_)) (fun _ => False) rfl rfl ?aO ?aR (fun _ _ h => h) (fun _ h => h.elim) ?aF ?aB ?aS ?aL ?_; (case aR => exact kc_ HR1.out HB.out); (case aB => exact (bw1_ HB.out GE374.out)); (case aF => exact (fun k_ hk => (Nat.le_trans (below_size (bw1_ HB.out GE374.out)) hk))); (case aO => exact (by (with_reducible repeat (first | apply Kd.R_alloc | apply Kd.R_drewN | apply Kd.R_drew)); exact Kd.R_mono HO391.out (fun _ hk => hk.1))); (case aS => exact (below_size (bw1_ HB.out GE374.out))); (case aL => have := LMc31.out; omega); intro v393 w39 ho hb hg hat; rw [← Ny392.out] at ho; have n0_ := sd_ (Kd.N_afterv (ok := (fun k_ => (w.heap.size ≤ k_) ∧ k_ ≠ gb374)) (by (with_reducible repeat (first | apply Kd.N_alloc | apply Kd.N_drewN | apply Kd.N_drew)); exact HO_9.out) hg hat); have n1_ := sd_ (blk_grown (g := gb374) (o := .cells #[.int .i64 a0_0, .slice A0_1 l0_1.length c0_1, .slice A0_2 l0_2.length c0_2, .slice A0_3 l0_3.length c0_3] 27 (0, 0)) (bz_ BK374.out) hg (Kd.R_ne HO391.out BK374.out (by decide))); have n2_ := sd_ (hb); have n3_ := sd_ (ho); clear HO_9; clear BK374; clear HB; clear HO391; have HO_9 := n0_; have BK374 := n1_; have HB := n2_; have HO394 := n3_; clear n0_ n1_ n2_ n3_; clear ho hb hg hat; have p34 : 0 ≤ (a2 : Int) := dt_; have q34 : (a2 : Int) < ((y392.length : Int) : Int) := dt_; obtain ⟨go34, co34, eo34, gb34, gl34, cl34, HG34⟩ := Kd.R_form HO394.out (by omega); (first | cases eo34 | (injection eo34 with ea_ en_ ec_; (first | subst ea_ | (injection ea_ with ea_; subst ea_)); subst ec_; clear en_)); have GB34 := sd_ gb34; have GG34 := sd_ HG34; clear gb34 gl34 HG34; obtain ⟨hx34_0, hf34_0⟩ := Kd.R_celln false HO394.out (a2 : Int) p34 q34; replace p34 := eq_true p34; replace q34 := eq_true q34; obtain ⟨hy40_, hz40_⟩ := Kd.R_celln false HO394.out (a2 : Int) (dt_) (dt_); have HP40 := Kd.R_putg HO394.out (a2 : Int) (x10_1 == 0)) | ((with_reducible refine gate_store (t := 4) (p := 49) rfl ?_); refine store_event (t := 4) (p := 49) (v := ?vo_w41) (w1 := (w39.setCell ⟨go34, (a2 : Int).toNat, none⟩ (.bool (x10_1 == 0)))) ?hg ?ho ?hn ?hr ?_; (case ho => rfl); (case hg => rfl); (case hn => rfl); (case hr => first | (go_simp; done) | (go_simp; rfl)); intro w41 hw; have hg : w39.grownBy w41 (some go34) := (by rw [hw]; exact HP40.2); have hp_ : Kd.R Kd.bool 4 w41 w.heap.size (fun k_ => (w.heap.size ≤ k_)) (.slice (some ⟨go34, 0, none⟩) y392.length co34) y395 := (by rw [hw, Ny395.out]; exact HP40.1); clear HP40; replace HO_9 := sd_ (Kd.N_afterv (v := (.slice (some ⟨go34, 0, none⟩) y392.length co34)) (v1 := (.slice (some ⟨go34, 0, none⟩) y392.length co34)) (ok := (fun k_ => (w.heap.size ≤ k_) ∧ k_ ≠ gb374)) (by (with_reducible repeat (first | apply Kd.N_alloc | apply Kd.N_drewN | apply Kd.N_drew)); exact HO_9.out) hg (.inl rfl)); replace BK374 := sd_ (blk_grown (g := gb374) (o := .cells #[.int .i64 a0_0, .slice A0_1 l0_1.length c0_1, .slice A0_2 l0_2.length c0_2, .slice A0_3 l0_3.length c0_3] 27 (0, 0)) (bz_ BK374.out) hg (Kd.R_ne HO394.out BK374.out (by decide))); replace HO394 := sd_ (hp_); replace HB := sd_ ((by rw [hw]; exact below_set (HB.out) GB34.out : Below w.heap.size w w41)); clear hg hw hp_; obtain ⟨z42_0, z42_1, z42_2, z42_3, f42_0, f42_1, f42_2, f42_3⟩ := bf4_ BK374.out) | ((with_reducible refine gate_callee (f := 71) rfl ?_); refine goesL_ (some 55) rfl rfl Try.func71 (by kernel_rfl) rfl #[.agg #[.int .i64 a0_0, .slice A0_1 l0_1.length c0_1, .slice A0_2 l0_2.length c0_2, .slice A0_3 l0_3.length c0_3], .slice (some ⟨go34, 0, none⟩) y395.length co34, .int .i64 (wrap64 (a2 + 1))] rfl (by (try simp only [List.map_toArray, List.map_cons, List.map_nil]); first | done | (rw [show y395.length = y392.length from (Kd.R_reads' HO394.out).1.symm] <;> rfl) | rfl | (simp only [List.length_drop, List.length_take]; rfl)) ?_; (with_reducible refine (ih k1 (by have := HK1.out; omega) a0_0 _ _ l0_1 _ _ l0_2 _ _ l0_3 _ _ y395 (wrap64 (a2 + 1)) t396 _ ?side1 ?side2 ?side3 ?side4 ?side5 ?side6 ?side7 ?side8 A35.out).mono ?_); (case side1 => exact kc_ HR0_1.out HB.out); (case side2 => exact HC0_1.out); (case side3 => exact kc_ HR0_2.out HB.out); (case side4 => exact HC0_2.out); (case side5 => exact kc_ HR0_3.out HB.out); (case side6 => exact HC0_3.out); (case side7 => exact kp_ (Kd.R_reads' HO394.out).2.2); (case side8 => rw [show y395.length = y392.length from (Kd.R_reads' HO394.out).1.symm]; exact (Kd.R_reads' HO394.out).2.1); rintro e w43 ⟨v397, rfl, ho0, hb⟩; refine ⟨_, rfl, ?_⟩; have HO398 := sd_ (Kd.N_lower (Kd.N_mono (ok' := fun k_ => (w.heap.size ≤ k_) ∧ some k_ ≠ (u9 : Value).ownBlock ∧ some k_ ≠ (.slice (some ⟨go34, 0, none⟩) y392.length co34 : Value).ownBlock ∧ k_ ≠ gb374) ho0 (fun k_ hk_ => ⟨(Nat.le_trans (below_size (bw1_ HB.out GE374.out)) hk_), (Kd.fresh' (Kd.N_lt (by (with_reducible repeat (first | apply Kd.N_alloc | apply Kd.N_drewN | apply Kd.N_drew)); exact HO_9.out)) k_ hk_), (Kd.fresh' (Kd.R_lt (ro_ HO394.out)) k_ hk_), (Kd.freshB (g := gb374) (o := .cells #[.int .i64 a0_0, .slice A0_1 l0_1.length c0_1, .slice A0_2 l0_2.length c0_2, .slice A0_3 l0_3.length c0_3] 27 (0, 0)) (bz_ BK374.out) k_ hk_)⟩)) (below_size (bw1_ HB.out GE374.out))); replace HO_9 := sd_ (Kd.N_elder' (by (with_reducible repeat (first | apply Kd.N_alloc | apply Kd.N_drewN | apply Kd.N_drew)); exact HO_9.out) (Kd.N_base ho0) hb); replace HO394 := sd_ (Kd.R_below (ro_ HO394.out) hb); replace BK374 := sd_ (bb_ BK374.out hb); replace HB := sd_ (below_step (bw1_ HB.out GE374.out) hb); (try clear hb); (try clear ho0); obtain ⟨Ao45, co45, eo45⟩ := Kd.N_slice HO398.out; subst eo45) | ((with_reducible refine gate_builtin (b := .append) (xs := #[.tmp 50, .tmp 55]) rfl ?_); at_builtin; refine Kd.N_append_rows (Kd.slice 3 (Kd.int .i64)) (w0 := w) w.heap.size rfl (.tmp 50) (.tmp 55) 32 24 (.slice none 0 0) 24 rfl Try.underlying32 info24 rfl (by decide) (by omega) u9 x9_1 t396 _ _ _ (fun k_ => (w.heap.size ≤ k_) ∧ some k_ ≠ (.slice (some ⟨go34, 0, none⟩) y392.length co34 : Value).ownBlock ∧ k_ ≠ gb374) (fun k_ => ((fun k_ => (w.heap.size ≤ k_) ∧ some k_ ≠ (.slice (some ⟨go34, 0, none⟩) y392.length co34 : Value).ownBlock ∧ k_ ≠ gb374)) k_ ∧ some k_ ≠ (u9 : Value).ownBlock) rfl rfl ?aO ?aR (fun _ hk => hk) ?aF ?aB ?aS ?aL ?_; (case aR => exact (by skip; exact Kd.N_F (Kd.N_mono (ok' := (fun k_ => ((fun k_ => (w.heap.size ≤ k_) ∧ some k_ ≠ (.slice (some ⟨go34, 0, none⟩) y392.length co34 : Value).ownBlock ∧ k_ ≠ gb374)) k_ ∧ some k_ ≠ (u9 : Value).ownBlock)) (HO398.out) (fun k_ hk => ⟨⟨hk.1, ⟨hk.2.2.1, hk.2.2.2⟩⟩, hk.2.1⟩)))); (case aB => exact (bw1_ HB.out GE374.out)); (case aF => exact (fun k_ hk => ⟨(Nat.le_trans (below_size (bw1_ HB.out GE374.out)) hk), Kd.fresh' (Kd.R_lt (ro_ HO394.out)) k_ hk, Kd.freshB (g := gb374) (o := .cells #[.int .i64 a0_0, .slice A0_1 l0_1.length c0_1, .slice A0_2 l0_2.length c0_2, .slice A0_3 l0_3.length c0_3] 27 (0, 0)) (bz_ BK374.out) k_ hk⟩)); (case aO => exact (by (with_reducible repeat (first | apply Kd.N_alloc | apply Kd.N_drewN | apply Kd.N_drew)); exact Kd.N_mono HO_9.out (fun _ hk => ⟨hk.1.1.1, ⟨hk.1.2, hk.1.1.2⟩⟩))); (case aS => exact (below_size (bw1_ HB.out GE374.out))); (case aL => have := LMc36.out; omega); intro v400 w44 ho hb hg hat; rw [← Ny399.out] at ho; have n0_ := sd_ (blk_grown (g := gb374) (o := .cells #[.int .i64 a0_0, .slice A0_1 l0_1.length c0_1, .slice A0_2 l0_2.length c0_2, .slice A0_3 l0_3.length c0_3] 27 (0, 0)) (bz_ BK374.out) hg (Kd.N_ne HO_9.out BK374.out (by decide))); have n1_ := sd_ (Kd.R_over' (ro_ HO394.out) (Kd.N_typed (by (with_reducible repeat (first | apply Kd.N_alloc | apply Kd.N_drewN | apply Kd.N_drew)); exact HO_9.out)) (by decide) hg); have n2_ := sd_ (Kd.N_afterv (ok := (fun k_ => (w.heap.size ≤ k_) ∧ some k_ ≠ (.slice (some ⟨go34, 0, none⟩) y392.length co34 : Value).ownBlock ∧ k_ ≠ gb374)) (by (with_reducible repeat (first | apply Kd.N_alloc | apply Kd.N_drewN | apply Kd.N_drew)); exact Kd.N_mono HO398.out (fun _ hk => ⟨⟨hk.1, ⟨hk.2.2.1, hk.2.2.2⟩⟩, hk.2.1⟩)) hg hat); have n3_ := sd_ (hb); have n4_ := sd_ (ho); clear BK374; clear HO394; clear HO398; clear HB; clear HO_9; have BK374 := n0_; have HO394 := n1_; have HO398 := n2_; have HB := n3_; have HO401 := n4_; clear n0_ n1_ n2_ n3_ n4_; clear ho hb hg hat))
    go_roundg k1
    case measure => have := HK1.out; omega
    case rel => exact ⟨(y399), (wrap64 (x10_1 + 1)), sm_, H', ⟨by have := HK1.out; omega⟩, ⟨by (with_reducible repeat (first | apply Kd.N_alloc | apply Kd.N_drewN | apply Kd.N_drew)); exact Kd.N_mono HO401.out (fun _ hk => ⟨hk.1, hk.2.2⟩)⟩, ⟨bz_ BK374.out⟩, ⟨bw1_ HB.out GE374.out⟩⟩
   obtain rfl := Option.some.inj H; go_wp2; go_ret; exact ⟨_, an_, by (with_reducible repeat (first | apply Kd.N_alloc | apply Kd.N_drewN | apply Kd.N_drew)); exact Kd.N_mono HO_9.out (fun _ hk => hk.1), bw1_ HB.out GE374.out⟩

end Go.Proofs.Ytjjkagnbdfofbaa.P
end
