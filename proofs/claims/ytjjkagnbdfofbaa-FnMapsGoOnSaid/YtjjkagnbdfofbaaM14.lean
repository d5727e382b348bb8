-- Several texts in one (wip/tools/merge.py).
import Derived.Test.YtjjkagnbdfofbaaPf86
import Derived.Test.YtjjkagnbdfofbaaPf21
import Derived.Test.YtjjkagnbdfofbaaM13
import Derived.Test.YtjjkagnbdfofbaaM2
import Derived.Test.YtjjkagnbdfofbaaPf19
import Derived.Test.YtjjkagnbdfofbaaM3
section
/- Marked sets of grades. -/
set_option linter.unusedSimpArgs false
set_option linter.unusedVariables false
namespace Go.Proofs.Ytjjkagnbdfofbaa.Pure
open Go.RowKit Go.Proofs.Ytjjkagnbdfofbaa.P Go.Proofs.YtjjkagnbdfofbaaW.PrintWords Go.Proofs.YtjjkagnbdfofbaaW.PrintLast
/-- What a pair of grades tells of a marked set. -/
def v1 (n : Int) (p t : List Int) (b : List Bool) (s : List Bool) (x y : Int) : Option Bool :=
  if rdOf false s x = true then
    (if rdOf false s (A n p x y) = true ∧ rdOf false s (A n t x y) = rdOf false s y ∧ (L n b x y = true → rdOf false s y = true) then none else some false)
  else (if rdOf false s (A n p x y) = rdOf false s y ∧ rdOf false s (A n t x y) = false then none else some false)
def v0 (n : Int) (p t : List Int) (b : List Bool) (s : List Bool) (x : Int) : Option Bool := findO (v1 n p t b s x) 0 n.toNat
def markV (n : Int) (p t : List Int) (b : List Bool) (s : List Bool) : Bool := if rdOf false s 0 = false ∧ rdOf false s 1 = true then (findO (v0 n p t b s) 0 n.toNat).getD true else false
section
variable {n : Int} {p t : List Int} {b : List Bool} {s : List Bool}
theorem specMarks (h : OK n p t b) (hs : (s.length : Int) = n) : Ev (fun k => spec_l1View.l0 k s 0 n p t b) ((findO (v0 n p t b s) 0 n.toNat).getD true) := by
  have hn : 0 ≤ n := by have := h.lo; omega
  have up : ∀ x, 0 ≤ x → x < n → wrap64 (x + 1) = x + 1 := fun x h0 h1 => w64 (by omega) (by have := h.hi; omega)
  refine loop0 (F := fun k x => spec_l1View.l0 k s x n p t b) hn ?_ ?_
  · refine Ev.step (f := fun _ => some true) (fun k => ?_) (Ev.now _)
    simp only [spec_l1View.l0]; rw [if_neg (by omega)]
  · intro x x0 x1 r hr
    refine Ev.step (f := fun k => spec_l1View.l1 k s x 0 n p t b) (fun k => ?_) ?_
    · simp only [spec_l1View.l0]; rw [if_pos x1]
    · unfold v0
      refine loop0 (F := fun k y => spec_l1View.l1 k s x y n p t b) hn ?_ ?_
      · refine Ev.step (fun k => ?_) hr
        simp only [spec_l1View.l1]; rw [if_neg (by omega), up x x0 x1]
      · intro y y0 y1 r hr
        have hx : Rg n x := ⟨x0, x1⟩
        have hy : Rg n y := ⟨y0, y1⟩
        have ha := A_in h hx hy
        have hm := M_in h hx hy
        have ha' : A n p x y < (s.length : Int) := by rw [hs]; exact ha.2
        have hm' : A n t x y < (s.length : Int) := by rw [hs]; exact hm.2
        have x2 : x < (s.length : Int) := by omega
        have y2 : y < (s.length : Int) := by omega
        refine Ev.step (f := fun k => if v1 n p t b s x y = none then spec_l1View.l1 k s x (y + 1) n p t b else some false) (fun k => ?_) ?_
        · simp only [spec_l1View.l1, add_eq h hx hy, mul_eq h hx hy, le_eq h hx hy, Option.bind_some, if_pos y1, if_pos ha.1, if_pos ha', if_pos x0, if_pos x2, if_pos y0, if_pos y2, if_pos hm.1, if_pos hm', up y y0 y1]
          unfold v1
          generalize rdOf false s x = q1
          generalize rdOf false s (A n p x y) = q2
          generalize rdOf false s (A n t x y) = q3
          generalize rdOf false s y = q4
          generalize L n b x y = q5
          cases q1 <;> cases q2 <;> cases q3 <;> cases q4 <;> cases q5 <;> simp
        · cases c : v1 n p t b s x y with
          | none => simpa using hr
          | some u =>
            have : u = false := by
              unfold v1 at c
              repeat' split at c
              all_goals first | exact (Option.some.inj c).symm | cases c
            subst this
            simpa using Ev.now false
theorem implMarks (h : OK n p t b) (hs : (s.length : Int) = n) : Ev (fun k => impl_isView.l0 k s 0 n p t b) ((findO (v0 n p t b s) 0 n.toNat).getD true) := by
  have hn : 0 ≤ n := by have := h.lo; omega
  have up : ∀ x, 0 ≤ x → x < n → wrap64 (x + 1) = x + 1 := fun x h0 h1 => w64 (by omega) (by have := h.hi; omega)
  refine loop0 (F := fun k x => impl_isView.l0 k s x n p t b) hn ?_ ?_
  · refine Ev.step (f := fun _ => some true) (fun k => ?_) (Ev.now _)
    simp only [impl_isView.l0]; rw [if_neg (by omega)]
  · intro x x0 x1 r hr
    refine Ev.step (f := fun k => impl_isView.l1 k s x 0 n p t b) (fun k => ?_) ?_
    · simp only [impl_isView.l0]; rw [if_pos x1]
    · unfold v0
      refine loop0 (F := fun k y => impl_isView.l1 k s x y n p t b) hn ?_ ?_
      · refine Ev.step (fun k => ?_) hr
        simp only [impl_isView.l1]; rw [if_neg (by omega), up x x0 x1]
      · intro y y0 y1 r hr
        have hx : Rg n x := ⟨x0, x1⟩
        have hy : Rg n y := ⟨y0, y1⟩
        have ha := A_in h hx hy
        have hm := M_in h hx hy
        have ha' : A n p x y < (s.length : Int) := by rw [hs]; exact ha.2
        have hm' : A n t x y < (s.length : Int) := by rw [hs]; exact hm.2
        have x2 : x < (s.length : Int) := by omega
        have y2 : y < (s.length : Int) := by omega
        refine Ev.step (f := fun k => if v1 n p t b s x y = none then impl_isView.l1 k s x (y + 1) n p t b else some false) (fun k => ?_) ?_
        · simp only [impl_isView.l1, plus_is, times_is, below_is, add_eq h hx hy, mul_eq h hx hy, le_eq h hx hy, Option.bind_some, if_pos y1, if_pos ha.1, if_pos ha', if_pos x0, if_pos x2, if_pos y0, if_pos y2, if_pos hm.1, if_pos hm', up y y0 y1]
          unfold v1
          generalize rdOf false s x = q1
          generalize rdOf false s (A n p x y) = q2
          generalize rdOf false s (A n t x y) = q3
          generalize rdOf false s y = q4
          generalize L n b x y = q5
          cases q1 <;> cases q2 <;> cases q3 <;> cases q4 <;> cases q5 <;> simp
        · cases c : v1 n p t b s x y with
          | none => simpa using hr
          | some u =>
            have : u = false := by
              unfold v1 at c
              repeat' split at c
              all_goals first | exact (Option.some.inj c).symm | cases c
            subst this
            simpa using Ev.now false
theorem specMark (h : OK n p t b) (hs : (s.length : Int) = n) : Ev (fun k => spec_l1View.f k n p t b s) (markV n p t b s) := by
  have p0 : 0 < (s.length : Int) := by have := h.lo; omega
  have p1 : 1 < (s.length : Int) := by have := h.lo; omega
  unfold spec_l1View.f markV
  simp only [if_pos p0, if_pos p1]
  have main := specMarks h hs
  refine evCongr (f := fun k => spec_l1View.j0 k s (rdOf false s 0 || !rdOf false s 1) n p t b) (fun k => ?_) (Ev.step (f := fun k => if rdOf false s 0 = false ∧ rdOf false s 1 = true then spec_l1View.l0 k s 0 n p t b else some false) (fun k => ?_) ?_)
  · cases rdOf false s 0 <;> simp
  · simp only [spec_l1View.j0]
    cases rdOf false s 0 <;> cases rdOf false s 1 <;> simp
  · split
    · exact main
    · exact Ev.now _
theorem implMark (h : OK n p t b) (hs : (s.length : Int) = n) : Ev (fun k => impl_isView.f k n p t b s) (markV n p t b s) := by
  have p0 : 0 < (s.length : Int) := by have := h.lo; omega
  have p1 : 1 < (s.length : Int) := by have := h.lo; omega
  unfold impl_isView.f markV
  simp only [if_pos p0, if_pos p1]
  have main := implMarks h hs
  refine evCongr (f := fun k => impl_isView.j0 k s (!rdOf false s 1 || rdOf false s 0) n p t b) (fun k => ?_) (Ev.step (f := fun k => if rdOf false s 0 = false ∧ rdOf false s 1 = true then impl_isView.l0 k s 0 n p t b else some false) (fun k => ?_) ?_)
  · cases rdOf false s 1 <;> simp
  · simp only [impl_isView.j0]
    cases rdOf false s 0 <;> cases rdOf false s 1 <;> simp
  · split
    · exact main
    · exact Ev.now _
end
end Go.Proofs.Ytjjkagnbdfofbaa.Pure
end

section
namespace Go.Proofs.Ytjjkagnbdfofbaa.P
open Go.RowKit Go.Proofs.YtjjkagnbdfofbaaW.PrintWords Go.Proofs.YtjjkagnbdfofbaaW.PrintLast Go.Proofs.YtjjkagnbdfofbaaW.PrintMore
attribute [local go_sem] max2_int min2_int max_two min_two
set_option linter.unusedVariables false
set_option linter.unusedSimpArgs false

def impl_IsView.l0 : Nat → List Int → List Bool → List Int → Int → Int → Int → List Int → List Int → List Bool → Option (Bool)
 | 0, _, _, _, _, _, _, _, _, _ => none
 | k + 1, x1, x5, x14, x15, x16, J2, J3, J4, J5 => if x16 < x15 then (if 0 ≤ x16 then (if x16 < (x14.length : Int) then ((impl_System_has.f J2 J3 J4 J5 (rd x14 x16)).bind fun K5 => (if K5 = true then (if x16 > 0 then (if 0 ≤ (wrap64 (x16 - 1)) then (if (wrap64 (x16 - 1)) < (x1.length : Int) then (if (rd x14 x16) ≤ (rd x1 (wrap64 (x16 - 1))) then (some false) else (if 0 ≤ (rd x14 x16) then (if (rd x14 x16) < (x5.length : Int) then (impl_IsView.l0 k x1 (x5.set ((rd x14 x16) : Int).toNat true) x14 x15 (wrap64 (x16 + 1)) J2 J3 J4 J5) else (none)) else (none))) else (none)) else (none)) else (if 0 ≤ (rd x14 x16) then (if (rd x14 x16) < (x5.length : Int) then (impl_IsView.l0 k x1 (x5.set ((rd x14 x16) : Int).toNat true) x14 x15 (wrap64 (x16 + 1)) J2 J3 J4 J5) else (none)) else (none))) else (some false))) else (none)) else (none)) else ((impl_isView.f k J2 J3 J4 J5 x5).bind fun K6 => (some K6))
def impl_IsView.f (k : Nat) (a0_0 : Int) (l0_1 : List Int) (l0_2 : List Int) (l0_3 : List Bool) (l1 : List Int) : Option (Bool) := (impl_IsSystem.f k a0_0 l0_1 l0_2 l0_3).bind fun J8 => (if J8 = true then (if 0 ≤ a0_0 then (if (a0_0 : Int).toNat ≤ 281474976710656 then (impl_IsView.l0 k l1 (List.replicate (a0_0 : Int).toNat false) l1 (l1.length : Int) 0 a0_0 l0_1 l0_2 l0_3) else (none)) else (none)) else (some false))
set_option maxHeartbeats 8000000 in
set_option maxRecDepth 100000 in
theorem impl_IsView.calls (k : Nat) (a0_0 : Int) (A0_1 : Option Addr) (c0_1 : Nat) (l0_1 : List Int) (A0_2 : Option Addr) (c0_2 : Nat) (l0_2 : List Int) (A0_3 : Option Addr) (c0_3 : Nat) (l0_3 : List Bool) (A1 : Option Addr) (c1 : Nat) (l1 : List Int) (r : Bool) (w : World) (hr0_1 : Kd.C (Kd.int .i64) w A0_1 l0_1.length l0_1) (hc0_1 : l0_1.length ≤ c0_1) (hr0_2 : Kd.C (Kd.int .i64) w A0_2 l0_2.length l0_2) (hc0_2 : l0_2.length ≤ c0_2) (hr0_3 : Kd.C Kd.bool w A0_3 l0_3.length l0_3) (hc0_3 : l0_3.length ≤ c0_3) (hr1 : Kd.C (Kd.int .i64) w A1 l1.length l1) (hc1 : l1.length ≤ c1) (h : impl_IsView.f k a0_0 l0_1 l0_2 l0_3 l1 = some r) :
  Calls Try.prog 7 #[.agg #[.int .i64 a0_0, .slice A0_1 l0_1.length c0_1, .slice A0_2 l0_2.length c0_2, .slice A0_3 l0_3.length c0_3], .slice A1 l1.length c1] w fun e w' => e = .returned (.bool r) ∧ Below w.heap.size w w' := by
 have hu27 := Try.underlying27; have HR0_1 := sd_ hr0_1; have HC0_1 := sd_ hc0_1; clear hr0_1 hc0_1; have HR0_2 := sd_ hr0_2; have HC0_2 := sd_ hc0_2; clear hr0_2 hc0_2; have HR0_3 := sd_ hr0_3; have HC0_3 := sd_ hc0_3; clear hr0_3 hc0_3; have HR1 := sd_ hr1; have HC1 := sd_ hc1; clear hr1 hc1; have HB := sd_ (Below.refl w.heap.size w); have H : ((impl_IsSystem.f k a0_0 l0_1 l0_2 l0_3).bind fun J8 => (if J8 = true then (if 0 ≤ a0_0 then (if (a0_0 : Int).toNat ≤ 281474976710656 then (impl_IsView.l0 k l1 (List.replicate (a0_0 : Int).toNat false) l1 (l1.length : Int) 0 a0_0 l0_1 l0_2 l0_3) else (none)) else (none)) else (some false))) = some r := h; clear h
 revert H; refine ob_ fun J8 A3 H => ?_
 have HP4 := sd_ H; clear H; go_enter Try.func7, Try.ntmps7; go_upto_if 10 with (first | ((with_reducible refine gate_dst (N := 2) rfl ?_); refine bx_ (N := 2) (cs := #[.int .i64 a0_0, .slice A0_1 l0_1.length c0_1, .slice A0_2 l0_2.length c0_2, .slice A0_3 l0_3.length c0_3]) (t := 27) ?_; intro K9 hg w5 hbox hb; have J0 := sd_ (hbox); have X0 := sd_ (gs_ hg (bw0_ HB.out)); have J1 := sd_ (gs_ hg (bw0_ HB.out)); replace HB := sd_ (below_step (bw0_ HB.out) hb); clear hb hbox hg; obtain ⟨Z7, Z8, Z9, Y0, Y1, Y2, Y3, Y4⟩ := bf4_ J0.out) | ((with_reducible refine gate_callee (f := 19) rfl ?_); refine goesL_ (some 9) rfl rfl Try.func19 (by kernel_rfl) rfl #[.agg #[.int .i64 a0_0, .slice A0_1 l0_1.length c0_1, .slice A0_2 l0_2.length c0_2, .slice A0_3 l0_3.length c0_3]] rfl la_ ?_; (with_reducible refine (impl_IsSystem.calls k a0_0 _ _ l0_1 _ _ l0_2 _ _ l0_3 J8 _ (kc_ HR0_1.out HB.out) HC0_1.out (kc_ HR0_2.out HB.out) HC0_2.out (kc_ HR0_3.out HB.out) HC0_3.out A3.out).mono ?_); rintro e w7 ⟨rfl, hb⟩; refine ⟨_, rfl, ?_⟩; replace J0 := sd_ (bb_ J0.out hb); replace HB := sd_ (below_step (bw1_ HB.out J1.out) hb); (try clear hb))); have H := HP4.out; clear HP4; obtain rfl | rfl := bt_ J8
 ·replace H := it_ H; by_cases c9 : 0 ≤ a0_0
  ·rw [if_pos c9] at H; have c9b0 := eq_true c9; have c9b1 : decide (0 ≤ a0_0) = true := decide_eq_true c9; clear c9; by_cases c10 : (a0_0 : Int).toNat ≤ 281474976710656
   ·rw [if_pos c10] at H; have Q0 := eq_true c10; have Q1 : decide ((a0_0 : Int).toNat ≤ 281474976710656) = true := decide_eq_true c10; clear c10; generalize K0 : (List.replicate (a0_0 : Int).toNat false : List Bool) = Y5 at H; have K1 := sd_ K0.symm; clear K0; have H' := sd_ H; clear H; obtain ⟨Q2, Q3, Q4, Q5, Q6, Q7, Q8, Q9⟩ := bf4_ J0.out; go_wp2_with (first | ((with_reducible refine gate_dst (N := 13) rfl ?_); refine Kd.R_make Kd.bool _ 4 rfl (N := 13) rfl 25 _ _ rfl a0_0 rfl rfl Try.underlying25 (.bool false) 1 info4 rfl (by decide) (by omega) false (ok := fun _ => True) (okp := fun _ => True) rfl (fun _ hk => hk) trivial (dt_) (Nat.le_trans (Nat.mul_le_mul_right _ (dt_ : a0_0.toNat ≤ 281474976710656)) (by omega)) (Below.refl _ _) (Nat.le_refl _) ?_; intro v188 w12 ho13 hb hg_ hnew_; clear hg_ hnew_; (first | rw [← K1.out] at ho13 | (simp only [Int.reduceToNat] at ho13; rw [← K1.out] at ho13)); have Z0 := sd_ (Kd.R_lower ho13 (below_size (bw1_ HB.out J1.out))); replace J0 := sd_ (bb_ J0.out hb); replace HB := sd_ (below_step (bw1_ HB.out J1.out) hb); clear hb ho13))
    go_loopg [16] k (fun kq v16 w' => ∃ (x5_1 : List Bool) (x16_1 : Int), v16 = .int .i64 x16_1 ∧ Aside0 (impl_IsView.l0 kq l1 x5_1 l1 (l1.length : Int) x16_1 a0_0 l0_1 l0_2 l0_3 = some r) ∧ Aside0 (kq ≤ k) ∧ Aside0 (Kd.R Kd.bool 4 w' w.heap.size (fun _ => True) v188 x5_1) ∧ Aside0 (w'.heap[K9]? = some (.cells #[.int .i64 a0_0, (.slice A0_1 l0_1.length c0_1), (.slice A0_2 l0_2.length c0_2), (.slice A0_3 l0_3.length c0_3)] 27 (0, 0))) ∧ Aside0 (Below w.heap.size w w'))
    case atStart => exact ⟨(Y5), (0), sm_, H', ⟨Nat.le_refl _⟩, ⟨ro_ Z0.out⟩, ⟨bz_ J0.out⟩, ⟨bw1_ HB.out J1.out⟩⟩
    case round =>
     clear H'; (try clear c1); (try clear p2); (try clear c7); (try clear c8); (try clear c9); (try clear c9b0); (try clear c9b1); (try clear c10); (try clear Q0); (try clear Q1); (try clear Q2 Q3 Q4 Q5); (try clear Z7 Z8 Z9 Y0); (try clear Q6 Q7 Q8 Q9); (try clear Y1 Y2 Y3 Y4); obtain ⟨x5_1, x16_1, rfl, HA, HK1, HO_5, J0, HB⟩ := hrel
     cases gk with
     | zero => exact absurd HA.out (by simp [impl_IsView.l0])
     | succ k1 =>
      have H := HA.out; clear HA; simp only [impl_IsView.l0] at H; revert H; refine ic_ (fun J6 H => ?_) (fun J6 H => ?_)
      ·(first | rw [J6] | (simp only [i64_w, i32_w]; rw [J6]) | skip)
       revert H; refine ih_ fun X1 H => ?_
       revert H; refine ih_ fun X2 H => ?_
       revert H; refine ob_ fun K5 A17 H => ?_
       obtain rfl | rfl := bt_ K5
       ·replace H := it_ H; by_cases c19 : x16_1 > 0
        ·rw [if_pos c19] at H; have Z1 : decide (0 < x16_1) = true := decide_eq_true c19; clear c19; obtain ⟨ji20, hji20⟩ : ∃ j_ : Int, (wrap64 (x16_1 - 1)) = j_ := ⟨_, rfl⟩
         replace H : (if 0 ≤ (ji20) then (if (ji20) < (l1.length : Int) then (if (rd l1 x16_1) ≤ (rd l1 (ji20)) then (some false) else (if 0 ≤ (rd l1 x16_1) then (if (rd l1 x16_1) < (x5_1.length : Int) then (impl_IsView.l0 k1 l1 (x5_1.set ((rd l1 x16_1) : Int).toNat true) l1 (l1.length : Int) (wrap64 (x16_1 + 1)) a0_0 l0_1 l0_2 l0_3) else (none)) else (none))) else (none)) else (none)) = some r := by first | (rw [hji20] at H; exact H) | (simp only [hji20] at H ⊢; exact H)
         (try rw [hji20] at A17); have hji20w : (IntKind.i64.wrap (x16_1 - 1)) = ji20 := (i64_w _).trans hji20
         revert H; refine ih_ fun X3 H => ?_
         revert H; refine ih_ fun X4 H => ?_
         have HP23 := sd_ H; clear H; obtain ⟨J9, e190, hx190_0, p190, q190⟩ := ai_ HR1.out HB.out x16_1
         cases e190
         obtain ⟨X5, X6, X7, X8, X9, W0, W5, W6⟩ := bf4_ J0.out; go_upto_if 37 with (first | ((with_reducible refine gate_callee (f := 20) rfl ?_); refine goesL_ (some 23) rfl rfl Try.func20 (by kernel_rfl) rfl #[.agg #[.int .i64 a0_0, .slice A0_1 l0_1.length c0_1, .slice A0_2 l0_2.length c0_2, .slice A0_3 l0_3.length c0_3], .int .i64 (rd l1 x16_1)] rfl la_ ?_; (with_reducible refine (impl_System_has.calls a0_0 _ _ l0_1 _ _ l0_2 _ _ l0_3 (rd l1 x16_1) true _ (kc_ HR0_1.out HB.out) HC0_1.out (kc_ HR0_2.out HB.out) HC0_2.out (kc_ HR0_3.out HB.out) HC0_3.out A17.out).mono ?_); rintro e w25 ⟨rfl, hb⟩; refine ⟨_, rfl, ?_⟩; replace HO_5 := sd_ (Kd.R_below (ro_ HO_5.out) hb); replace J0 := sd_ (bb_ J0.out hb); replace HB := sd_ (below_step (bw1_ HB.out J1.out) hb); (try clear hb); obtain ⟨Z2, e192, hx192_0, p192, q192⟩ := ai_ HR1.out HB.out (ji20); obtain rfl : J9 = Z2 := (by injection e192))); have H := HP23.out; clear HP23; revert H; refine ic_ (fun J7 H => ?_) (fun J7 H => ?_)
         ·(first | rw [J7] | (simp only [i64_w, i32_w]; rw [J7]) | skip); obtain rfl := Option.some.inj H; go_wp2; go_ret; exact ⟨by first | rfl | (simp [errW_none, errW_some] <;> rfl) | (simp only [← hji20]; first | rfl | (simp [errW_none, errW_some] <;> rfl)) | (simp [*, errW_none, errW_some] <;> rfl), bw1_ HB.out J1.out⟩
         (first | rw [J7] | (simp only [i64_w, i32_w]; rw [J7]) | skip)
         revert H; refine ih_ fun W7 H => ?_
         revert H; refine ih_ fun W8 H => ?_
         generalize K2 : (x5_1.set ((rd l1 x16_1) : Int).toNat true : List Bool) = Z3 at H; have Z4 := sd_ K2.symm; clear K2; have H' := sd_ H; clear H; have p29 : 0 ≤ ((rd l1 x16_1) : Int) := dt_; have q29 : ((rd l1 x16_1) : Int) < ((x5_1.length : Int) : Int) := dt_; obtain ⟨K7, Y6, eo29, gb29, gl29, cl29, HG29⟩ := Kd.R_form HO_5.out (by omega); (first | cases eo29 | (injection eo29 with ea_ en_ ec_; (first | subst ea_ | (injection ea_ with ea_; subst ea_)); subst ec_; clear en_)); have GB29 := sd_ gb29; have GG29 := sd_ HG29; clear gb29 gl29 HG29; obtain ⟨hx29_0, hf29_0⟩ := Kd.R_celln false HO_5.out ((rd l1 x16_1) : Int) p29 q29; replace p29 := eq_true p29; replace q29 := eq_true q29; have HP30 := Kd.R_putg HO_5.out ((rd l1 x16_1) : Int) true; go_wp2_with (first | ((with_reducible refine gate_store (t := 4) (p := 40) rfl ?_); refine store_event (t := 4) (p := 40) (v := ?vo_w31) (w1 := (w25.setCell ⟨K7, ((rd l1 x16_1) : Int).toNat, none⟩ (.bool true))) ?hg ?ho ?hn ?hr ?_; (case ho => rfl); (case hg => rfl); (case hn => rfl); (case hr => first | (go_simp; done) | (go_simp; rfl)); intro w31 hw; have hg : w25.grownBy w31 (some K7) := (by rw [hw]; exact HP30.2); have hp_ : Kd.R Kd.bool 4 w31 w.heap.size (fun _ => True) (.slice (some ⟨K7, 0, none⟩) x5_1.length Y6) Z3 := (by rw [hw, Z4.out]; exact HP30.1); clear HP30; replace J0 := sd_ (bg_ J0.out HO_5.out hg); replace HO_5 := sd_ (hp_); replace HB := sd_ ((by rw [hw]; exact below_set (HB.out) GB29.out : Below w.heap.size w w31)); clear hg hw hp_)); go_roundg k1
         case measure => have := HK1.out; omega
         case rel => exact ⟨(Z3), (wrap64 (x16_1 + 1)), sm_, H', ⟨by have := HK1.out; omega⟩, ⟨ro_ HO_5.out⟩, ⟨bz_ J0.out⟩, ⟨bw1_ HB.out J1.out⟩⟩
        rw [if_neg c19] at H; have Z1 : decide (0 < x16_1) = false := decide_eq_false c19; clear c19
        revert H; refine ih_ fun W9 H => ?_
        revert H; refine ih_ fun V0 H => ?_
        generalize K3 : (x5_1.set ((rd l1 x16_1) : Int).toNat true : List Bool) = Z5 at H; have Z6 := sd_ K3.symm; clear K3; have H' := sd_ H; clear H; obtain ⟨J9, e190, hx190_0, p190, q190⟩ := ai_ HR1.out HB.out x16_1
        cases e190
        obtain ⟨V1, V2, V3, V4, V5, V6, V7, V8⟩ := bf4_ J0.out; go_wp2_with (first | ((with_reducible refine gate_callee (f := 20) rfl ?_); refine goesL_ (some 23) rfl rfl Try.func20 (by kernel_rfl) rfl #[.agg #[.int .i64 a0_0, .slice A0_1 l0_1.length c0_1, .slice A0_2 l0_2.length c0_2, .slice A0_3 l0_3.length c0_3], .int .i64 (rd l1 x16_1)] rfl la_ ?_; (with_reducible refine (impl_System_has.calls a0_0 _ _ l0_1 _ _ l0_2 _ _ l0_3 (rd l1 x16_1) true _ (kc_ HR0_1.out HB.out) HC0_1.out (kc_ HR0_2.out HB.out) HC0_2.out (kc_ HR0_3.out HB.out) HC0_3.out A17.out).mono ?_); rintro e w36 ⟨rfl, hb⟩; refine ⟨_, rfl, ?_⟩; replace HO_5 := sd_ (Kd.R_below (ro_ HO_5.out) hb); replace J0 := sd_ (bb_ J0.out hb); replace HB := sd_ (below_step (bw1_ HB.out J1.out) hb); (try clear hb); have p34 : 0 ≤ ((rd l1 x16_1) : Int) := dt_; have q34 : ((rd l1 x16_1) : Int) < ((x5_1.length : Int) : Int) := dt_; obtain ⟨K8, Y7, eo34, gb34, gl34, cl34, HG34⟩ := Kd.R_form HO_5.out (by omega); (first | cases eo34 | (injection eo34 with ea_ en_ ec_; (first | subst ea_ | (injection ea_ with ea_; subst ea_)); subst ec_; clear en_)); have GB34 := sd_ gb34; have GG34 := sd_ HG34; clear gb34 gl34 HG34; obtain ⟨hx34_0, hf34_0⟩ := Kd.R_celln false HO_5.out ((rd l1 x16_1) : Int) p34 q34; replace p34 := eq_true p34; replace q34 := eq_true q34; obtain ⟨hy37_, hz37_⟩ := Kd.R_celln false HO_5.out ((rd l1 x16_1) : Int) (dt_) (dt_); have HP37 := Kd.R_putg HO_5.out ((rd l1 x16_1) : Int) true) | ((with_reducible refine gate_store (t := 4) (p := 40) rfl ?_); refine store_event (t := 4) (p := 40) (v := ?vo_w38) (w1 := (w36.setCell ⟨K8, ((rd l1 x16_1) : Int).toNat, none⟩ (.bool true))) ?hg ?ho ?hn ?hr ?_; (case ho => rfl); (case hg => rfl); (case hn => rfl); (case hr => first | (go_simp; done) | (go_simp; rfl)); intro w38 hw; have hg : w36.grownBy w38 (some K8) := (by rw [hw]; exact HP37.2); have hp_ : Kd.R Kd.bool 4 w38 w.heap.size (fun _ => True) (.slice (some ⟨K8, 0, none⟩) x5_1.length Y7) Z5 := (by rw [hw, Z6.out]; exact HP37.1); clear HP37; replace J0 := sd_ (bg_ J0.out HO_5.out hg); replace HO_5 := sd_ (hp_); replace HB := sd_ ((by rw [hw]; exact below_set (HB.out) GB34.out : Below w.heap.size w w38)); clear hg hw hp_)); go_roundg k1
        case measure => have := HK1.out; omega
        case rel => exact ⟨(Z5), (wrap64 (x16_1 + 1)), sm_, H', ⟨by have := HK1.out; omega⟩, ⟨ro_ HO_5.out⟩, ⟨bz_ J0.out⟩, ⟨bw1_ HB.out J1.out⟩⟩
       replace H := if_ H; obtain rfl := Option.some.inj H; obtain ⟨J9, e190, hx190_0, p190, q190⟩ := ai_ HR1.out HB.out x16_1
       cases e190
       obtain ⟨V9, U0, U1, U2, U3, U4, U5, U6⟩ := bf4_ J0.out; go_wp2_with (first | ((with_reducible refine gate_callee (f := 20) rfl ?_); refine goesL_ (some 23) rfl rfl Try.func20 (by kernel_rfl) rfl #[.agg #[.int .i64 a0_0, .slice A0_1 l0_1.length c0_1, .slice A0_2 l0_2.length c0_2, .slice A0_3 l0_3.length c0_3], .int .i64 (rd l1 x16_1)] rfl la_ ?_; (with_reducible refine (impl_System_has.calls a0_0 _ _ l0_1 _ _ l0_2 _ _ l0_3 (rd l1 x16_1) false _ (kc_ HR0_1.out HB.out) HC0_1.out (kc_ HR0_2.out HB.out) HC0_2.out (kc_ HR0_3.out HB.out) HC0_3.out A17.out).mono ?_); rintro e w40 ⟨rfl, hb⟩; refine ⟨_, rfl, ?_⟩; replace HO_5 := sd_ (Kd.R_below (ro_ HO_5.out) hb); replace J0 := sd_ (bb_ J0.out hb); replace HB := sd_ (below_step (bw1_ HB.out J1.out) hb); (try clear hb))); go_ret; exact ⟨an_, bw1_ HB.out J1.out⟩
      (first | rw [J6] | (simp only [i64_w, i32_w]; rw [J6]) | skip)
      revert H; refine ob_ fun K6 A41 H => ?_
      obtain rfl := Option.some.inj H; obtain ⟨U7, U8, U9, G0, G1, G2, G3, G4⟩ := bf4_ J0.out; obtain ⟨Y8, Y9, eo43⟩ := Kd.R_slice HO_5.out; subst eo43; go_wp2_with (first | ((with_reducible refine gate_callee (f := 21) rfl ?_); refine goesL_ (some 44) rfl rfl Try.func21 (by kernel_rfl) rfl #[.agg #[.int .i64 a0_0, .slice A0_1 l0_1.length c0_1, .slice A0_2 l0_2.length c0_2, .slice A0_3 l0_3.length c0_3], .slice Y8 x5_1.length Y9] rfl la_ ?_; (with_reducible refine (impl_isView.calls k1 a0_0 _ _ l0_1 _ _ l0_2 _ _ l0_3 _ _ x5_1 K6 _ ?side1 ?side2 ?side3 ?side4 ?side5 ?side6 ?side7 ?side8 A41.out).mono ?_); (case side1 => exact kc_ HR0_1.out HB.out); (case side2 => exact HC0_1.out); (case side3 => exact kc_ HR0_2.out HB.out); (case side4 => exact HC0_2.out); (case side5 => exact kc_ HR0_3.out HB.out); (case side6 => exact HC0_3.out); (case side7 => exact kp_ (Kd.R_reads' HO_5.out).2.2); (case side8 => exact (Kd.R_reads' HO_5.out).2.1); rintro e w44 ⟨rfl, hb⟩; refine ⟨_, rfl, ?_⟩; replace HO_5 := sd_ (Kd.R_below (ro_ HO_5.out) hb); replace J0 := sd_ (bb_ J0.out hb); replace HB := sd_ (below_step (bw1_ HB.out J1.out) hb); (try clear hb))); go_ret; exact ⟨an_, bw1_ HB.out J1.out⟩
   rw [if_neg c10] at H; exact absurd H (by simp)
  rw [if_neg c9] at H; exact absurd H (by simp)
 replace H := if_ H; obtain rfl := Option.some.inj H; go_wp2; go_ret; exact ⟨an_, bw1_ HB.out J1.out⟩

end Go.Proofs.Ytjjkagnbdfofbaa.P
end

section
/- IsView: what the program tells. -/
set_option linter.unusedSimpArgs false
set_option linter.unusedVariables false
namespace Go.Proofs.Ytjjkagnbdfofbaa.Pure
open Go.RowKit Go.Proofs.Ytjjkagnbdfofbaa.P Go.Proofs.YtjjkagnbdfofbaaW.PrintWords Go.Proofs.YtjjkagnbdfofbaaW.PrintLast
/-- What is told of a list of grades from its place i on, behind the marks s. -/
def listV (n : Int) (p t : List Int) (b : List Bool) (xs : List Int) : Nat → Int → List Bool → Bool
  | 0, _, s => markV n p t b s
  | m + 1, i, s => if inV (rd xs i) 0 (wrap64 (n - 1)) = true then (if i > 0 ∧ rd xs i ≤ rd xs (i - 1) then false else listV n p t b xs m (i + 1) (s.set (rd xs i).toNat true)) else false
section
variable {n : Int} {p t : List Int} {b : List Bool} {xs : List Int}
theorem implList (h : OK n p t b) (hl : xs.length ≤ 1048576) : ∀ (m : Nat) (i : Int) (s : List Bool), 0 ≤ i → i + m = xs.length → (s.length : Int) = n → Ev (fun k => impl_IsView.l0 k xs s xs (xs.length : Int) i n p t b) (listV n p t b xs m i s)
  | 0, i, s, h0, h1, hs => by
    refine Ev.step (fun k => ?_) (Ev.bind (implMark h hs) (Ev.now _))
    simp only [impl_IsView.l0]; rw [if_neg (by omega)]
  | m + 1, i, s, h0, h1, hs => by
    have i1 : i < (xs.length : Int) := by omega
    have ih := implList h hl m (i + 1) (s.set (rd xs i).toNat true) (by omega) (by omega) (by simpa using hs)
    have up : wrap64 (i + 1) = i + 1 := w64 (by omega) (by omega)
    have dn : wrap64 (i - 1) = i - 1 := w64 (by omega) (by omega)
    refine Ev.step (f := fun k => if inV (rd xs i) 0 (wrap64 (n - 1)) = true then (if i > 0 ∧ rd xs i ≤ rd xs (i - 1) then some false else impl_IsView.l0 k xs (s.set (rd xs i).toNat true) xs (xs.length : Int) (i + 1) n p t b) else some false) (fun k => ?_) ?_
    · simp only [impl_IsView.l0, has_eq, Option.bind_some, if_pos i1, if_pos h0, up, dn]
      by_cases c : inV (rd xs i) 0 (wrap64 (n - 1)) = true
      · have hx := (inV_Rg h).mp c
        have hx0 : 0 ≤ rd xs i := hx.1
        have hx1 : rd xs i < (s.length : Int) := by rw [hs]; exact hx.2
        simp only [if_pos c, if_pos hx0, if_pos hx1]
        by_cases ci : i > 0
        · have e1 : 0 ≤ i - 1 := by omega
          have e2 : i - 1 < (xs.length : Int) := by omega
          simp only [if_pos ci, if_pos e1, if_pos e2]
          by_cases cr : rd xs i ≤ rd xs (i - 1)
          · simp [cr, ci]
          · simp [cr, ci]
        · simp [ci]
      · simp only [if_neg c]
    · unfold listV
      split
      · split
        · exact Ev.now _
        · exact ih
      · exact Ev.now _
theorem implView (hl : xs.length ≤ 1048576) : Ev (fun k => impl_IsView.f k n p t b xs) (if sysV n p t b = true then listV n p t b xs xs.length 0 (List.replicate n.toNat false) else false) := by
  unfold impl_IsView.f
  refine Ev.bind (implSystem n p t b) ?_
  by_cases c : sysV n p t b = true
  · have h := sysV_ok c
    have n0 : 0 ≤ n := by have := h.lo; omega
    have n1 : n.toNat ≤ 281474976710656 := by have := h.hi; omega
    simp only [if_pos c, if_pos n0, if_pos n1]
    exact implList h hl xs.length 0 _ (by omega) (by omega) (by simp; omega)
  · simp only [if_neg c]
    exact Ev.now _
end
end Go.Proofs.Ytjjkagnbdfofbaa.Pure
end
