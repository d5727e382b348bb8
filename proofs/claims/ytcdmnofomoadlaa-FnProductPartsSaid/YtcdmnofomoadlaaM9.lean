-- Several texts in one (wip/tools/merge.py).
import Derived.Test.YtcdmnofomoadlaaM1
import Derived.Test.YtcdmnofomoadlaaM8
import Derived.Laws.EntriesVeiled
import Derived.Test.YtcdmnofomoadlaaM7
section
namespace Go.Proofs.Ytcdmnofomoadlaa.P
open Go.RowKit Go.Proofs.YtcdmnofomoadlaaW.PrintWords Go.Proofs.YtcdmnofomoadlaaW.PrintLast Go.Proofs.YtcdmnofomoadlaaW.PrintMore
attribute [local go_sem] max2_int min2_int max_two min_two max_three min_three max_four min_four   -- for this text's walks alone
set_option linter.unusedVariables false
set_option linter.unusedSimpArgs false

/-! ### slices_ContainsFunc_int_int: function 74 -/
def slices_ContainsFunc_int_int.f (k : Nat) (l0 : List Int) (x1 : (Int → Option (Bool))) : Option (Bool) := (slices_IndexFunc_int_int.f k l0 x1).bind fun t311 => (some (decide (t311 ≥ 0)))
set_option maxHeartbeats 8000000 in
set_option maxRecDepth 100000 in
theorem slices_ContainsFunc_int_int.calls (k : Nat) (A0 : Option Addr) (c0 : Nat) (l0 : List Int) (x1 : (Int → Option (Bool))) (K1_ : Nat) (F1_ C1_ : Array Value) (r : Bool) (w : World) (hr0 : Kd.C (Kd.int .i64) w A0 l0.length l0) (hc0 : l0.length ≤ c0) (hG1 : OFn K1_) (hF1 : OC73 w x1 K1_ F1_ C1_) (h : slices_ContainsFunc_int_int.f k l0 x1 = some r) :
  Calls Try.prog 74 #[.slice A0 l0.length c0, .func (.func K1_) F1_ C1_] w fun e w' => e = .returned (.bool r) ∧ Below w.heap.size w w' := by
 have HR0 := sd_ hr0
 have HC0 := sd_ hc0
 clear hr0 hc0
 have HG1 := sd_ hG1
 have HF1 := sd_ hF1
 clear hG1 hF1
 have HB := sd_ (Below.refl w.heap.size w)
 have H : ((slices_IndexFunc_int_int.f k l0 x1).bind fun t311 => (some (decide (t311 ≥ 0)))) = some r := h
 clear h
 replace H := Option.bind_eq_some_iff.mp H
 obtain ⟨t311, A30, H⟩ := H
 try dsimp only at H
 have A3 := sd_ A30
 clear A30
 obtain rfl := Option.some.inj H
 go_enter Try.func74, Try.ntmps74
 go_wp2_with (first | ((with_reducible refine gate_callee (f := 123) rfl ?_); refine goesL_ (some 7) rfl rfl Try.func123 (by kernel_rfl) rfl #[.slice A0 l0.length c0, .func (.func K1_) F1_ C1_] rfl la_ ?_; (with_reducible refine (slices_IndexFunc_int_int.calls k _ _ l0 x1 K1_ F1_ C1_ t311 _ ?side1 ?side2 ?side3 ?side4 A3.out).mono ?_); (case side1 => exact kp_ HR0.out); (case side2 => exact HC0.out); (case side3 => exact HG1.out); (case side4 => exact OC73.step HF1.out (bw0_ HB.out)); rintro e w4 ⟨rfl, hb⟩; refine ⟨_, rfl, ?_⟩; have n0_ := sd_ (below_step (bw0_ HB.out) hb); clear HB; have HB := n0_; clear n0_; (try clear hb)))
 go_ret
 exact ⟨an_, bw0_ HB.out⟩

end Go.Proofs.Ytcdmnofomoadlaa.P
end

section
/- slices.ContainsFunc over whole numbers. -/
set_option linter.unusedSimpArgs false
set_option linter.unusedVariables false
namespace Go.Proofs.Ytcdmnofomoadlaa.Pure
open Go.RowKit Go.Proofs.Ytcdmnofomoadlaa.P Go.Proofs.YtcdmnofomoadlaaW.PrintWords Go.Proofs.YtcdmnofomoadlaaW.PrintLast
def fi (xs : List Int) (φ : Int → Bool) (i : Int) : Option Int := if φ (rd xs i) = true then some i else none
theorem fi_any (xs : List Int) (φ : Int → Bool) : ∀ (m i : Nat), i + m = xs.length → decide ((findO (fi xs φ) (i : Int) m).getD (-1) ≥ 0) = (xs.drop i).any φ
  | 0, i, h => by
    rw [List.drop_eq_nil_of_le (by omega)]
    rfl
  | m + 1, i, h => by
    have ih := fi_any xs φ m (i + 1) (by omega)
    rw [List.drop_eq_getElem_cons (by omega), List.any_cons, ← ih]
    show decide (((fi xs φ (i : Int)).or (findO (fi xs φ) ((i : Int) + 1) m)).getD (-1) ≥ 0) = _
    unfold fi
    rw [rd_get (by omega)]
    cases φ xs[i]
    · simp
    · simp
theorem containsV (xs : List Int) (hl : xs.length ≤ 1048576) (f : Int → Option Bool) (φ : Int → Bool) (hf : ∀ x, f x = some (φ x)) : Ev (fun k => slices_ContainsFunc_int_int.f k xs f) (xs.any φ) := by
  unfold slices_ContainsFunc_int_int.f slices_IndexFunc_int_int.f
  have h0 := fi_any xs φ xs.length 0 (by omega)
  rw [List.drop_zero] at h0
  rw [← h0]
  refine Ev.bind (a := (findO (fi xs φ) 0 xs.length).getD (-1)) ?_ (Ev.now _)
  refine loop (F := fun k i => slices_IndexFunc_int_int.l0 k xs f (xs.length : Int) i) (n := (xs.length : Int)) ?_ ?_ xs.length 0 (by omega) (by omega)
  · refine Ev.step (f := fun _ => some (-1)) (fun k => ?_) (Ev.now _)
    simp only [slices_IndexFunc_int_int.l0]; rw [if_neg (by omega)]
  · intro i h0 h1 r hr
    refine Ev.step (f := fun k => if φ (rd xs i) = true then some i else slices_IndexFunc_int_int.l0 k xs f (xs.length : Int) (i + 1)) (fun k => ?_) ?_
    · simp only [slices_IndexFunc_int_int.l0, hf, Option.bind_some]
      rw [if_pos h1, if_pos h0, if_pos h1, w64 (x := i + 1) (by omega) (by omega)]
    · unfold fi
      cases φ (rd xs i)
      · simpa using hr
      · simpa using Ev.now i
end Go.Proofs.Ytcdmnofomoadlaa.Pure
end

section
namespace Go.Proofs.Ytcdmnofomoadlaa.P
open Go.RowKit Go.Proofs.YtcdmnofomoadlaaW.PrintWords Go.Proofs.YtcdmnofomoadlaaW.PrintLast Go.Proofs.YtcdmnofomoadlaaW.PrintMore
attribute [local go_sem] max2_int min2_int max_two min_two max_three min_three max_four min_four   -- for this text's walks alone
set_option linter.unusedVariables false
set_option linter.unusedSimpArgs false

/-! ### spec_l1Three: function 104 -/
mutual
def spec_l1Three.j0 : Nat → Int → Int → Int → Bool → Int → List Int → List Int → List Bool → Option (Bool)
 | 0, _, _, _, _, _, _, _, _ => none
 | k + 1, x1, x2, x3, x40, x435000, x435001, x435002, x435003 => if x40 = true then (some false) else ((spec_l1Add.f x435000 x435001 x435002 x435003 x2 x3).bind fun t443 => ((spec_l1Mul.f x435000 x435001 x435002 x435003 x1 t443).bind fun t444 => ((spec_l1Mul.f x435000 x435001 x435002 x435003 x1 x2).bind fun t445 => ((spec_l1Mul.f x435000 x435001 x435002 x435003 x1 x3).bind fun t446 => ((spec_l1Add.f x435000 x435001 x435002 x435003 t445 t446).bind fun t447 => (if t444 = t447 then ((spec_l1Add.f x435000 x435001 x435002 x435003 x1 x2).bind fun t448 => ((spec_l1Mul.f x435000 x435001 x435002 x435003 t448 x3).bind fun t449 => ((spec_l1Mul.f x435000 x435001 x435002 x435003 x1 x3).bind fun t450 => ((spec_l1Mul.f x435000 x435001 x435002 x435003 x2 x3).bind fun t451 => ((spec_l1Add.f x435000 x435001 x435002 x435003 t450 t451).bind fun t452 => (spec_l1Three.j1 k x1 x2 x3 (t449 != t452) x435000 x435001 x435002 x435003)))))) else (spec_l1Three.j1 k x1 x2 x3 true x435000 x435001 x435002 x435003)))))))
def spec_l1Three.j1 : Nat → Int → Int → Int → Bool → Int → List Int → List Int → List Bool → Option (Bool)
 | 0, _, _, _, _, _, _, _, _ => none
 | k + 1, x1, x2, x3, x78, x435000, x435001, x435002, x435003 => if x78 = true then (some false) else ((spec_l1Le.f x435000 x435001 x435002 x435003 x1 x2).bind fun t453 => (if t453 = true then ((spec_l1Le.f x435000 x435001 x435002 x435003 x2 x3).bind fun t454 => (if t454 = true then ((spec_l1Le.f x435000 x435001 x435002 x435003 x1 x3).bind fun t455 => (spec_l1Three.j2 k x1 x2 x3 (!t455) x435000 x435001 x435002 x435003)) else (spec_l1Three.j2 k x1 x2 x3 false x435000 x435001 x435002 x435003))) else (some true)))
def spec_l1Three.j2 : Nat → Int → Int → Int → Bool → Int → List Int → List Int → List Bool → Option (Bool)
 | 0, _, _, _, _, _, _, _, _ => none
 | k + 1, x1, x2, x3, x94, x435000, x435001, x435002, x435003 => if x94 = true then (some false) else ((spec_l1Add.f x435000 x435001 x435002 x435003 x1 x3).bind fun t456 => ((spec_l1Add.f x435000 x435001 x435002 x435003 x2 x3).bind fun t457 => ((spec_l1Le.f x435000 x435001 x435002 x435003 t456 t457).bind fun t458 => (if t458 = true then ((spec_l1Mul.f x435000 x435001 x435002 x435003 x1 x3).bind fun t459 => ((spec_l1Mul.f x435000 x435001 x435002 x435003 x2 x3).bind fun t460 => ((spec_l1Le.f x435000 x435001 x435002 x435003 t459 t460).bind fun t461 => (if t461 = true then ((spec_l1Mul.f x435000 x435001 x435002 x435003 x3 x1).bind fun t462 => ((spec_l1Mul.f x435000 x435001 x435002 x435003 x3 x2).bind fun t463 => ((spec_l1Le.f x435000 x435001 x435002 x435003 t462 t463).bind fun t464 => (some t464)))) else (some false))))) else (some false)))))
end
def spec_l1Three.f (k : Nat) (a0_0 : Int) (l0_1 : List Int) (l0_2 : List Int) (l0_3 : List Bool) (a1 : Int) (a2 : Int) (a3 : Int) : Option (Bool) := (spec_l1Add.f a0_0 l0_1 l0_2 l0_3 a1 a2).bind fun t435 => ((spec_l1Add.f a0_0 l0_1 l0_2 l0_3 t435 a3).bind fun t436 => ((spec_l1Add.f a0_0 l0_1 l0_2 l0_3 a2 a3).bind fun t437 => ((spec_l1Add.f a0_0 l0_1 l0_2 l0_3 a1 t437).bind fun t438 => (if t436 = t438 then ((spec_l1Mul.f a0_0 l0_1 l0_2 l0_3 a1 a2).bind fun t439 => ((spec_l1Mul.f a0_0 l0_1 l0_2 l0_3 t439 a3).bind fun t440 => ((spec_l1Mul.f a0_0 l0_1 l0_2 l0_3 a2 a3).bind fun t441 => ((spec_l1Mul.f a0_0 l0_1 l0_2 l0_3 a1 t441).bind fun t442 => (spec_l1Three.j0 k a1 a2 a3 (t440 != t442) a0_0 l0_1 l0_2 l0_3))))) else (spec_l1Three.j0 k a1 a2 a3 true a0_0 l0_1 l0_2 l0_3)))))
set_option maxHeartbeats 8000000 in
set_option maxRecDepth 100000 in
theorem spec_l1Three.calls (k : Nat) (a0_0 : Int) (A0_1 : Option Addr) (c0_1 : Nat) (l0_1 : List Int) (A0_2 : Option Addr) (c0_2 : Nat) (l0_2 : List Int) (A0_3 : Option Addr) (c0_3 : Nat) (l0_3 : List Bool) (a1 : Int) (a2 : Int) (a3 : Int) (r : Bool) (w : World) (hr0_1 : Kd.C (Kd.int .i64) w A0_1 l0_1.length l0_1) (hc0_1 : l0_1.length ≤ c0_1) (hr0_2 : Kd.C (Kd.int .i64) w A0_2 l0_2.length l0_2) (hc0_2 : l0_2.length ≤ c0_2) (hr0_3 : Kd.C Kd.bool w A0_3 l0_3.length l0_3) (hc0_3 : l0_3.length ≤ c0_3) (h : spec_l1Three.f k a0_0 l0_1 l0_2 l0_3 a1 a2 a3 = some r) :
  Calls Try.prog 104 #[.agg #[.int .i64 a0_0, .slice A0_1 l0_1.length c0_1, .slice A0_2 l0_2.length c0_2, .slice A0_3 l0_3.length c0_3], .int .i64 a1, .int .i64 a2, .int .i64 a3] w fun e w' => e = .returned (.bool r) ∧ Below w.heap.size w w' := by
 have hu27 := Try.underlying27
 have HR0_1 := sd_ hr0_1
 have HC0_1 := sd_ hc0_1
 clear hr0_1 hc0_1
 have HR0_2 := sd_ hr0_2
 have HC0_2 := sd_ hc0_2
 clear hr0_2 hc0_2
 have HR0_3 := sd_ hr0_3
 have HC0_3 := sd_ hc0_3
 clear hr0_3 hc0_3
 have HB := sd_ (Below.refl w.heap.size w)
 have H : ((spec_l1Add.f a0_0 l0_1 l0_2 l0_3 a1 a2).bind fun t435 => ((spec_l1Add.f a0_0 l0_1 l0_2 l0_3 t435 a3).bind fun t436 => ((spec_l1Add.f a0_0 l0_1 l0_2 l0_3 a2 a3).bind fun t437 => ((spec_l1Add.f a0_0 l0_1 l0_2 l0_3 a1 t437).bind fun t438 => (if t436 = t438 then ((spec_l1Mul.f a0_0 l0_1 l0_2 l0_3 a1 a2).bind fun t439 => ((spec_l1Mul.f a0_0 l0_1 l0_2 l0_3 t439 a3).bind fun t440 => ((spec_l1Mul.f a0_0 l0_1 l0_2 l0_3 a2 a3).bind fun t441 => ((spec_l1Mul.f a0_0 l0_1 l0_2 l0_3 a1 t441).bind fun t442 => (spec_l1Three.j0 k a1 a2 a3 (t440 != t442) a0_0 l0_1 l0_2 l0_3))))) else (spec_l1Three.j0 k a1 a2 a3 true a0_0 l0_1 l0_2 l0_3)))))) = some r := h
 clear h
 have HC5 := sd_ H
 clear H
 go_enter Try.func104, Try.ntmps104
 go_upto_region 1 with (first | ((with_reducible refine gate_dst (N := 4) rfl ?_); refine bx_ (N := 4) (cs := #[.int .i64 a0_0, .slice A0_1 l0_1.length c0_1, .slice A0_2 l0_2.length c0_2, .slice A0_3 l0_3.length c0_3]) (t := 27) ?_; intro gb434 hg w6 hbox hb; have BK434 := sd_ (hbox); have GW434 := sd_ (gs_ hg (bw0_ HB.out)); have GE434 := sd_ (gs_ hg (bw0_ HB.out)); replace HB := sd_ (below_step (bw0_ HB.out) hb); clear hb hbox hg))
 (try simp only [Act.put, List.setIfInBounds_toArray, List.set_cons_zero, List.set_cons_succ])
 go_cut [40] (fun v40 wc => ∃ (kq : Nat) (x40_4 : Bool), v40 = .bool x40_4 ∧ Aside0 (spec_l1Three.j0 kq a1 a2 a3 x40_4 a0_0 l0_1 l0_2 l0_3 = some r) ∧ Aside0 (kq ≤ k) ∧ Aside0 (wc.heap[gb434]? = some (.cells #[.int .i64 a0_0, (.slice A0_1 l0_1.length c0_1), (.slice A0_2 l0_2.length c0_2), (.slice A0_3 l0_3.length c0_3)] 27 (0, 0))) ∧ Aside0 (Below w.heap.size w wc))
 case first =>
  have H := HC5.out
  clear HC5
  replace H := Option.bind_eq_some_iff.mp H
  obtain ⟨t435, A70, H⟩ := H
  try dsimp only at H
  have A7 := sd_ A70
  clear A70
  replace H := Option.bind_eq_some_iff.mp H
  obtain ⟨t436, A80, H⟩ := H
  try dsimp only at H
  have A8 := sd_ A80
  clear A80
  replace H := Option.bind_eq_some_iff.mp H
  obtain ⟨t437, A90, H⟩ := H
  try dsimp only at H
  have A9 := sd_ A90
  clear A90
  replace H := Option.bind_eq_some_iff.mp H
  obtain ⟨t438, A100, H⟩ := H
  try dsimp only at H
  have A10 := sd_ A100
  clear A100
  by_cases c11 : t436 = t438
  ·rw [if_pos c11] at H
   have c11b0 : (t436 == t438) = true := beq_iff_eq.mpr c11
   have c11b1 : (t436 != t438) = false := bne_eq_false_iff_eq.mpr c11
   clear c11
   (first | rw [c11b0] | (simp only [i64_w, i32_w]; rw [c11b0]) | skip)
   replace H := Option.bind_eq_some_iff.mp H
   obtain ⟨t439, A120, H⟩ := H
   try dsimp only at H
   have A12 := sd_ A120
   clear A120
   replace H := Option.bind_eq_some_iff.mp H
   obtain ⟨t440, A130, H⟩ := H
   try dsimp only at H
   have A13 := sd_ A130
   clear A130
   replace H := Option.bind_eq_some_iff.mp H
   obtain ⟨t441, A140, H⟩ := H
   try dsimp only at H
   have A14 := sd_ A140
   clear A140
   replace H := Option.bind_eq_some_iff.mp H
   obtain ⟨t442, A150, H⟩ := H
   try dsimp only at H
   have A15 := sd_ A150
   clear A150
   have H' := sd_ H
   clear H
   try go_wp2
   refine qb_region (by kernel_rfl) (by kernel_rfl) ?_
   have HQ := fun (wq : World) (hq : Below w6.heap.size w6 wq) => below_step HB.out hq
   repeat ((first | (apply qb_skip; (focus rfl)) | (refine qb_callN 13 rfl ?_; apply qb_call 13 rfl Try.func88 (by kernel_rfl) rfl rfl; (focus rfl); (focus (exact fun wq9 hb9 => qb_b hb9 (spec_l1Add.calls a0_0 _ _ l0_1 _ _ l0_2 _ _ l0_3 a1 a2 t435 _ (Kd.C_below HR0_1.out (HQ _ hb9)) HC0_1.out (Kd.C_below HR0_2.out (HQ _ hb9)) HC0_2.out (Kd.C_below HR0_3.out (HQ _ hb9)) HC0_3.out A7.out))); (focus (rfl))) | (refine qb_callN 15 rfl ?_; apply qb_call 15 rfl Try.func88 (by kernel_rfl) rfl rfl; (focus rfl); (focus (exact fun wq9 hb9 => qb_b hb9 (spec_l1Add.calls a0_0 _ _ l0_1 _ _ l0_2 _ _ l0_3 t435 a3 t436 _ (Kd.C_below HR0_1.out (HQ _ hb9)) HC0_1.out (Kd.C_below HR0_2.out (HQ _ hb9)) HC0_2.out (Kd.C_below HR0_3.out (HQ _ hb9)) HC0_3.out A8.out))); (focus (rfl))) | (refine qb_callN 21 rfl ?_; apply qb_call 21 rfl Try.func88 (by kernel_rfl) rfl rfl; (focus rfl); (focus (exact fun wq9 hb9 => qb_b hb9 (spec_l1Add.calls a0_0 _ _ l0_1 _ _ l0_2 _ _ l0_3 a2 a3 t437 _ (Kd.C_below HR0_1.out (HQ _ hb9)) HC0_1.out (Kd.C_below HR0_2.out (HQ _ hb9)) HC0_2.out (Kd.C_below HR0_3.out (HQ _ hb9)) HC0_3.out A9.out))); (focus (rfl))) | (refine qb_callN 22 rfl ?_; apply qb_call 22 rfl Try.func88 (by kernel_rfl) rfl rfl; (focus rfl); (focus (exact fun wq9 hb9 => qb_b hb9 (spec_l1Add.calls a0_0 _ _ l0_1 _ _ l0_2 _ _ l0_3 a1 t437 t438 _ (Kd.C_below HR0_1.out (HQ _ hb9)) HC0_1.out (Kd.C_below HR0_2.out (HQ _ hb9)) HC0_2.out (Kd.C_below HR0_3.out (HQ _ hb9)) HC0_3.out A10.out))); (focus (rfl))) | (refine qb_callN 29 rfl ?_; apply qb_call 29 rfl Try.func89 (by kernel_rfl) rfl rfl; (focus rfl); (focus (exact fun wq9 hb9 => qb_b hb9 (spec_l1Mul.calls a0_0 _ _ l0_1 _ _ l0_2 _ _ l0_3 a1 a2 t439 _ (Kd.C_below HR0_1.out (HQ _ hb9)) HC0_1.out (Kd.C_below HR0_2.out (HQ _ hb9)) HC0_2.out (Kd.C_below HR0_3.out (HQ _ hb9)) HC0_3.out A12.out))); (focus (rfl))) | (refine qb_callN 31 rfl ?_; apply qb_call 31 rfl Try.func89 (by kernel_rfl) rfl rfl; (focus rfl); (focus (exact fun wq9 hb9 => qb_b hb9 (spec_l1Mul.calls a0_0 _ _ l0_1 _ _ l0_2 _ _ l0_3 t439 a3 t440 _ (Kd.C_below HR0_1.out (HQ _ hb9)) HC0_1.out (Kd.C_below HR0_2.out (HQ _ hb9)) HC0_2.out (Kd.C_below HR0_3.out (HQ _ hb9)) HC0_3.out A13.out))); (focus (rfl))) | (refine qb_callN 37 rfl ?_; apply qb_call 37 rfl Try.func89 (by kernel_rfl) rfl rfl; (focus rfl); (focus (exact fun wq9 hb9 => qb_b hb9 (spec_l1Mul.calls a0_0 _ _ l0_1 _ _ l0_2 _ _ l0_3 a2 a3 t441 _ (Kd.C_below HR0_1.out (HQ _ hb9)) HC0_1.out (Kd.C_below HR0_2.out (HQ _ hb9)) HC0_2.out (Kd.C_below HR0_3.out (HQ _ hb9)) HC0_3.out A14.out))); (focus (rfl))) | (refine qb_callN 38 rfl ?_; apply qb_call 38 rfl Try.func89 (by kernel_rfl) rfl rfl; (focus rfl); (focus (exact fun wq9 hb9 => qb_b hb9 (spec_l1Mul.calls a0_0 _ _ l0_1 _ _ l0_2 _ _ l0_3 a1 t441 t442 _ (Kd.C_below HR0_1.out (HQ _ hb9)) HC0_1.out (Kd.C_below HR0_2.out (HQ _ hb9)) HC0_2.out (Kd.C_below HR0_3.out (HQ _ hb9)) HC0_3.out A15.out))); (focus (rfl))) | (apply qb_val; (focus rfl); (focus (intro wq9 _; go_simp; with_reducible rfl))) | (apply qb_val; (focus rfl); (focus (intro wq9 hb9_; have hb9 : Below w6.heap.size w6 wq9 := hb9_; have BK434 := sd_ (blk_below BK434.out hb9); have hc9_434_0 : wq9.cell? ⟨gb434, 0, none⟩ = some (.int .i64 a0_0) := (blk_cell BK434.out 0).trans rfl; have hc9_434_1 : wq9.cell? ⟨gb434, 1, none⟩ = some (.slice A0_1 l0_1.length c0_1) := (blk_cell BK434.out 1).trans rfl; have hc9_434_2 : wq9.cell? ⟨gb434, 2, none⟩ = some (.slice A0_2 l0_2.length c0_2) := (blk_cell BK434.out 2).trans rfl; have hc9_434_3 : wq9.cell? ⟨gb434, 3, none⟩ = some (.slice A0_3 l0_3.length c0_3) := (blk_cell BK434.out 3).trans rfl; go_simp; with_reducible rfl)))); (focus (simp only [Act.put, List.setIfInBounds_toArray, List.set_cons_zero, List.set_cons_succ, i64_w, i32_w]; rfl)))
   refine qb_nil ?_
   intro w24 hb
   replace BK434 := sd_ (blk_below BK434.out hb)
   replace HB := sd_ (below_step HB.out hb)
   clear hb
   (try clear HQ)
   try go_wp2
   go_meet
   case rel => exact ⟨_, ((t440 != t442)), sm_, H', ⟨by first | omega | exact Nat.le_refl _⟩, ⟨by (with_reducible repeat (first | refine blk_drewN ?_ _ | refine blk_drew ?_ | refine blk_alloc ?_ _)); exact BK434.out⟩, ⟨bw1_ HB.out GE434.out⟩⟩
  ·rw [if_neg c11] at H
   have c11b0 : (t436 == t438) = false := beq_eq_false_iff_ne.mpr c11
   have c11b1 : (t436 != t438) = true := bne_iff_ne.mpr c11
   (first | rw [c11b0] | (simp only [i64_w, i32_w]; rw [c11b0]) | skip)
   have H' := sd_ H
   clear H
   try go_wp2
   refine qb_region (by kernel_rfl) (by kernel_rfl) ?_
   have HQ := fun (wq : World) (hq : Below w6.heap.size w6 wq) => below_step HB.out hq
   repeat ((first | (apply qb_skip; (focus rfl)) | (refine qb_callN 13 rfl ?_; apply qb_call 13 rfl Try.func88 (by kernel_rfl) rfl rfl; (focus rfl); (focus (exact fun wq9 hb9 => qb_b hb9 (spec_l1Add.calls a0_0 _ _ l0_1 _ _ l0_2 _ _ l0_3 a1 a2 t435 _ (Kd.C_below HR0_1.out (HQ _ hb9)) HC0_1.out (Kd.C_below HR0_2.out (HQ _ hb9)) HC0_2.out (Kd.C_below HR0_3.out (HQ _ hb9)) HC0_3.out A7.out))); (focus (rfl))) | (refine qb_callN 15 rfl ?_; apply qb_call 15 rfl Try.func88 (by kernel_rfl) rfl rfl; (focus rfl); (focus (exact fun wq9 hb9 => qb_b hb9 (spec_l1Add.calls a0_0 _ _ l0_1 _ _ l0_2 _ _ l0_3 t435 a3 t436 _ (Kd.C_below HR0_1.out (HQ _ hb9)) HC0_1.out (Kd.C_below HR0_2.out (HQ _ hb9)) HC0_2.out (Kd.C_below HR0_3.out (HQ _ hb9)) HC0_3.out A8.out))); (focus (rfl))) | (refine qb_callN 21 rfl ?_; apply qb_call 21 rfl Try.func88 (by kernel_rfl) rfl rfl; (focus rfl); (focus (exact fun wq9 hb9 => qb_b hb9 (spec_l1Add.calls a0_0 _ _ l0_1 _ _ l0_2 _ _ l0_3 a2 a3 t437 _ (Kd.C_below HR0_1.out (HQ _ hb9)) HC0_1.out (Kd.C_below HR0_2.out (HQ _ hb9)) HC0_2.out (Kd.C_below HR0_3.out (HQ _ hb9)) HC0_3.out A9.out))); (focus (rfl))) | (refine qb_callN 22 rfl ?_; apply qb_call 22 rfl Try.func88 (by kernel_rfl) rfl rfl; (focus rfl); (focus (exact fun wq9 hb9 => qb_b hb9 (spec_l1Add.calls a0_0 _ _ l0_1 _ _ l0_2 _ _ l0_3 a1 t437 t438 _ (Kd.C_below HR0_1.out (HQ _ hb9)) HC0_1.out (Kd.C_below HR0_2.out (HQ _ hb9)) HC0_2.out (Kd.C_below HR0_3.out (HQ _ hb9)) HC0_3.out A10.out))); (focus (rfl))) | (apply qb_val; (focus rfl); (focus (intro wq9 _; go_simp; with_reducible rfl))) | (apply qb_val; (focus rfl); (focus (intro wq9 hb9_; have hb9 : Below w6.heap.size w6 wq9 := hb9_; have BK434 := sd_ (blk_below BK434.out hb9); have hc9_434_0 : wq9.cell? ⟨gb434, 0, none⟩ = some (.int .i64 a0_0) := (blk_cell BK434.out 0).trans rfl; have hc9_434_1 : wq9.cell? ⟨gb434, 1, none⟩ = some (.slice A0_1 l0_1.length c0_1) := (blk_cell BK434.out 1).trans rfl; have hc9_434_2 : wq9.cell? ⟨gb434, 2, none⟩ = some (.slice A0_2 l0_2.length c0_2) := (blk_cell BK434.out 2).trans rfl; have hc9_434_3 : wq9.cell? ⟨gb434, 3, none⟩ = some (.slice A0_3 l0_3.length c0_3) := (blk_cell BK434.out 3).trans rfl; go_simp; with_reducible rfl)))); (focus (simp only [Act.put, List.setIfInBounds_toArray, List.set_cons_zero, List.set_cons_succ, i64_w, i32_w]; rfl)))
   refine qb_nil ?_
   intro w29 hb
   replace BK434 := sd_ (blk_below BK434.out hb)
   replace HB := sd_ (below_step HB.out hb)
   clear hb
   (try clear HQ)
   try go_wp2
   go_meet
   case rel => exact ⟨_, (true), sm_, H', ⟨by first | omega | exact Nat.le_refl _⟩, ⟨by (with_reducible repeat (first | refine blk_drewN ?_ _ | refine blk_drew ?_ | refine blk_alloc ?_ _)); exact BK434.out⟩, ⟨bw1_ HB.out GE434.out⟩⟩
 case rest =>
  clear HC5
  try clear c1
  try clear c10
  obtain ⟨kq, x40_4, rfl, HA, HJ4, BK434, HB⟩ := hcut
  cases kq with
  | zero => exact absurd HA.out (by simp [spec_l1Three.j0])
  | succ kj4 =>
   have H := HA.out
   clear HA
   simp only [spec_l1Three.j0] at H
   by_cases c30 : x40_4 = true
   ·subst c30
    have H1 : (some false) = some r := by rw [if_pos rfl] at H; exact H
    clear H
    have H := H1
    clear H1
    obtain rfl := Option.some.inj H
    go_wp2
    go_ret
    exact ⟨an_, bw1_ HB.out GE434.out⟩
   ·replace c30 := Bool.eq_false_iff.mpr c30
    subst c30
    have H1 : ((spec_l1Add.f a0_0 l0_1 l0_2 l0_3 a2 a3).bind fun t443 => ((spec_l1Mul.f a0_0 l0_1 l0_2 l0_3 a1 t443).bind fun t444 => ((spec_l1Mul.f a0_0 l0_1 l0_2 l0_3 a1 a2).bind fun t445 => ((spec_l1Mul.f a0_0 l0_1 l0_2 l0_3 a1 a3).bind fun t446 => ((spec_l1Add.f a0_0 l0_1 l0_2 l0_3 t445 t446).bind fun t447 => (if t444 = t447 then ((spec_l1Add.f a0_0 l0_1 l0_2 l0_3 a1 a2).bind fun t448 => ((spec_l1Mul.f a0_0 l0_1 l0_2 l0_3 t448 a3).bind fun t449 => ((spec_l1Mul.f a0_0 l0_1 l0_2 l0_3 a1 a3).bind fun t450 => ((spec_l1Mul.f a0_0 l0_1 l0_2 l0_3 a2 a3).bind fun t451 => ((spec_l1Add.f a0_0 l0_1 l0_2 l0_3 t450 t451).bind fun t452 => (spec_l1Three.j1 kj4 a1 a2 a3 (t449 != t452) a0_0 l0_1 l0_2 l0_3)))))) else (spec_l1Three.j1 kj4 a1 a2 a3 true a0_0 l0_1 l0_2 l0_3))))))) = some r := by rw [if_neg (show ¬ (false = true) by decide)] at H; exact H
    clear H
    have H := H1
    clear H1
    have HC31 := sd_ H
    clear H
    go_upto_region 3 with (fail)
    go_cut [78] (fun v78 wc => ∃ (kq : Nat) (x78_30 : Bool), v78 = .bool x78_30 ∧ Aside0 (spec_l1Three.j1 kq a1 a2 a3 x78_30 a0_0 l0_1 l0_2 l0_3 = some r) ∧ Aside0 (kq ≤ kj4) ∧ Aside0 (wc.heap[gb434]? = some (.cells #[.int .i64 a0_0, (.slice A0_1 l0_1.length c0_1), (.slice A0_2 l0_2.length c0_2), (.slice A0_3 l0_3.length c0_3)] 27 (0, 0))) ∧ Aside0 (Below w.heap.size w wc))
    case first =>
     have H := HC31.out
     clear HC31
     replace H := Option.bind_eq_some_iff.mp H
     obtain ⟨t443, A320, H⟩ := H
     try dsimp only at H
     have A32 := sd_ A320
     clear A320
     replace H := Option.bind_eq_some_iff.mp H
     obtain ⟨t444, A330, H⟩ := H
     try dsimp only at H
     have A33 := sd_ A330
     clear A330
     replace H := Option.bind_eq_some_iff.mp H
     obtain ⟨t445, A340, H⟩ := H
     try dsimp only at H
     have A34 := sd_ A340
     clear A340
     replace H := Option.bind_eq_some_iff.mp H
     obtain ⟨t446, A350, H⟩ := H
     try dsimp only at H
     have A35 := sd_ A350
     clear A350
     replace H := Option.bind_eq_some_iff.mp H
     obtain ⟨t447, A360, H⟩ := H
     try dsimp only at H
     have A36 := sd_ A360
     clear A360
     by_cases c37 : t444 = t447
     ·rw [if_pos c37] at H
      have c37b0 : (t444 == t447) = true := beq_iff_eq.mpr c37
      have c37b1 : (t444 != t447) = false := bne_eq_false_iff_eq.mpr c37
      clear c37
      (first | rw [c37b0] | (simp only [i64_w, i32_w]; rw [c37b0]) | skip)
      replace H := Option.bind_eq_some_iff.mp H
      obtain ⟨t448, A380, H⟩ := H
      try dsimp only at H
      have A38 := sd_ A380
      clear A380
      replace H := Option.bind_eq_some_iff.mp H
      obtain ⟨t449, A390, H⟩ := H
      try dsimp only at H
      have A39 := sd_ A390
      clear A390
      replace H := Option.bind_eq_some_iff.mp H
      obtain ⟨t450, A400, H⟩ := H
      try dsimp only at H
      have A40 := sd_ A400
      clear A400
      replace H := Option.bind_eq_some_iff.mp H
      obtain ⟨t451, A410, H⟩ := H
      try dsimp only at H
      have A41 := sd_ A410
      clear A410
      replace H := Option.bind_eq_some_iff.mp H
      obtain ⟨t452, A420, H⟩ := H
      try dsimp only at H
      have A42 := sd_ A420
      clear A420
      have H' := sd_ H
      clear H
      try go_wp2
      refine qb_region (by kernel_rfl) (by kernel_rfl) ?_
      have HQ := fun (wq : World) (hq : Below wc.heap.size wc wq) => below_step HB.out hq
      repeat ((first | (apply qb_skip; (focus rfl)) | (refine qb_callN 46 rfl ?_; apply qb_call 46 rfl Try.func88 (by kernel_rfl) rfl rfl; (focus rfl); (focus (exact fun wq9 hb9 => qb_b hb9 (spec_l1Add.calls a0_0 _ _ l0_1 _ _ l0_2 _ _ l0_3 a2 a3 t443 _ (Kd.C_below HR0_1.out (HQ _ hb9)) HC0_1.out (Kd.C_below HR0_2.out (HQ _ hb9)) HC0_2.out (Kd.C_below HR0_3.out (HQ _ hb9)) HC0_3.out A32.out))); (focus (rfl))) | (refine qb_callN 47 rfl ?_; apply qb_call 47 rfl Try.func89 (by kernel_rfl) rfl rfl; (focus rfl); (focus (exact fun wq9 hb9 => qb_b hb9 (spec_l1Mul.calls a0_0 _ _ l0_1 _ _ l0_2 _ _ l0_3 a1 t443 t444 _ (Kd.C_below HR0_1.out (HQ _ hb9)) HC0_1.out (Kd.C_below HR0_2.out (HQ _ hb9)) HC0_2.out (Kd.C_below HR0_3.out (HQ _ hb9)) HC0_3.out A33.out))); (focus (rfl))) | (refine qb_callN 52 rfl ?_; apply qb_call 52 rfl Try.func89 (by kernel_rfl) rfl rfl; (focus rfl); (focus (exact fun wq9 hb9 => qb_b hb9 (spec_l1Mul.calls a0_0 _ _ l0_1 _ _ l0_2 _ _ l0_3 a1 a2 t445 _ (Kd.C_below HR0_1.out (HQ _ hb9)) HC0_1.out (Kd.C_below HR0_2.out (HQ _ hb9)) HC0_2.out (Kd.C_below HR0_3.out (HQ _ hb9)) HC0_3.out A34.out))); (focus (rfl))) | (refine qb_callN 56 rfl ?_; apply qb_call 56 rfl Try.func89 (by kernel_rfl) rfl rfl; (focus rfl); (focus (exact fun wq9 hb9 => qb_b hb9 (spec_l1Mul.calls a0_0 _ _ l0_1 _ _ l0_2 _ _ l0_3 a1 a3 t446 _ (Kd.C_below HR0_1.out (HQ _ hb9)) HC0_1.out (Kd.C_below HR0_2.out (HQ _ hb9)) HC0_2.out (Kd.C_below HR0_3.out (HQ _ hb9)) HC0_3.out A35.out))); (focus (rfl))) | (refine qb_callN 57 rfl ?_; apply qb_call 57 rfl Try.func88 (by kernel_rfl) rfl rfl; (focus rfl); (focus (exact fun wq9 hb9 => qb_b hb9 (spec_l1Add.calls a0_0 _ _ l0_1 _ _ l0_2 _ _ l0_3 t445 t446 t447 _ (Kd.C_below HR0_1.out (HQ _ hb9)) HC0_1.out (Kd.C_below HR0_2.out (HQ _ hb9)) HC0_2.out (Kd.C_below HR0_3.out (HQ _ hb9)) HC0_3.out A36.out))); (focus (rfl))) | (refine qb_callN 64 rfl ?_; apply qb_call 64 rfl Try.func88 (by kernel_rfl) rfl rfl; (focus rfl); (focus (exact fun wq9 hb9 => qb_b hb9 (spec_l1Add.calls a0_0 _ _ l0_1 _ _ l0_2 _ _ l0_3 a1 a2 t448 _ (Kd.C_below HR0_1.out (HQ _ hb9)) HC0_1.out (Kd.C_below HR0_2.out (HQ _ hb9)) HC0_2.out (Kd.C_below HR0_3.out (HQ _ hb9)) HC0_3.out A38.out))); (focus (rfl))) | (refine qb_callN 66 rfl ?_; apply qb_call 66 rfl Try.func89 (by kernel_rfl) rfl rfl; (focus rfl); (focus (exact fun wq9 hb9 => qb_b hb9 (spec_l1Mul.calls a0_0 _ _ l0_1 _ _ l0_2 _ _ l0_3 t448 a3 t449 _ (Kd.C_below HR0_1.out (HQ _ hb9)) HC0_1.out (Kd.C_below HR0_2.out (HQ _ hb9)) HC0_2.out (Kd.C_below HR0_3.out (HQ _ hb9)) HC0_3.out A39.out))); (focus (rfl))) | (refine qb_callN 71 rfl ?_; apply qb_call 71 rfl Try.func89 (by kernel_rfl) rfl rfl; (focus rfl); (focus (exact fun wq9 hb9 => qb_b hb9 (spec_l1Mul.calls a0_0 _ _ l0_1 _ _ l0_2 _ _ l0_3 a1 a3 t450 _ (Kd.C_below HR0_1.out (HQ _ hb9)) HC0_1.out (Kd.C_below HR0_2.out (HQ _ hb9)) HC0_2.out (Kd.C_below HR0_3.out (HQ _ hb9)) HC0_3.out A40.out))); (focus (rfl))) | (refine qb_callN 75 rfl ?_; apply qb_call 75 rfl Try.func89 (by kernel_rfl) rfl rfl; (focus rfl); (focus (exact fun wq9 hb9 => qb_b hb9 (spec_l1Mul.calls a0_0 _ _ l0_1 _ _ l0_2 _ _ l0_3 a2 a3 t451 _ (Kd.C_below HR0_1.out (HQ _ hb9)) HC0_1.out (Kd.C_below HR0_2.out (HQ _ hb9)) HC0_2.out (Kd.C_below HR0_3.out (HQ _ hb9)) HC0_3.out A41.out))); (focus (rfl))) | (refine qb_callN 76 rfl ?_; apply qb_call 76 rfl Try.func88 (by kernel_rfl) rfl rfl; (focus rfl); (focus (exact fun wq9 hb9 => qb_b hb9 (spec_l1Add.calls a0_0 _ _ l0_1 _ _ l0_2 _ _ l0_3 t450 t451 t452 _ (Kd.C_below HR0_1.out (HQ _ hb9)) HC0_1.out (Kd.C_below HR0_2.out (HQ _ hb9)) HC0_2.out (Kd.C_below HR0_3.out (HQ _ hb9)) HC0_3.out A42.out))); (focus (rfl))) | (apply qb_val; (focus rfl); (focus (intro wq9 _; go_simp; with_reducible rfl))) | (apply qb_val; (focus rfl); (focus (intro wq9 hb9_; have hb9 : Below wc.heap.size wc wq9 := hb9_; have BK434 := sd_ (blk_below BK434.out hb9); have hc9_434_0 : wq9.cell? ⟨gb434, 0, none⟩ = some (.int .i64 a0_0) := (blk_cell BK434.out 0).trans rfl; have hc9_434_1 : wq9.cell? ⟨gb434, 1, none⟩ = some (.slice A0_1 l0_1.length c0_1) := (blk_cell BK434.out 1).trans rfl; have hc9_434_2 : wq9.cell? ⟨gb434, 2, none⟩ = some (.slice A0_2 l0_2.length c0_2) := (blk_cell BK434.out 2).trans rfl; have hc9_434_3 : wq9.cell? ⟨gb434, 3, none⟩ = some (.slice A0_3 l0_3.length c0_3) := (blk_cell BK434.out 3).trans rfl; go_simp; with_reducible rfl)))); (focus (simp only [Act.put, List.setIfInBounds_toArray, List.set_cons_zero, List.set_cons_succ, i64_w, i32_w]; rfl)))
      refine qb_nil ?_
      intro w53 hb
      replace BK434 := sd_ (blk_below BK434.out hb)
      replace HB := sd_ (below_step HB.out hb)
      clear hb
      (try clear HQ)
      try go_wp2
      go_meet
      case rel => exact ⟨_, ((t449 != t452)), sm_, H', ⟨by have := HJ4.out; first | omega | exact Nat.le_refl _⟩, ⟨by (with_reducible repeat (first | refine blk_drewN ?_ _ | refine blk_drew ?_ | refine blk_alloc ?_ _)); exact BK434.out⟩, ⟨bw1_ HB.out GE434.out⟩⟩
     ·rw [if_neg c37] at H
      have c37b0 : (t444 == t447) = false := beq_eq_false_iff_ne.mpr c37
      have c37b1 : (t444 != t447) = true := bne_iff_ne.mpr c37
      (first | rw [c37b0] | (simp only [i64_w, i32_w]; rw [c37b0]) | skip)
      have H' := sd_ H
      clear H
      try go_wp2
      refine qb_region (by kernel_rfl) (by kernel_rfl) ?_
      have HQ := fun (wq : World) (hq : Below wc.heap.size wc wq) => below_step HB.out hq
      repeat ((first | (apply qb_skip; (focus rfl)) | (refine qb_callN 46 rfl ?_; apply qb_call 46 rfl Try.func88 (by kernel_rfl) rfl rfl; (focus rfl); (focus (exact fun wq9 hb9 => qb_b hb9 (spec_l1Add.calls a0_0 _ _ l0_1 _ _ l0_2 _ _ l0_3 a2 a3 t443 _ (Kd.C_below HR0_1.out (HQ _ hb9)) HC0_1.out (Kd.C_below HR0_2.out (HQ _ hb9)) HC0_2.out (Kd.C_below HR0_3.out (HQ _ hb9)) HC0_3.out A32.out))); (focus (rfl))) | (refine qb_callN 47 rfl ?_; apply qb_call 47 rfl Try.func89 (by kernel_rfl) rfl rfl; (focus rfl); (focus (exact fun wq9 hb9 => qb_b hb9 (spec_l1Mul.calls a0_0 _ _ l0_1 _ _ l0_2 _ _ l0_3 a1 t443 t444 _ (Kd.C_below HR0_1.out (HQ _ hb9)) HC0_1.out (Kd.C_below HR0_2.out (HQ _ hb9)) HC0_2.out (Kd.C_below HR0_3.out (HQ _ hb9)) HC0_3.out A33.out))); (focus (rfl))) | (refine qb_callN 52 rfl ?_; apply qb_call 52 rfl Try.func89 (by kernel_rfl) rfl rfl; (focus rfl); (focus (exact fun wq9 hb9 => qb_b hb9 (spec_l1Mul.calls a0_0 _ _ l0_1 _ _ l0_2 _ _ l0_3 a1 a2 t445 _ (Kd.C_below HR0_1.out (HQ _ hb9)) HC0_1.out (Kd.C_below HR0_2.out (HQ _ hb9)) HC0_2.out (Kd.C_below HR0_3.out (HQ _ hb9)) HC0_3.out A34.out))); (focus (rfl))) | (refine qb_callN 56 rfl ?_; apply qb_call 56 rfl Try.func89 (by kernel_rfl) rfl rfl; (focus rfl); (focus (exact fun wq9 hb9 => qb_b hb9 (spec_l1Mul.calls a0_0 _ _ l0_1 _ _ l0_2 _ _ l0_3 a1 a3 t446 _ (Kd.C_below HR0_1.out (HQ _ hb9)) HC0_1.out (Kd.C_below HR0_2.out (HQ _ hb9)) HC0_2.out (Kd.C_below HR0_3.out (HQ _ hb9)) HC0_3.out A35.out))); (focus (rfl))) | (refine qb_callN 57 rfl ?_; apply qb_call 57 rfl Try.func88 (by kernel_rfl) rfl rfl; (focus rfl); (focus (exact fun wq9 hb9 => qb_b hb9 (spec_l1Add.calls a0_0 _ _ l0_1 _ _ l0_2 _ _ l0_3 t445 t446 t447 _ (Kd.C_below HR0_1.out (HQ _ hb9)) HC0_1.out (Kd.C_below HR0_2.out (HQ _ hb9)) HC0_2.out (Kd.C_below HR0_3.out (HQ _ hb9)) HC0_3.out A36.out))); (focus (rfl))) | (apply qb_val; (focus rfl); (focus (intro wq9 _; go_simp; with_reducible rfl))) | (apply qb_val; (focus rfl); (focus (intro wq9 hb9_; have hb9 : Below wc.heap.size wc wq9 := hb9_; have BK434 := sd_ (blk_below BK434.out hb9); have hc9_434_0 : wq9.cell? ⟨gb434, 0, none⟩ = some (.int .i64 a0_0) := (blk_cell BK434.out 0).trans rfl; have hc9_434_1 : wq9.cell? ⟨gb434, 1, none⟩ = some (.slice A0_1 l0_1.length c0_1) := (blk_cell BK434.out 1).trans rfl; have hc9_434_2 : wq9.cell? ⟨gb434, 2, none⟩ = some (.slice A0_2 l0_2.length c0_2) := (blk_cell BK434.out 2).trans rfl; have hc9_434_3 : wq9.cell? ⟨gb434, 3, none⟩ = some (.slice A0_3 l0_3.length c0_3) := (blk_cell BK434.out 3).trans rfl; go_simp; with_reducible rfl)))); (focus (simp only [Act.put, List.setIfInBounds_toArray, List.set_cons_zero, List.set_cons_succ, i64_w, i32_w]; rfl)))
      refine qb_nil ?_
      intro w59 hb
      replace BK434 := sd_ (blk_below BK434.out hb)
      replace HB := sd_ (below_step HB.out hb)
      clear hb
      (try clear HQ)
      try go_wp2
      go_meet
      case rel => exact ⟨_, (true), sm_, H', ⟨by have := HJ4.out; first | omega | exact Nat.le_refl _⟩, ⟨by (with_reducible repeat (first | refine blk_drewN ?_ _ | refine blk_drew ?_ | refine blk_alloc ?_ _)); exact BK434.out⟩, ⟨bw1_ HB.out GE434.out⟩⟩
    case rest =>
     clear HC31
     try clear c1
     try clear c3
     try clear c10
     try clear c30
     obtain ⟨kq, x78_30, rfl, HA, HJ30, BK434, HB⟩ := hcut
     cases kq with
     | zero => exact absurd HA.out (by simp [spec_l1Three.j1])
     | succ kj30 =>
      have H := HA.out
      clear HA
      simp only [spec_l1Three.j1] at H
      by_cases c60 : x78_30 = true
      ·subst c60
       have H1 : (some false) = some r := by rw [if_pos rfl] at H; exact H
       clear H
       have H := H1
       clear H1
       obtain rfl := Option.some.inj H
       go_wp2
       go_ret
       exact ⟨an_, bw1_ HB.out GE434.out⟩
      ·replace c60 := Bool.eq_false_iff.mpr c60
       subst c60
       have H1 : ((spec_l1Le.f a0_0 l0_1 l0_2 l0_3 a1 a2).bind fun t453 => (if t453 = true then ((spec_l1Le.f a0_0 l0_1 l0_2 l0_3 a2 a3).bind fun t454 => (if t454 = true then ((spec_l1Le.f a0_0 l0_1 l0_2 l0_3 a1 a3).bind fun t455 => (spec_l1Three.j2 kj30 a1 a2 a3 (!t455) a0_0 l0_1 l0_2 l0_3)) else (spec_l1Three.j2 kj30 a1 a2 a3 false a0_0 l0_1 l0_2 l0_3))) else (some true))) = some r := by rw [if_neg (show ¬ (false = true) by decide)] at H; exact H
       clear H
       have H := H1
       clear H1
       replace H := Option.bind_eq_some_iff.mp H
       obtain ⟨t453, A610, H⟩ := H
       try dsimp only at H
       have A61 := sd_ A610
       clear A610
       by_cases c62 : t453 = true
       ·subst c62
        have H1 : ((spec_l1Le.f a0_0 l0_1 l0_2 l0_3 a2 a3).bind fun t454 => (if t454 = true then ((spec_l1Le.f a0_0 l0_1 l0_2 l0_3 a1 a3).bind fun t455 => (spec_l1Three.j2 kj30 a1 a2 a3 (!t455) a0_0 l0_1 l0_2 l0_3)) else (spec_l1Three.j2 kj30 a1 a2 a3 false a0_0 l0_1 l0_2 l0_3))) = some r := by rw [if_pos rfl] at H; exact H
        clear H
        have H := H1
        clear H1
        have HC63 := sd_ H
        clear H
        obtain ⟨hcz64_0, hcz64_1, hcz64_2, hcz64_3, hfz64_0, hfz64_1, hfz64_2, hfz64_3⟩ := bf4_ BK434.out
        go_upto_region 7 with (first | ((with_reducible refine gate_callee (f := 90) rfl ?_); refine goesL_ (some 82) rfl rfl Try.func90 (by kernel_rfl) rfl #[.agg #[.int .i64 a0_0, .slice A0_1 l0_1.length c0_1, .slice A0_2 l0_2.length c0_2, .slice A0_3 l0_3.length c0_3], .int .i64 a1, .int .i64 a2] rfl la_ ?_; (with_reducible refine (spec_l1Le.calls a0_0 _ _ l0_1 _ _ l0_2 _ _ l0_3 a1 a2 true _ (kc_ HR0_1.out HB.out) HC0_1.out (kc_ HR0_2.out HB.out) HC0_2.out (kc_ HR0_3.out HB.out) HC0_3.out A61.out).mono ?_); rintro e w65 ⟨rfl, hb⟩; refine ⟨_, rfl, ?_⟩; replace BK434 := sd_ (bb_ BK434.out hb); replace HB := sd_ (below_step (bw1_ HB.out GE434.out) hb); (try clear hb)))
        (try simp only [Act.put, List.setIfInBounds_toArray, List.set_cons_zero, List.set_cons_succ])
        go_cut [94] (fun v94 wc => ∃ (kq : Nat) (x94_62 : Bool), v94 = .bool x94_62 ∧ Aside0 (spec_l1Three.j2 kq a1 a2 a3 x94_62 a0_0 l0_1 l0_2 l0_3 = some r) ∧ Aside0 (kq ≤ kj30) ∧ Aside0 (wc.heap[gb434]? = some (.cells #[.int .i64 a0_0, (.slice A0_1 l0_1.length c0_1), (.slice A0_2 l0_2.length c0_2), (.slice A0_3 l0_3.length c0_3)] 27 (0, 0))) ∧ Aside0 (Below w.heap.size w wc))
        case first =>
         have H := HC63.out
         clear HC63
         replace H := Option.bind_eq_some_iff.mp H
         obtain ⟨t454, A660, H⟩ := H
         try dsimp only at H
         have A66 := sd_ A660
         clear A660
         by_cases c67 : t454 = true
         ·subst c67
          have H1 : ((spec_l1Le.f a0_0 l0_1 l0_2 l0_3 a1 a3).bind fun t455 => (spec_l1Three.j2 kj30 a1 a2 a3 (!t455) a0_0 l0_1 l0_2 l0_3)) = some r := by rw [if_pos rfl] at H; exact H
          clear H
          have H := H1
          clear H1
          replace H := Option.bind_eq_some_iff.mp H
          obtain ⟨t455, A680, H⟩ := H
          try dsimp only at H
          have A68 := sd_ A680
          clear A680
          have H' := sd_ H
          clear H
          obtain ⟨hcz69_0, hcz69_1, hcz69_2, hcz69_3, hfz69_0, hfz69_1, hfz69_2, hfz69_3⟩ := bf4_ BK434.out
          go_wp2_with (first | ((with_reducible refine gate_callee (f := 90) rfl ?_); refine goesL_ (some 87) rfl rfl Try.func90 (by kernel_rfl) rfl #[.agg #[.int .i64 a0_0, .slice A0_1 l0_1.length c0_1, .slice A0_2 l0_2.length c0_2, .slice A0_3 l0_3.length c0_3], .int .i64 a2, .int .i64 a3] rfl la_ ?_; (with_reducible refine (spec_l1Le.calls a0_0 _ _ l0_1 _ _ l0_2 _ _ l0_3 a2 a3 true _ (kc_ HR0_1.out HB.out) HC0_1.out (kc_ HR0_2.out HB.out) HC0_2.out (kc_ HR0_3.out HB.out) HC0_3.out A66.out).mono ?_); rintro e w70 ⟨rfl, hb⟩; refine ⟨_, rfl, ?_⟩; replace BK434 := sd_ (bb_ BK434.out hb); replace HB := sd_ (below_step (bw1_ HB.out GE434.out) hb); (try clear hb); obtain ⟨hcz71_0, hcz71_1, hcz71_2, hcz71_3, hfz71_0, hfz71_1, hfz71_2, hfz71_3⟩ := bf4_ BK434.out) | (go_at_call 90; (with_reducible refine (spec_l1Le.calls a0_0 _ _ l0_1 _ _ l0_2 _ _ l0_3 a1 a3 t455 _ (kc_ HR0_1.out HB.out) HC0_1.out (kc_ HR0_2.out HB.out) HC0_2.out (kc_ HR0_3.out HB.out) HC0_3.out A68.out).mono ?_); rintro e w72 ⟨rfl, hb⟩; replace BK434 := sd_ (bb_ BK434.out hb); replace HB := sd_ (below_step (bw1_ HB.out GE434.out) hb); (try clear hb)))
          go_meet
          case rel => exact ⟨_, (!t455), sm_, H', ⟨by have := HJ4.out; have := HJ30.out; first | omega | exact Nat.le_refl _⟩, ⟨by (with_reducible repeat (first | refine blk_drewN ?_ _ | refine blk_drew ?_ | refine blk_alloc ?_ _)); exact BK434.out⟩, ⟨bw1_ HB.out GE434.out⟩⟩
         ·replace c67 := Bool.eq_false_iff.mpr c67
          subst c67
          have H1 : (spec_l1Three.j2 kj30 a1 a2 a3 false a0_0 l0_1 l0_2 l0_3) = some r := by rw [if_neg (show ¬ (false = true) by decide)] at H; exact H
          clear H
          have H := H1
          clear H1
          have H' := sd_ H
          clear H
          obtain ⟨hcz73_0, hcz73_1, hcz73_2, hcz73_3, hfz73_0, hfz73_1, hfz73_2, hfz73_3⟩ := bf4_ BK434.out
          go_wp2_with (first | ((with_reducible refine gate_callee (f := 90) rfl ?_); refine goesL_ (some 87) rfl rfl Try.func90 (by kernel_rfl) rfl #[.agg #[.int .i64 a0_0, .slice A0_1 l0_1.length c0_1, .slice A0_2 l0_2.length c0_2, .slice A0_3 l0_3.length c0_3], .int .i64 a2, .int .i64 a3] rfl la_ ?_; (with_reducible refine (spec_l1Le.calls a0_0 _ _ l0_1 _ _ l0_2 _ _ l0_3 a2 a3 false _ (kc_ HR0_1.out HB.out) HC0_1.out (kc_ HR0_2.out HB.out) HC0_2.out (kc_ HR0_3.out HB.out) HC0_3.out A66.out).mono ?_); rintro e w74 ⟨rfl, hb⟩; refine ⟨_, rfl, ?_⟩; replace BK434 := sd_ (bb_ BK434.out hb); replace HB := sd_ (below_step (bw1_ HB.out GE434.out) hb); (try clear hb)))
          go_meet
          case rel => exact ⟨_, (false), sm_, H', ⟨by have := HJ4.out; have := HJ30.out; first | omega | exact Nat.le_refl _⟩, ⟨by (with_reducible repeat (first | refine blk_drewN ?_ _ | refine blk_drew ?_ | refine blk_alloc ?_ _)); exact BK434.out⟩, ⟨bw1_ HB.out GE434.out⟩⟩
        case rest =>
         clear HC63
         try clear c1
         try clear c3
         try clear c6
         try clear c9
         try clear c10
         try clear c30
         try clear c60
         try clear c62
         try clear hcz64_0
         try clear hcz64_1
         try clear hcz64_2
         try clear hcz64_3
         try clear hfz64_0
         try clear hfz64_1
         try clear hfz64_2
         try clear hfz64_3
         obtain ⟨kq, x94_62, rfl, HA, HJ62, BK434, HB⟩ := hcut
         cases kq with
         | zero => exact absurd HA.out (by simp [spec_l1Three.j2])
         | succ kj62 =>
          have H := HA.out
          clear HA
          simp only [spec_l1Three.j2] at H
          by_cases c75 : x94_62 = true
          ·subst c75
           have H1 : (some false) = some r := by rw [if_pos rfl] at H; exact H
           clear H
           have H := H1
           clear H1
           obtain rfl := Option.some.inj H
           go_wp2
           go_ret
           exact ⟨an_, bw1_ HB.out GE434.out⟩
          ·replace c75 := Bool.eq_false_iff.mpr c75
           subst c75
           have H1 : ((spec_l1Add.f a0_0 l0_1 l0_2 l0_3 a1 a3).bind fun t456 => ((spec_l1Add.f a0_0 l0_1 l0_2 l0_3 a2 a3).bind fun t457 => ((spec_l1Le.f a0_0 l0_1 l0_2 l0_3 t456 t457).bind fun t458 => (if t458 = true then ((spec_l1Mul.f a0_0 l0_1 l0_2 l0_3 a1 a3).bind fun t459 => ((spec_l1Mul.f a0_0 l0_1 l0_2 l0_3 a2 a3).bind fun t460 => ((spec_l1Le.f a0_0 l0_1 l0_2 l0_3 t459 t460).bind fun t461 => (if t461 = true then ((spec_l1Mul.f a0_0 l0_1 l0_2 l0_3 a3 a1).bind fun t462 => ((spec_l1Mul.f a0_0 l0_1 l0_2 l0_3 a3 a2).bind fun t463 => ((spec_l1Le.f a0_0 l0_1 l0_2 l0_3 t462 t463).bind fun t464 => (some t464)))) else (some false))))) else (some false))))) = some r := by rw [if_neg (show ¬ (false = true) by decide)] at H; exact H
           clear H
           have H := H1
           clear H1
           replace H := Option.bind_eq_some_iff.mp H
           obtain ⟨t456, A760, H⟩ := H
           try dsimp only at H
           have A76 := sd_ A760
           clear A760
           replace H := Option.bind_eq_some_iff.mp H
           obtain ⟨t457, A770, H⟩ := H
           try dsimp only at H
           have A77 := sd_ A770
           clear A770
           replace H := Option.bind_eq_some_iff.mp H
           obtain ⟨t458, A780, H⟩ := H
           try dsimp only at H
           have A78 := sd_ A780
           clear A780
           by_cases c79 : t458 = true
           ·subst c79
            have H1 : ((spec_l1Mul.f a0_0 l0_1 l0_2 l0_3 a1 a3).bind fun t459 => ((spec_l1Mul.f a0_0 l0_1 l0_2 l0_3 a2 a3).bind fun t460 => ((spec_l1Le.f a0_0 l0_1 l0_2 l0_3 t459 t460).bind fun t461 => (if t461 = true then ((spec_l1Mul.f a0_0 l0_1 l0_2 l0_3 a3 a1).bind fun t462 => ((spec_l1Mul.f a0_0 l0_1 l0_2 l0_3 a3 a2).bind fun t463 => ((spec_l1Le.f a0_0 l0_1 l0_2 l0_3 t462 t463).bind fun t464 => (some t464)))) else (some false))))) = some r := by rw [if_pos rfl] at H; exact H
            clear H
            have H := H1
            clear H1
            replace H := Option.bind_eq_some_iff.mp H
            obtain ⟨t459, A800, H⟩ := H
            try dsimp only at H
            have A80 := sd_ A800
            clear A800
            replace H := Option.bind_eq_some_iff.mp H
            obtain ⟨t460, A810, H⟩ := H
            try dsimp only at H
            have A81 := sd_ A810
            clear A810
            replace H := Option.bind_eq_some_iff.mp H
            obtain ⟨t461, A820, H⟩ := H
            try dsimp only at H
            have A82 := sd_ A820
            clear A820
            by_cases c83 : t461 = true
            ·subst c83
             have H1 : ((spec_l1Mul.f a0_0 l0_1 l0_2 l0_3 a3 a1).bind fun t462 => ((spec_l1Mul.f a0_0 l0_1 l0_2 l0_3 a3 a2).bind fun t463 => ((spec_l1Le.f a0_0 l0_1 l0_2 l0_3 t462 t463).bind fun t464 => (some t464)))) = some r := by rw [if_pos rfl] at H; exact H
             clear H
             have H := H1
             clear H1
             replace H := Option.bind_eq_some_iff.mp H
             obtain ⟨t462, A840, H⟩ := H
             try dsimp only at H
             have A84 := sd_ A840
             clear A840
             replace H := Option.bind_eq_some_iff.mp H
             obtain ⟨t463, A850, H⟩ := H
             try dsimp only at H
             have A85 := sd_ A850
             clear A850
             replace H := Option.bind_eq_some_iff.mp H
             obtain ⟨t464, A860, H⟩ := H
             try dsimp only at H
             have A86 := sd_ A860
             clear A860
             obtain rfl := Option.some.inj H
             try go_wp2
             refine qb_region (by kernel_rfl) (by kernel_rfl) ?_
             have HQ := fun (wq : World) (hq : Below wc.heap.size wc wq) => below_step HB.out hq
             repeat ((first | (apply qb_skip; (focus rfl)) | (refine qb_callN 99 rfl ?_; apply qb_call 99 rfl Try.func88 (by kernel_rfl) rfl rfl; (focus rfl); (focus (exact fun wq9 hb9 => qb_b hb9 (spec_l1Add.calls a0_0 _ _ l0_1 _ _ l0_2 _ _ l0_3 a1 a3 t456 _ (Kd.C_below HR0_1.out (HQ _ hb9)) HC0_1.out (Kd.C_below HR0_2.out (HQ _ hb9)) HC0_2.out (Kd.C_below HR0_3.out (HQ _ hb9)) HC0_3.out A76.out))); (focus (rfl))) | (refine qb_callN 103 rfl ?_; apply qb_call 103 rfl Try.func88 (by kernel_rfl) rfl rfl; (focus rfl); (focus (exact fun wq9 hb9 => qb_b hb9 (spec_l1Add.calls a0_0 _ _ l0_1 _ _ l0_2 _ _ l0_3 a2 a3 t457 _ (Kd.C_below HR0_1.out (HQ _ hb9)) HC0_1.out (Kd.C_below HR0_2.out (HQ _ hb9)) HC0_2.out (Kd.C_below HR0_3.out (HQ _ hb9)) HC0_3.out A77.out))); (focus (rfl))) | (refine qb_callN 104 rfl ?_; apply qb_call 104 rfl Try.func90 (by kernel_rfl) rfl rfl; (focus rfl); (focus (exact fun wq9 hb9 => qb_b hb9 (spec_l1Le.calls a0_0 _ _ l0_1 _ _ l0_2 _ _ l0_3 t456 t457 true _ (Kd.C_below HR0_1.out (HQ _ hb9)) HC0_1.out (Kd.C_below HR0_2.out (HQ _ hb9)) HC0_2.out (Kd.C_below HR0_3.out (HQ _ hb9)) HC0_3.out A78.out))); (focus (rfl))) | (refine qb_callN 110 rfl ?_; apply qb_call 110 rfl Try.func89 (by kernel_rfl) rfl rfl; (focus rfl); (focus (exact fun wq9 hb9 => qb_b hb9 (spec_l1Mul.calls a0_0 _ _ l0_1 _ _ l0_2 _ _ l0_3 a1 a3 t459 _ (Kd.C_below HR0_1.out (HQ _ hb9)) HC0_1.out (Kd.C_below HR0_2.out (HQ _ hb9)) HC0_2.out (Kd.C_below HR0_3.out (HQ _ hb9)) HC0_3.out A80.out))); (focus (rfl))) | (refine qb_callN 114 rfl ?_; apply qb_call 114 rfl Try.func89 (by kernel_rfl) rfl rfl; (focus rfl); (focus (exact fun wq9 hb9 => qb_b hb9 (spec_l1Mul.calls a0_0 _ _ l0_1 _ _ l0_2 _ _ l0_3 a2 a3 t460 _ (Kd.C_below HR0_1.out (HQ _ hb9)) HC0_1.out (Kd.C_below HR0_2.out (HQ _ hb9)) HC0_2.out (Kd.C_below HR0_3.out (HQ _ hb9)) HC0_3.out A81.out))); (focus (rfl))) | (refine qb_callN 115 rfl ?_; apply qb_call 115 rfl Try.func90 (by kernel_rfl) rfl rfl; (focus rfl); (focus (exact fun wq9 hb9 => qb_b hb9 (spec_l1Le.calls a0_0 _ _ l0_1 _ _ l0_2 _ _ l0_3 t459 t460 true _ (Kd.C_below HR0_1.out (HQ _ hb9)) HC0_1.out (Kd.C_below HR0_2.out (HQ _ hb9)) HC0_2.out (Kd.C_below HR0_3.out (HQ _ hb9)) HC0_3.out A82.out))); (focus (rfl))) | (refine qb_callN 122 rfl ?_; apply qb_call 122 rfl Try.func89 (by kernel_rfl) rfl rfl; (focus rfl); (focus (exact fun wq9 hb9 => qb_b hb9 (spec_l1Mul.calls a0_0 _ _ l0_1 _ _ l0_2 _ _ l0_3 a3 a1 t462 _ (Kd.C_below HR0_1.out (HQ _ hb9)) HC0_1.out (Kd.C_below HR0_2.out (HQ _ hb9)) HC0_2.out (Kd.C_below HR0_3.out (HQ _ hb9)) HC0_3.out A84.out))); (focus (rfl))) | (refine qb_callN 126 rfl ?_; apply qb_call 126 rfl Try.func89 (by kernel_rfl) rfl rfl; (focus rfl); (focus (exact fun wq9 hb9 => qb_b hb9 (spec_l1Mul.calls a0_0 _ _ l0_1 _ _ l0_2 _ _ l0_3 a3 a2 t463 _ (Kd.C_below HR0_1.out (HQ _ hb9)) HC0_1.out (Kd.C_below HR0_2.out (HQ _ hb9)) HC0_2.out (Kd.C_below HR0_3.out (HQ _ hb9)) HC0_3.out A85.out))); (focus (rfl))) | (refine qb_callN 127 rfl ?_; apply qb_call 127 rfl Try.func90 (by kernel_rfl) rfl rfl; (focus rfl); (focus (exact fun wq9 hb9 => qb_b hb9 (spec_l1Le.calls a0_0 _ _ l0_1 _ _ l0_2 _ _ l0_3 t462 t463 t464 _ (Kd.C_below HR0_1.out (HQ _ hb9)) HC0_1.out (Kd.C_below HR0_2.out (HQ _ hb9)) HC0_2.out (Kd.C_below HR0_3.out (HQ _ hb9)) HC0_3.out A86.out))); (focus (rfl))) | (apply qb_val; (focus rfl); (focus (intro wq9 _; go_simp; with_reducible rfl))) | (apply qb_val; (focus rfl); (focus (intro wq9 hb9_; have hb9 : Below wc.heap.size wc wq9 := hb9_; have BK434 := sd_ (blk_below BK434.out hb9); have hc9_434_0 : wq9.cell? ⟨gb434, 0, none⟩ = some (.int .i64 a0_0) := (blk_cell BK434.out 0).trans rfl; have hc9_434_1 : wq9.cell? ⟨gb434, 1, none⟩ = some (.slice A0_1 l0_1.length c0_1) := (blk_cell BK434.out 1).trans rfl; have hc9_434_2 : wq9.cell? ⟨gb434, 2, none⟩ = some (.slice A0_2 l0_2.length c0_2) := (blk_cell BK434.out 2).trans rfl; have hc9_434_3 : wq9.cell? ⟨gb434, 3, none⟩ = some (.slice A0_3 l0_3.length c0_3) := (blk_cell BK434.out 3).trans rfl; go_simp; with_reducible rfl)))); (focus (simp only [Act.put, List.setIfInBounds_toArray, List.set_cons_zero, List.set_cons_succ, i64_w, i32_w]; rfl)))
             refine qb_nil ?_
             intro w96 hb
             replace BK434 := sd_ (blk_below BK434.out hb)
             replace HB := sd_ (below_step HB.out hb)
             clear hb
             (try clear HQ)
             try go_wp2
             go_ret
             exact ⟨an_, bw1_ HB.out GE434.out⟩
            ·replace c83 := Bool.eq_false_iff.mpr c83
             subst c83
             have H1 : (some false) = some r := by rw [if_neg (show ¬ (false = true) by decide)] at H; exact H
             clear H
             have H := H1
             clear H1
             obtain rfl := Option.some.inj H
             try go_wp2
             refine qb_region (by kernel_rfl) (by kernel_rfl) ?_
             have HQ := fun (wq : World) (hq : Below wc.heap.size wc wq) => below_step HB.out hq
             repeat ((first | (apply qb_skip; (focus rfl)) | (refine qb_callN 99 rfl ?_; apply qb_call 99 rfl Try.func88 (by kernel_rfl) rfl rfl; (focus rfl); (focus (exact fun wq9 hb9 => qb_b hb9 (spec_l1Add.calls a0_0 _ _ l0_1 _ _ l0_2 _ _ l0_3 a1 a3 t456 _ (Kd.C_below HR0_1.out (HQ _ hb9)) HC0_1.out (Kd.C_below HR0_2.out (HQ _ hb9)) HC0_2.out (Kd.C_below HR0_3.out (HQ _ hb9)) HC0_3.out A76.out))); (focus (rfl))) | (refine qb_callN 103 rfl ?_; apply qb_call 103 rfl Try.func88 (by kernel_rfl) rfl rfl; (focus rfl); (focus (exact fun wq9 hb9 => qb_b hb9 (spec_l1Add.calls a0_0 _ _ l0_1 _ _ l0_2 _ _ l0_3 a2 a3 t457 _ (Kd.C_below HR0_1.out (HQ _ hb9)) HC0_1.out (Kd.C_below HR0_2.out (HQ _ hb9)) HC0_2.out (Kd.C_below HR0_3.out (HQ _ hb9)) HC0_3.out A77.out))); (focus (rfl))) | (refine qb_callN 104 rfl ?_; apply qb_call 104 rfl Try.func90 (by kernel_rfl) rfl rfl; (focus rfl); (focus (exact fun wq9 hb9 => qb_b hb9 (spec_l1Le.calls a0_0 _ _ l0_1 _ _ l0_2 _ _ l0_3 t456 t457 true _ (Kd.C_below HR0_1.out (HQ _ hb9)) HC0_1.out (Kd.C_below HR0_2.out (HQ _ hb9)) HC0_2.out (Kd.C_below HR0_3.out (HQ _ hb9)) HC0_3.out A78.out))); (focus (rfl))) | (refine qb_callN 110 rfl ?_; apply qb_call 110 rfl Try.func89 (by kernel_rfl) rfl rfl; (focus rfl); (focus (exact fun wq9 hb9 => qb_b hb9 (spec_l1Mul.calls a0_0 _ _ l0_1 _ _ l0_2 _ _ l0_3 a1 a3 t459 _ (Kd.C_below HR0_1.out (HQ _ hb9)) HC0_1.out (Kd.C_below HR0_2.out (HQ _ hb9)) HC0_2.out (Kd.C_below HR0_3.out (HQ _ hb9)) HC0_3.out A80.out))); (focus (rfl))) | (refine qb_callN 114 rfl ?_; apply qb_call 114 rfl Try.func89 (by kernel_rfl) rfl rfl; (focus rfl); (focus (exact fun wq9 hb9 => qb_b hb9 (spec_l1Mul.calls a0_0 _ _ l0_1 _ _ l0_2 _ _ l0_3 a2 a3 t460 _ (Kd.C_below HR0_1.out (HQ _ hb9)) HC0_1.out (Kd.C_below HR0_2.out (HQ _ hb9)) HC0_2.out (Kd.C_below HR0_3.out (HQ _ hb9)) HC0_3.out A81.out))); (focus (rfl))) | (refine qb_callN 115 rfl ?_; apply qb_call 115 rfl Try.func90 (by kernel_rfl) rfl rfl; (focus rfl); (focus (exact fun wq9 hb9 => qb_b hb9 (spec_l1Le.calls a0_0 _ _ l0_1 _ _ l0_2 _ _ l0_3 t459 t460 false _ (Kd.C_below HR0_1.out (HQ _ hb9)) HC0_1.out (Kd.C_below HR0_2.out (HQ _ hb9)) HC0_2.out (Kd.C_below HR0_3.out (HQ _ hb9)) HC0_3.out A82.out))); (focus (rfl))) | (apply qb_val; (focus rfl); (focus (intro wq9 _; go_simp; with_reducible rfl))) | (apply qb_val; (focus rfl); (focus (intro wq9 hb9_; have hb9 : Below wc.heap.size wc wq9 := hb9_; have BK434 := sd_ (blk_below BK434.out hb9); have hc9_434_0 : wq9.cell? ⟨gb434, 0, none⟩ = some (.int .i64 a0_0) := (blk_cell BK434.out 0).trans rfl; have hc9_434_1 : wq9.cell? ⟨gb434, 1, none⟩ = some (.slice A0_1 l0_1.length c0_1) := (blk_cell BK434.out 1).trans rfl; have hc9_434_2 : wq9.cell? ⟨gb434, 2, none⟩ = some (.slice A0_2 l0_2.length c0_2) := (blk_cell BK434.out 2).trans rfl; have hc9_434_3 : wq9.cell? ⟨gb434, 3, none⟩ = some (.slice A0_3 l0_3.length c0_3) := (blk_cell BK434.out 3).trans rfl; go_simp; with_reducible rfl)))); (focus (simp only [Act.put, List.setIfInBounds_toArray, List.set_cons_zero, List.set_cons_succ, i64_w, i32_w]; rfl)))
             refine qb_nil ?_
             intro w103 hb
             replace BK434 := sd_ (blk_below BK434.out hb)
             replace HB := sd_ (below_step HB.out hb)
             clear hb
             (try clear HQ)
             try go_wp2
             go_ret
             exact ⟨an_, bw1_ HB.out GE434.out⟩
           ·replace c79 := Bool.eq_false_iff.mpr c79
            subst c79
            have H1 : (some false) = some r := by rw [if_neg (show ¬ (false = true) by decide)] at H; exact H
            clear H
            have H := H1
            clear H1
            obtain rfl := Option.some.inj H
            try go_wp2
            refine qb_region (by kernel_rfl) (by kernel_rfl) ?_
            have HQ := fun (wq : World) (hq : Below wc.heap.size wc wq) => below_step HB.out hq
            repeat ((first | (apply qb_skip; (focus rfl)) | (refine qb_callN 99 rfl ?_; apply qb_call 99 rfl Try.func88 (by kernel_rfl) rfl rfl; (focus rfl); (focus (exact fun wq9 hb9 => qb_b hb9 (spec_l1Add.calls a0_0 _ _ l0_1 _ _ l0_2 _ _ l0_3 a1 a3 t456 _ (Kd.C_below HR0_1.out (HQ _ hb9)) HC0_1.out (Kd.C_below HR0_2.out (HQ _ hb9)) HC0_2.out (Kd.C_below HR0_3.out (HQ _ hb9)) HC0_3.out A76.out))); (focus (rfl))) | (refine qb_callN 103 rfl ?_; apply qb_call 103 rfl Try.func88 (by kernel_rfl) rfl rfl; (focus rfl); (focus (exact fun wq9 hb9 => qb_b hb9 (spec_l1Add.calls a0_0 _ _ l0_1 _ _ l0_2 _ _ l0_3 a2 a3 t457 _ (Kd.C_below HR0_1.out (HQ _ hb9)) HC0_1.out (Kd.C_below HR0_2.out (HQ _ hb9)) HC0_2.out (Kd.C_below HR0_3.out (HQ _ hb9)) HC0_3.out A77.out))); (focus (rfl))) | (refine qb_callN 104 rfl ?_; apply qb_call 104 rfl Try.func90 (by kernel_rfl) rfl rfl; (focus rfl); (focus (exact fun wq9 hb9 => qb_b hb9 (spec_l1Le.calls a0_0 _ _ l0_1 _ _ l0_2 _ _ l0_3 t456 t457 false _ (Kd.C_below HR0_1.out (HQ _ hb9)) HC0_1.out (Kd.C_below HR0_2.out (HQ _ hb9)) HC0_2.out (Kd.C_below HR0_3.out (HQ _ hb9)) HC0_3.out A78.out))); (focus (rfl))) | (apply qb_val; (focus rfl); (focus (intro wq9 _; go_simp; with_reducible rfl))) | (apply qb_val; (focus rfl); (focus (intro wq9 hb9_; have hb9 : Below wc.heap.size wc wq9 := hb9_; have BK434 := sd_ (blk_below BK434.out hb9); have hc9_434_0 : wq9.cell? ⟨gb434, 0, none⟩ = some (.int .i64 a0_0) := (blk_cell BK434.out 0).trans rfl; have hc9_434_1 : wq9.cell? ⟨gb434, 1, none⟩ = some (.slice A0_1 l0_1.length c0_1) := (blk_cell BK434.out 1).trans rfl; have hc9_434_2 : wq9.cell? ⟨gb434, 2, none⟩ = some (.slice A0_2 l0_2.length c0_2) := (blk_cell BK434.out 2).trans rfl; have hc9_434_3 : wq9.cell? ⟨gb434, 3, none⟩ = some (.slice A0_3 l0_3.length c0_3) := (blk_cell BK434.out 3).trans rfl; go_simp; with_reducible rfl)))); (focus (simp only [Act.put, List.setIfInBounds_toArray, List.set_cons_zero, List.set_cons_succ, i64_w, i32_w]; rfl)))
            refine qb_nil ?_
            intro w107 hb
            replace BK434 := sd_ (blk_below BK434.out hb)
            replace HB := sd_ (below_step HB.out hb)
            clear hb
            (try clear HQ)
            try go_wp2
            go_ret
            exact ⟨an_, bw1_ HB.out GE434.out⟩
       ·replace c62 := Bool.eq_false_iff.mpr c62
        subst c62
        have H1 : (some true) = some r := by rw [if_neg (show ¬ (false = true) by decide)] at H; exact H
        clear H
        have H := H1
        clear H1
        obtain rfl := Option.some.inj H
        obtain ⟨hcz108_0, hcz108_1, hcz108_2, hcz108_3, hfz108_0, hfz108_1, hfz108_2, hfz108_3⟩ := bf4_ BK434.out
        go_wp2_with (first | ((with_reducible refine gate_callee (f := 90) rfl ?_); refine goesL_ (some 82) rfl rfl Try.func90 (by kernel_rfl) rfl #[.agg #[.int .i64 a0_0, .slice A0_1 l0_1.length c0_1, .slice A0_2 l0_2.length c0_2, .slice A0_3 l0_3.length c0_3], .int .i64 a1, .int .i64 a2] rfl la_ ?_; (with_reducible refine (spec_l1Le.calls a0_0 _ _ l0_1 _ _ l0_2 _ _ l0_3 a1 a2 false _ (kc_ HR0_1.out HB.out) HC0_1.out (kc_ HR0_2.out HB.out) HC0_2.out (kc_ HR0_3.out HB.out) HC0_3.out A61.out).mono ?_); rintro e w109 ⟨rfl, hb⟩; refine ⟨_, rfl, ?_⟩; replace BK434 := sd_ (bb_ BK434.out hb); replace HB := sd_ (below_step (bw1_ HB.out GE434.out) hb); (try clear hb)))
        go_ret
        exact ⟨an_, bw1_ HB.out GE434.out⟩

end Go.Proofs.Ytcdmnofomoadlaa.P
end
