-- Printed by this session's own program (wip/tools/mkprint.py) out of the translation. Not trusted: Lean checks it.
import Derived.Test.YtipfkicndjddgaaP0
import Derived.Test.YtipfkicndjddgaaPf103
/-! short words -/
namespace Go.Proofs.Ytipfkicndjddgaa.P
open Go.RowKit Go.Proofs.YtipfkicndjddgaaW.PrintWords Go.Proofs.YtipfkicndjddgaaW.PrintLast Go.Proofs.YtipfkicndjddgaaW.PrintMore
attribute [local go_sem] max2_int min2_int max_two min_two max_three min_three max_four min_four   -- for this text's walks alone
set_option linter.unusedVariables false
set_option linter.unusedSimpArgs false

/-! ### spec_l1Views: function 75 -/
mutual
def spec_l1Views.l0 : Nat → List Bool → List Int → Int → Int → List Int → List Int → List Bool → Option ((List (List Int)))
 | 0, _, _, _, _, _, _, _ => none
 | k + 1, x1, x7, x8, x233000, x233001, x233002, x233003 => if x8 < x233000 then (if 0 ≤ x8 then (if x8 < (x1.length : Int) then (if rdOf false x1 x8 = true then (if x7.length < 17592186044416 then (spec_l1Views.l0 k x1 (x7 ++ [x8]) (wrap64 (x8 + 1)) x233000 x233001 x233002 x233003) else (none)) else (spec_l1Views.l0 k x1 x7 (wrap64 (x8 + 1)) x233000 x233001 x233002 x233003)) else (none)) else (none)) else (some (([x7] : List (List Int))))
def spec_l1Views.l1 : Nat → List Bool → Int → List (List Int) → Int → Int → List Int → List Int → List Bool → Option ((List (List Int)))
 | 0, _, _, _, _, _, _, _, _ => none
 | k + 1, x1, x2, x9, x10, x233000, x233001, x233002, x233003 => if x10 < 2 then ((some (([] : List Bool) : List Bool)).bind fun y247 => (if y247.length + x1.length < 140737488355328 then ((some (y247 ++ x1 : List Bool)).bind fun y250 => (if 0 ≤ x2 then (if x2 < (y250.length : Int) then ((spec_l1Views.f k x233000 x233001 x233002 x233003 (y250.set (x2 : Int).toNat (x10 == 0)) (wrap64 (x2 + 1))).bind fun t254 => (if x9.length + t254.length < 5864062014805 then (spec_l1Views.l1 k x1 x2 (x9 ++ t254) (wrap64 (x10 + 1)) x233000 x233001 x233002 x233003) else (none))) else (none)) else (none))) else (none))) else (some x9)
def spec_l1Views.f : Nat → Int → List Int → List Int → List Bool → List Bool → Int → Option ((List (List Int)))
 | 0, _, _, _, _, _, _ => none
 | k + 1, a0_0, l0_1, l0_2, l0_3, l1, a2 => if a2 = a0_0 then ((spec_l1View.f k a0_0 l0_1 l0_2 l0_3 l1).bind fun t233 => (if t233 = true then (spec_l1Views.l0 k l1 (([] : List Int)) 0 a0_0 l0_1 l0_2 l0_3) else (some ([] : List (List Int))))) else (spec_l1Views.l1 k l1 a2 (([] : List (List Int))) 0 a0_0 l0_1 l0_2 l0_3)
end
set_option maxHeartbeats 8000000 in
set_option maxRecDepth 100000 in
theorem spec_l1Views.calls (k : Nat) : ∀ (a0_0 : Int) (A0_1 : Option Addr) (c0_1 : Nat) (l0_1 : List Int) (A0_2 : Option Addr) (c0_2 : Nat) (l0_2 : List Int) (A0_3 : Option Addr) (c0_3 : Nat) (l0_3 : List Bool) (A1 : Option Addr) (c1 : Nat) (l1 : List Bool) (a2 : Int) (r : List (List Int)) (w : World) (hr0_1 : Kd.C (Kd.int .i64) w A0_1 l0_1.length l0_1) (hc0_1 : l0_1.length ≤ c0_1) (hr0_2 : Kd.C (Kd.int .i64) w A0_2 l0_2.length l0_2) (hc0_2 : l0_2.length ≤ c0_2) (hr0_3 : Kd.C Kd.bool w A0_3 l0_3.length l0_3) (hc0_3 : l0_3.length ≤ c0_3) (hr1 : Kd.C Kd.bool w A1 l1.length l1) (hc1 : l1.length ≤ c1) (h : spec_l1Views.f k a0_0 l0_1 l0_2 l0_3 l1 a2 = some r),
  Calls Try.prog 75 #[.agg #[.int .i64 a0_0, .slice A0_1 l0_1.length c0_1, .slice A0_2 l0_2.length c0_2, .slice A0_3 l0_3.length c0_3], .slice A1 l1.length c1, .int .i64 a2] w fun e w' => ∃ v0_ : Value, e = .returned (v0_) ∧ Kd.N (Kd.slice 3 (Kd.int .i64)) 22 w' w.heap.size (fun k_ => (w.heap.size ≤ k_)) v0_ r ∧ Below w.heap.size w w' := by
 induction k using Nat.strongRecOn with
 | _ k ih =>
 intro a0_0 A0_1 c0_1 l0_1 A0_2 c0_2 l0_2 A0_3 c0_3 l0_3 A1 c1 l1 a2 r w hr0_1 hc0_1 hr0_2 hc0_2 hr0_3 hc0_3 hr1 hc1 h
 cases k with
 | zero => exact absurd h (by simp [spec_l1Views.f])
 | succ k =>
 simp only [spec_l1Views.f] at h
 have hu27 := Try.underlying27
 have HR0_1 := sd_ hr0_1
 have HC0_1 := sd_ hc0_1
 clear hr0_1 hc0_1
 have HR0_2 := sd_ hr0_2
 have HC0_2 := sd_ hc0_2
 clear hr0_2 hc0_2
 have HR0_3 := sd_ hr0_3
 have HC0_3 := sd_ hc0_3
 clear hr0_3 hc0_3
 have HR1 := sd_ hr1
 have HC1 := sd_ hc1
 clear hr1 hc1
 have HB := sd_ (Below.refl w.heap.size w)
 have H : (if a2 = a0_0 then ((spec_l1View.f k a0_0 l0_1 l0_2 l0_3 l1).bind fun t233 => (if t233 = true then (spec_l1Views.l0 k l1 (([] : List Int)) 0 a0_0 l0_1 l0_2 l0_3) else (some ([] : List (List Int))))) else (spec_l1Views.l1 k l1 a2 (([] : List (List Int))) 0 a0_0 l0_1 l0_2 l0_3)) = some r := h
 clear h
 have HP4 := sd_ H
 clear H
 go_enter Try.func75, Try.ntmps75
 go_upto_if 15 with (first | ((with_reducible refine gate_dst (N := 3) rfl ?_); refine bx_ (N := 3) (cs := #[.int .i64 a0_0, .slice A0_1 l0_1.length c0_1, .slice A0_2 l0_2.length c0_2, .slice A0_3 l0_3.length c0_3]) (t := 27) ?_; intro gb232 hg w5 hbox hb; have BK232 := sd_ (hbox); have GW232 := sd_ (gs_ hg (bw0_ HB.out)); have GE232 := sd_ (gs_ hg (bw0_ HB.out)); replace HB := sd_ (below_step (bw0_ HB.out) hb); clear hb hbox hg; obtain ⟨hcz6_0, hcz6_1, hcz6_2, hcz6_3, hfz6_0, hfz6_1, hfz6_2, hfz6_3⟩ := bf4_ BK232.out))
 have H := HP4.out
 clear HP4
 by_cases c7 : a2 = a0_0
 ·rw [if_pos c7] at H
  have c7b0 : (a2 == a0_0) = true := beq_iff_eq.mpr c7
  have c7b1 : (a2 != a0_0) = false := bne_eq_false_iff_eq.mpr c7
  clear c7
  (first | rw [c7b0] | (simp only [i64_w, i32_w]; rw [c7b0]) | skip)
  replace H := Option.bind_eq_some_iff.mp H
  obtain ⟨t233, A80, H⟩ := H
  try dsimp only at H
  have A8 := sd_ A80
  clear A80
  have HP9 := sd_ H
  clear H
  obtain ⟨hcz10_0, hcz10_1, hcz10_2, hcz10_3, hfz10_0, hfz10_1, hfz10_2, hfz10_3⟩ := bf4_ BK232.out
  go_upto_if 19 with (first | ((with_reducible refine gate_callee (f := 103) rfl ?_); refine goesL_ (some 18) rfl rfl Try.func103 (by kernel_rfl) rfl #[.agg #[.int .i64 a0_0, .slice A0_1 l0_1.length c0_1, .slice A0_2 l0_2.length c0_2, .slice A0_3 l0_3.length c0_3], .slice A1 l1.length c1] rfl la_ ?_; (with_reducible refine (spec_l1View.calls k a0_0 _ _ l0_1 _ _ l0_2 _ _ l0_3 _ _ l1 t233 _ (kc_ HR0_1.out HB.out) HC0_1.out (kc_ HR0_2.out HB.out) HC0_2.out (kc_ HR0_3.out HB.out) HC0_3.out (kc_ HR1.out HB.out) HC1.out A8.out).mono ?_); rintro e w11 ⟨rfl, hb⟩; refine ⟨_, rfl, ?_⟩; replace BK232 := sd_ (bb_ BK232.out hb); replace HB := sd_ (below_step (bw1_ HB.out GE232.out) hb); (try clear hb)))
  have H := HP9.out
  clear HP9
  by_cases c12 : t233 = true
  ·subst c12
   have H1 : (spec_l1Views.l0 k l1 (([] : List Int)) 0 a0_0 l0_1 l0_2 l0_3) = some r := by rw [if_pos rfl] at H; exact H
   clear H
   have H := H1
   clear H1
   obtain ⟨y234, hy234⟩ : ∃ y_ : List Int, y_ = (([] : List Int)) := ⟨_, rfl⟩
   replace H : (spec_l1Views.l0 k l1 y234 0 a0_0 l0_1 l0_2 l0_3) = some r := by first | (rw [hy234]; with_reducible exact H) | (have H2_ := (Option.bind_some _ _).symm.trans H; rw [hy234]; with_reducible exact H2_) | (have H2_ := (Option.bind_some _ _).symm.trans H; with_reducible exact H2_) | with_reducible exact H | (rw [hy234]; exact H) | exact H
   have Ny234 := sd_ hy234
   clear hy234
   have H' := sd_ H
   clear H
   go_wp2_with (first | ((with_reducible refine gate_dst (N := 20) rfl ?_); refine Kd.R_lit (Kd.int .i64) _ 3 ?hg (N := 20) ?hd (xs := ([] : List Int)) (inner := []) (ok := fun _ => True) (okp := fun _ => True) ?hr ?hp (fun _ hk => hk) trivial (Below.refl _ _) (Nat.le_refl _) (by simp) ?_; (case hd => rfl); (case hg => rfl); (case hr => first | (go_simp; done) | (go_simp; rfl)); (case hp => exact (Reps.none _ _)); intro v235 w13 ho14 hb hg_ hnew_; clear hg_ hnew_; (first | rw [← Ny234.out] at ho14 | (simp only [Int.reduceToNat] at ho14; rw [← Ny234.out] at ho14)); have HO236 := sd_ (Kd.R_lower (Kd.R_newM (M := fun k_ => (w.heap.size ≤ k_)) ho14 (below_size (bw1_ HB.out GE232.out)) (fun k_ h_ => h_)) (below_size (bw1_ HB.out GE232.out))); replace BK232 := sd_ (bb_ BK232.out hb); replace HB := sd_ (below_step (bw1_ HB.out GE232.out) hb); clear hb ho14))
   go_loopg [7, 8] k (fun kq v7 v8 w' => ∃ (x7_1 : List Int) (x8_1 : Int), v8 = .int .i64 x8_1 ∧ Aside0 (spec_l1Views.l0 kq l1 x7_1 x8_1 a0_0 l0_1 l0_2 l0_3 = some r) ∧ Aside0 (kq ≤ k) ∧ Aside0 (Kd.R (Kd.int .i64) 3 w' w.heap.size (fun k_ => (w.heap.size ≤ k_)) v7 x7_1) ∧ Aside0 (w'.heap[gb232]? = some (.cells #[.int .i64 a0_0, (.slice A0_1 l0_1.length c0_1), (.slice A0_2 l0_2.length c0_2), (.slice A0_3 l0_3.length c0_3)] 27 (0, 0))) ∧ Aside0 (Below w.heap.size w w'))
   case atStart => exact ⟨(y234), (0), sm_, H', ⟨Nat.le_refl _⟩, ⟨by (with_reducible repeat (first | apply Kd.R_alloc | apply Kd.R_drewN | apply Kd.R_drew)); exact Kd.R_mono HO236.out (fun _ hk => hk.1)⟩, ⟨by exact bz_ BK232.out⟩, ⟨bw1_ HB.out GE232.out⟩⟩
   case round =>
    clear H'
    try clear c1
    try clear p2
    try clear c7
    try clear c7b0
    try clear c7b1
    try clear c10
    try clear c12
    try clear hcz10_0
    try clear hcz10_1
    try clear hcz10_2
    try clear hcz10_3
    try clear hcz6_0
    try clear hcz6_1
    try clear hcz6_2
    try clear hcz6_3
    try clear hfz10_0
    try clear hfz10_1
    try clear hfz10_2
    try clear hfz10_3
    try clear hfz6_0
    try clear hfz6_1
    try clear hfz6_2
    try clear hfz6_3
    obtain ⟨x7_1, x8_1, rfl, HA, HK1, HO_7, BK232, HB⟩ := hrel
    cases gk with
    | zero => exact absurd HA.out (by simp [spec_l1Views.l0])
    | succ k1 =>
     have H := HA.out
     clear HA
     simp only [spec_l1Views.l0] at H
     by_cases c15 : x8_1 < a0_0
     ·rw [if_pos c15] at H
      have c15b0 : decide (x8_1 < a0_0) = true := decide_eq_true c15
      clear c15
      (first | rw [c15b0] | (simp only [i64_w, i32_w]; rw [c15b0]) | skip)
      by_cases c16 : 0 ≤ x8_1
      ·rw [if_pos c16] at H
       have c16b0 : decide (0 ≤ x8_1) = true := decide_eq_true c16
       clear c16
       by_cases c17 : x8_1 < (l1.length : Int)
       ·rw [if_pos c17] at H
        have c17b0 : decide (x8_1 < (l1.length : Int)) = true := decide_eq_true c17
        clear c17
        obtain ⟨bq18, hbq18⟩ : ∃ b_ : Bool, b_ = (rdOf false l1 x8_1) := ⟨_, rfl⟩
        replace H : (if bq18 = true then (if x7_1.length < 17592186044416 then (spec_l1Views.l0 k1 l1 (x7_1 ++ [x8_1]) (wrap64 (x8_1 + 1)) a0_0 l0_1 l0_2 l0_3) else (none)) else (spec_l1Views.l0 k1 l1 x7_1 (wrap64 (x8_1 + 1)) a0_0 l0_1 l0_2 l0_3)) = some r := by rw [← hbq18] at H; exact H
        have Nbq18 := sd_ hbq18
        clear hbq18
        by_cases c19 : bq18 = true
        ·subst c19
         have H1 : (if x7_1.length < 17592186044416 then (spec_l1Views.l0 k1 l1 (x7_1 ++ [x8_1]) (wrap64 (x8_1 + 1)) a0_0 l0_1 l0_2 l0_3) else (none)) = some r := by rw [if_pos rfl] at H; exact H
         clear H
         have H := H1
         clear H1
         by_cases c20 : x7_1.length < 17592186044416
         ·rw [if_pos c20] at H
          have LMc20 := sd_ c20
          clear c20
          obtain ⟨y238, hy238⟩ : ∃ y_ : List Int, y_ = (x7_1 ++ [x8_1]) := ⟨_, rfl⟩
          replace H : (spec_l1Views.l0 k1 l1 y238 (wrap64 (x8_1 + 1)) a0_0 l0_1 l0_2 l0_3) = some r := by first | (rw [hy238]; with_reducible exact H) | (have H2_ := (Option.bind_some _ _).symm.trans H; rw [hy238]; with_reducible exact H2_) | (have H2_ := (Option.bind_some _ _).symm.trans H; with_reducible exact H2_) | with_reducible exact H | (rw [hy238]; exact H) | exact H
          have Ny238 := sd_ hy238
          clear hy238
          have H' := sd_ H
          clear H
          obtain ⟨hcz21_0, hcz21_1, hcz21_2, hcz21_3, hfz21_0, hfz21_1, hfz21_2, hfz21_3⟩ := bf4_ BK232.out
          have p237 : 0 ≤ (x8_1 : Int) := dt_
          have q237 : x8_1 < (l1.length : Int) := dt_
          obtain ⟨ad237, e237, hx237_0⟩ := Kd.at_bool HR1.out x8_1 p237 q237
          (try rw [← Nbq18.out] at hx237_0)
          cases e237
          replace hx237_0 := (HB.out.cell (World.block_lt_of_cell? w _ hx237_0)).trans hx237_0
          replace p237 := eq_true p237
          replace q237 := eq_true q237
          go_wp2_with (first | ((with_reducible refine gate_builtin (b := .append) (xs := #[.tmp 31, .tmp 33]) rfl ?_); at_builtin; refine Kd.R_append (Kd.int .i64) (w0 := w) w.heap.size rfl (.tmp 31) (.tmp 33) 22 3 (.int .i64 0) 8 rfl Try.underlying22 info3 rfl (by decide) (by omega) u7 x7_1 x8_1 [.int .i64 x8_1] (fun k_ => (w.heap.size ≤ k_)) (fun _ => False) rfl rfl ?aP (fun _ hk => hk.elim) ?aF ?aO ?aB ?aS ?aL ?_; (case aP => exact rfl); (case aB => exact (bw1_ HB.out GE232.out)); (case aF => exact (fun k_ hk => (Nat.le_trans (below_size (bw1_ HB.out GE232.out)) hk))); (case aO => exact (ro_ HO_7.out)); (case aS => exact (below_size (bw1_ HB.out GE232.out))); (case aL => have := LMc20.out; omega); intro v239 w22 ho hb hg hat; rw [← Ny238.out] at ho; have n0_ := sd_ (blk_grown (g := gb232) (o := .cells #[.int .i64 a0_0, .slice A0_1 l0_1.length c0_1, .slice A0_2 l0_2.length c0_2, .slice A0_3 l0_3.length c0_3] 27 (0, 0)) (bz_ BK232.out) hg (Kd.R_ne HO_7.out BK232.out (by decide))); have n1_ := sd_ (hb); have n2_ := sd_ (ho); clear BK232; clear HB; clear HO_7; have BK232 := n0_; have HB := n1_; have HO240 := n2_; clear n0_ n1_ n2_; clear ho hb hg hat))
          go_roundg k1
          case measure => have := HK1.out; omega
          case rel => exact ⟨(y238), (wrap64 (x8_1 + 1)), sm_, H', ⟨by have := HK1.out; omega⟩, ⟨by (with_reducible repeat (first | apply Kd.R_alloc | apply Kd.R_drewN | apply Kd.R_drew)); exact HO240.out⟩, ⟨by exact bz_ BK232.out⟩, ⟨bw1_ HB.out GE232.out⟩⟩
         rw [if_neg c20] at H
         exact absurd H (by simp)
        replace c19 := Bool.eq_false_iff.mpr c19
        subst c19
        have H1 : (spec_l1Views.l0 k1 l1 x7_1 (wrap64 (x8_1 + 1)) a0_0 l0_1 l0_2 l0_3) = some r := by rw [if_neg (show ¬ (false = true) by decide)] at H; exact H
        clear H
        have H := H1
        clear H1
        have H' := sd_ H
        clear H
        obtain ⟨hcz23_0, hcz23_1, hcz23_2, hcz23_3, hfz23_0, hfz23_1, hfz23_2, hfz23_3⟩ := bf4_ BK232.out
        have p237 : 0 ≤ (x8_1 : Int) := dt_
        have q237 : x8_1 < (l1.length : Int) := dt_
        obtain ⟨ad237, e237, hx237_0⟩ := Kd.at_bool HR1.out x8_1 p237 q237
        (try rw [← Nbq18.out] at hx237_0)
        cases e237
        replace hx237_0 := (HB.out.cell (World.block_lt_of_cell? w _ hx237_0)).trans hx237_0
        replace p237 := eq_true p237
        replace q237 := eq_true q237
        go_wp2
        go_roundg k1
        case measure => have := HK1.out; omega
        case rel => exact ⟨(x7_1), (wrap64 (x8_1 + 1)), sm_, H', ⟨by have := HK1.out; omega⟩, ⟨by (with_reducible repeat (first | apply Kd.R_alloc | apply Kd.R_drewN | apply Kd.R_drew)); exact HO_7.out⟩, ⟨by exact bz_ BK232.out⟩, ⟨bw1_ HB.out GE232.out⟩⟩
       rw [if_neg c17] at H
       exact absurd H (by simp)
      rw [if_neg c16] at H
      exact absurd H (by simp)
     rw [if_neg c15] at H
     have c15b0 : decide (x8_1 < a0_0) = false := decide_eq_false c15
     clear c15
     (first | rw [c15b0] | (simp only [i64_w, i32_w]; rw [c15b0]) | skip)
     obtain ⟨y241, hy241⟩ : ∃ y_ : List (List Int), y_ = (([x7_1] : List (List Int))) := ⟨_, rfl⟩
     replace H : (some y241) = some r := by first | (rw [hy241]; with_reducible exact H) | (have H2_ := (Option.bind_some _ _).symm.trans H; rw [hy241]; with_reducible exact H2_) | (have H2_ := (Option.bind_some _ _).symm.trans H; with_reducible exact H2_) | with_reducible exact H | (rw [hy241]; exact H) | exact H
     have Ny241 := sd_ hy241
     clear hy241
     obtain rfl := Option.some.inj H
     obtain ⟨hcz24_0, hcz24_1, hcz24_2, hcz24_3, hfz24_0, hfz24_1, hfz24_2, hfz24_3⟩ := bf4_ BK232.out
     obtain ⟨Ao25, co25, eo25⟩ := Kd.R_slice HO_7.out
     subst eo25
     go_wp2_with (first | ((with_reducible refine gate_dst (N := 36) rfl ?_); refine Kd.N_lit (Kd.slice 3 (Kd.int .i64)) _ 22 ?hg (N' := 36) ?hd (xs := ([x7_1] : List (List Int))) (inner := [.slice Ao25 x7_1.length co25]) (ok := (fun k_ => (w.heap.size ≤ k_) ∧ k_ ≠ gb232)) (okp := (fun k_ => (w.heap.size ≤ k_) ∧ k_ ≠ gb232)) ?hr ?hp (fun _ hk => hk) ((show ∀ k_, wr.heap.size ≤ k_ → (fun k_ => (w.heap.size ≤ k_) ∧ k_ ≠ gb232) k_ from fun k_ hk => ⟨(Nat.le_trans (below_size (bw1_ HB.out GE232.out)) hk), Kd.freshB (g := gb232) (o := .cells #[.int .i64 a0_0, .slice A0_1 l0_1.length c0_1, .slice A0_2 l0_2.length c0_2, .slice A0_3 l0_3.length c0_3] 27 (0, 0)) (bz_ BK232.out) k_ hk⟩) _ (Nat.le_refl _)) (Below.refl _ _) (Nat.le_refl _) (by simp) ?_; (case hd => rfl); (case hg => rfl); (case hr => first | (go_simp; done) | (go_simp; rfl)); (case hp => exact (Reps.one (show Kd.FK (Kd.slice 3 (Kd.int .i64)) _ _ x7_1 [.slice Ao25 x7_1.length co25] from (Kd.FK_slice_mk (Kd.R_reads' (Kd.R_mono (ok' := (fun k_ => (w.heap.size ≤ k_) ∧ k_ ≠ gb232)) (Kd.R_types (HO_7.out) BK232.out (by decide)) (fun k_ hk => ⟨hk.1, hk.2⟩))).2.1 (Kd.R_F (Kd.R_mono (ok' := (fun k_ => (w.heap.size ≤ k_) ∧ k_ ≠ gb232)) (Kd.R_types (HO_7.out) BK232.out (by decide)) (fun k_ hk => ⟨hk.1, hk.2⟩))))) (Reps.none _ _))); intro v242 w26 ho27 hb hg_ hnew_; clear hg_ hnew_; (first | rw [← Ny241.out] at ho27 | (simp only [Int.reduceToNat] at ho27; rw [← Ny241.out] at ho27)); have n0_ := sd_ (Kd.N_lower ho27 (below_size (bw1_ HB.out GE232.out))); have n1_ := sd_ (bb_ BK232.out hb); have n2_ := sd_ (below_step (bw1_ HB.out GE232.out) hb); clear BK232; clear HB; clear HO_7; have HO243 := n0_; have BK232 := n1_; have HB := n2_; clear n0_ n1_ n2_; clear hb ho27))
     go_ret
     exact ⟨_, an_, by (with_reducible repeat (first | apply Kd.N_alloc | apply Kd.N_drewN | apply Kd.N_drew)); exact Kd.N_mono HO243.out (fun _ hk => hk.1), bw1_ HB.out GE232.out⟩
  replace c12 := Bool.eq_false_iff.mpr c12
  subst c12
  have H1 : (some ([] : List (List Int))) = some r := by rw [if_neg (show ¬ (false = true) by decide)] at H; exact H
  clear H
  have H := H1
  clear H1
  obtain rfl := Option.some.inj H
  go_wp2
  go_ret
  exact ⟨_, an_, by first | exact Kd.S_nil _ _ _ _ _ | exact Kd.N_nil _ _ _ _ _ | exact Kd.V_nil _ _ _ _ _ | exact Kd.Q_nil _ _ _ _ _ | exact Kd.R_nil _ _ _ _ _, bw1_ HB.out GE232.out⟩
 rw [if_neg c7] at H
 have c7b0 : (a2 == a0_0) = false := beq_eq_false_iff_ne.mpr c7
 have c7b1 : (a2 != a0_0) = true := bne_iff_ne.mpr c7
 (first | rw [c7b0] | (simp only [i64_w, i32_w]; rw [c7b0]) | skip)
 obtain ⟨y244, hy244⟩ : ∃ y_ : List (List Int), y_ = (([] : List (List Int))) := ⟨_, rfl⟩
 replace H : (spec_l1Views.l1 k l1 a2 y244 0 a0_0 l0_1 l0_2 l0_3) = some r := by first | (rw [hy244]; with_reducible exact H) | (have H2_ := (Option.bind_some _ _).symm.trans H; rw [hy244]; with_reducible exact H2_) | (have H2_ := (Option.bind_some _ _).symm.trans H; with_reducible exact H2_) | with_reducible exact H | (rw [hy244]; exact H) | exact H
 have Ny244 := sd_ hy244
 clear hy244
 have H' := sd_ H
 clear H
 go_wp2_with (first | ((with_reducible refine gate_dst (N := 37) rfl ?_); refine Kd.N_lit (Kd.slice 3 (Kd.int .i64)) _ 22 ?hg (N' := 37) ?hd (xs := ([] : List (List Int))) (inner := []) (ok := (fun k_ => (w.heap.size ≤ k_) ∧ k_ ≠ gb232)) (okp := (fun k_ => (w.heap.size ≤ k_) ∧ k_ ≠ gb232)) ?hr ?hp (fun _ hk => hk) ((show ∀ k_, w5.heap.size ≤ k_ → (fun k_ => (w.heap.size ≤ k_) ∧ k_ ≠ gb232) k_ from fun k_ hk => ⟨(Nat.le_trans (below_size (bw1_ HB.out GE232.out)) hk), Kd.freshB (g := gb232) (o := .cells #[.int .i64 a0_0, .slice A0_1 l0_1.length c0_1, .slice A0_2 l0_2.length c0_2, .slice A0_3 l0_3.length c0_3] 27 (0, 0)) (bz_ BK232.out) k_ hk⟩) _ (Nat.le_refl _)) (Below.refl _ _) (Nat.le_refl _) (by simp) ?_; (case hd => rfl); (case hg => rfl); (case hr => first | (go_simp; done) | (go_simp; rfl)); (case hp => exact (Reps.none _ _)); intro v245 w28 ho29 hb hg_ hnew_; clear hg_ hnew_; (first | rw [← Ny244.out] at ho29 | (simp only [Int.reduceToNat] at ho29; rw [← Ny244.out] at ho29)); have HO246 := sd_ (Kd.N_lower ho29 (below_size (bw1_ HB.out GE232.out))); replace BK232 := sd_ (bb_ BK232.out hb); replace HB := sd_ (below_step (bw1_ HB.out GE232.out) hb); clear hb ho29))
 go_loopg [9, 10] k (fun kq v9 v10 w' => ∃ (x9_1 : List (List Int)) (x10_1 : Int), v10 = .int .i64 x10_1 ∧ Aside0 (spec_l1Views.l1 kq l1 a2 x9_1 x10_1 a0_0 l0_1 l0_2 l0_3 = some r) ∧ Aside0 (kq ≤ k) ∧ Aside0 (Kd.N (Kd.slice 3 (Kd.int .i64)) 22 w' w.heap.size (fun k_ => (w.heap.size ≤ k_) ∧ k_ ≠ gb232) v9 x9_1) ∧ Aside0 (w'.heap[gb232]? = some (.cells #[.int .i64 a0_0, (.slice A0_1 l0_1.length c0_1), (.slice A0_2 l0_2.length c0_2), (.slice A0_3 l0_3.length c0_3)] 27 (0, 0))) ∧ Aside0 (Below w.heap.size w w'))
 case atStart => exact ⟨(y244), (0), sm_, H', ⟨Nat.le_refl _⟩, ⟨by (with_reducible repeat (first | apply Kd.N_alloc | apply Kd.N_drewN | apply Kd.N_drew)); exact HO246.out⟩, ⟨by exact bz_ BK232.out⟩, ⟨bw1_ HB.out GE232.out⟩⟩
 case round =>
  clear H'
  try clear c1
  try clear p2
  try clear c7
  try clear c7b0
  try clear c7b1
  try clear hcz6_0
  try clear hcz6_1
  try clear hcz6_2
  try clear hcz6_3
  try clear hfz6_0
  try clear hfz6_1
  try clear hfz6_2
  try clear hfz6_3
  obtain ⟨x9_1, x10_1, rfl, HA, HK1, HO_9, BK232, HB⟩ := hrel
  cases gk with
  | zero => exact absurd HA.out (by simp [spec_l1Views.l1])
  | succ k1 =>
   have H := HA.out
   clear HA
   simp only [spec_l1Views.l1] at H
   by_cases c30 : x10_1 < 2
   ·rw [if_pos c30] at H
    have c30b0 : decide (x10_1 < 2) = true := decide_eq_true c30
    clear c30
    obtain ⟨y247, hy247⟩ : ∃ y_ : List Bool, y_ = (([] : List Bool)) := ⟨_, rfl⟩
    replace H : (if y247.length + l1.length < 140737488355328 then ((some (y247 ++ l1 : List Bool)).bind fun y250 => (if 0 ≤ a2 then (if a2 < (y250.length : Int) then ((spec_l1Views.f k1 a0_0 l0_1 l0_2 l0_3 (y250.set (a2 : Int).toNat (x10_1 == 0)) (wrap64 (a2 + 1))).bind fun t254 => (if x9_1.length + t254.length < 5864062014805 then (spec_l1Views.l1 k1 l1 a2 (x9_1 ++ t254) (wrap64 (x10_1 + 1)) a0_0 l0_1 l0_2 l0_3) else (none))) else (none)) else (none))) else (none)) = some r := by first | (rw [hy247]; with_reducible exact H) | (have H2_ := (Option.bind_some _ _).symm.trans H; rw [hy247]; with_reducible exact H2_) | (have H2_ := (Option.bind_some _ _).symm.trans H; with_reducible exact H2_) | with_reducible exact H | (rw [hy247]; exact H) | exact H
    have Ny247 := sd_ hy247
    clear hy247
    by_cases c31 : y247.length + l1.length < 140737488355328
    ·rw [if_pos c31] at H
     have LMc31 := sd_ c31
     clear c31
     obtain ⟨y250, hy250⟩ : ∃ y_ : List Bool, y_ = (y247 ++ l1) := ⟨_, rfl⟩
     replace H : (if 0 ≤ a2 then (if a2 < (y250.length : Int) then ((spec_l1Views.f k1 a0_0 l0_1 l0_2 l0_3 (y250.set (a2 : Int).toNat (x10_1 == 0)) (wrap64 (a2 + 1))).bind fun t254 => (if x9_1.length + t254.length < 5864062014805 then (spec_l1Views.l1 k1 l1 a2 (x9_1 ++ t254) (wrap64 (x10_1 + 1)) a0_0 l0_1 l0_2 l0_3) else (none))) else (none)) else (none)) = some r := by first | (rw [hy250]; with_reducible exact H) | (have H2_ := (Option.bind_some _ _).symm.trans H; rw [hy250]; with_reducible exact H2_) | (have H2_ := (Option.bind_some _ _).symm.trans H; with_reducible exact H2_) | with_reducible exact H | (rw [hy250]; exact H) | exact H
     have Ny250 := sd_ hy250
     clear hy250
     by_cases c32 : 0 ≤ a2
     ·rw [if_pos c32] at H
      have c32b0 : decide (0 ≤ a2) = true := decide_eq_true c32
      clear c32
      by_cases c33 : a2 < (y250.length : Int)
      ·rw [if_pos c33] at H
       have c33b0 : decide (a2 < (y250.length : Int)) = true := decide_eq_true c33
       clear c33
       obtain ⟨y253, hy253⟩ : ∃ y_ : List Bool, y_ = (y250.set (a2 : Int).toNat (x10_1 == 0)) := ⟨_, rfl⟩
       replace H : ((spec_l1Views.f k1 a0_0 l0_1 l0_2 l0_3 y253 (wrap64 (a2 + 1))).bind fun t254 => (if x9_1.length + t254.length < 5864062014805 then (spec_l1Views.l1 k1 l1 a2 (x9_1 ++ t254) (wrap64 (x10_1 + 1)) a0_0 l0_1 l0_2 l0_3) else (none))) = some r := by first | (rw [hy253]; with_reducible exact H) | (have H2_ := (Option.bind_some _ _).symm.trans H; rw [hy253]; with_reducible exact H2_) | (have H2_ := (Option.bind_some _ _).symm.trans H; with_reducible exact H2_) | with_reducible exact H | (rw [hy253]; exact H) | exact H
       have Ny253 := sd_ hy253
       clear hy253
       replace H := Option.bind_eq_some_iff.mp H
       obtain ⟨t254, A350, H⟩ := H
       try dsimp only at H
       have A35 := sd_ A350
       clear A350
       by_cases c36 : x9_1.length + t254.length < 5864062014805
       ·rw [if_pos c36] at H
        have LMc36 := sd_ c36
        clear c36
        obtain ⟨y257, hy257⟩ : ∃ y_ : List (List Int), y_ = (x9_1 ++ t254) := ⟨_, rfl⟩
        replace H : (spec_l1Views.l1 k1 l1 a2 y257 (wrap64 (x10_1 + 1)) a0_0 l0_1 l0_2 l0_3) = some r := by first | (rw [hy257]; with_reducible exact H) | (have H2_ := (Option.bind_some _ _).symm.trans H; rw [hy257]; with_reducible exact H2_) | (have H2_ := (Option.bind_some _ _).symm.trans H; with_reducible exact H2_) | with_reducible exact H | (rw [hy257]; exact H) | exact H
        have Ny257 := sd_ hy257
        clear hy257
        have H' := sd_ H
        clear H
        go_wp2_with (first | ((with_reducible refine gate_dst (N := 42) rfl ?_); refine Kd.R_lit Kd.bool _ 4 ?hg (N := 42) ?hd (xs := ([] : List Bool)) (inner := []) (ok := fun _ => True) (okp := fun _ => True) ?hr ?hp (fun _ hk => hk) trivial (Below.refl _ _) (Nat.le_refl _) (by simp) ?_; (case hd => rfl); (case hg => rfl); (case hr => first | (go_simp; done) | (go_simp; rfl)); (case hp => exact (Reps.none _ _)); intro v248 w37 ho38 hb hg_ hnew_; clear hg_ hnew_; (first | rw [← Ny247.out] at ho38 | (simp only [Int.reduceToNat] at ho38; rw [← Ny247.out] at ho38)); replace HO_9 := sd_ (Kd.N_elder' (by (with_reducible repeat (first | apply Kd.N_alloc | apply Kd.N_drewN | apply Kd.N_drew)); exact HO_9.out) (Kd.R_base ho38) hb); have HO249 := sd_ (Kd.R_lower (Kd.R_newM (M := fun k_ => (w.heap.size ≤ k_)) ho38 (below_size (bw1_ HB.out GE232.out)) (fun k_ h_ => h_)) (below_size (bw1_ HB.out GE232.out))); replace BK232 := sd_ (bb_ BK232.out hb); replace HB := sd_ (below_step (bw1_ HB.out GE232.out) hb); clear hb ho38) | ((with_reducible refine gate_builtin (b := .append) (xs := #[.tmp 42, .tmp 43]) rfl ?_); at_builtin; refine Kd.R_append_rows Kd.bool (w0 := w) w.heap.size rfl (.tmp 42) (.tmp 43) 23 4 (.bool false) 1 rfl Try.underlying23 info4 rfl (by decide) (by omega) v248 y247 l1 _ _ _ (fun k_ => (w.heap.size ≤ k_)) (fun _ => False) rfl rfl ?aO ?aR (fun _ _ h => h) (fun _ h => h.elim) ?aF ?aB ?aS ?aL ?_; (case aR => exact kc_ HR1.out HB.out); (case aB => exact (bw1_ HB.out GE232.out)); (case aF => exact (fun k_ hk => (Nat.le_trans (below_size (bw1_ HB.out GE232.out)) hk))); (case aO => exact (by (with_reducible repeat (first | apply Kd.R_alloc | apply Kd.R_drewN | apply Kd.R_drew)); exact Kd.R_mono HO249.out (fun _ hk => hk.1))); (case aS => exact (below_size (bw1_ HB.out GE232.out))); (case aL => have := LMc31.out; omega); intro v251 w39 ho hb hg hat; rw [← Ny250.out] at ho; have n0_ := sd_ (Kd.N_afterv (ok := (fun k_ => (w.heap.size ≤ k_) ∧ k_ ≠ gb232)) (by (with_reducible repeat (first | apply Kd.N_alloc | apply Kd.N_drewN | apply Kd.N_drew)); exact HO_9.out) hg hat); have n1_ := sd_ (blk_grown (g := gb232) (o := .cells #[.int .i64 a0_0, .slice A0_1 l0_1.length c0_1, .slice A0_2 l0_2.length c0_2, .slice A0_3 l0_3.length c0_3] 27 (0, 0)) (bz_ BK232.out) hg (Kd.R_ne HO249.out BK232.out (by decide))); have n2_ := sd_ (hb); have n3_ := sd_ (ho); clear HO_9; clear BK232; clear HB; clear HO249; have HO_9 := n0_; have BK232 := n1_; have HB := n2_; have HO252 := n3_; clear n0_ n1_ n2_ n3_; clear ho hb hg hat; have p34 : 0 ≤ (a2 : Int) := dt_; have q34 : (a2 : Int) < ((y250.length : Int) : Int) := dt_; obtain ⟨go34, co34, eo34, gb34, gl34, cl34, HG34⟩ := Kd.R_form HO252.out (by omega); (first | cases eo34 | (injection eo34 with ea_ en_ ec_; (first | subst ea_ | (injection ea_ with ea_; subst ea_)); subst ec_; clear en_)); have GB34 := sd_ gb34; have GG34 := sd_ HG34; clear gb34 gl34 HG34; obtain ⟨hx34_0, hf34_0⟩ := Kd.R_celln false HO252.out (a2 : Int) p34 q34; replace p34 := eq_true p34; replace q34 := eq_true q34; obtain ⟨hy40_, hz40_⟩ := Kd.R_celln false HO252.out (a2 : Int) (dt_) (dt_); have HP40 := Kd.R_putg HO252.out (a2 : Int) (x10_1 == 0)) | ((with_reducible refine gate_store (t := 4) (p := 49) rfl ?_); refine store_event (t := 4) (p := 49) (v := ?vo_w41) (w1 := (w39.setCell ⟨go34, (a2 : Int).toNat, none⟩ (.bool (x10_1 == 0)))) ?hg ?ho ?hn ?hr ?_; (case ho => rfl); (case hg => rfl); (case hn => rfl); (case hr => first | (go_simp; done) | (go_simp; rfl)); intro w41 hw; have hg : w39.grownBy w41 (some go34) := (by rw [hw]; exact HP40.2); have hp_ : Kd.R Kd.bool 4 w41 w.heap.size (fun k_ => (w.heap.size ≤ k_)) (.slice (some ⟨go34, 0, none⟩) y250.length co34) y253 := (by rw [hw, Ny253.out]; exact HP40.1); clear HP40; replace HO_9 := sd_ (Kd.N_afterv (v := (.slice (some ⟨go34, 0, none⟩) y250.length co34)) (v1 := (.slice (some ⟨go34, 0, none⟩) y250.length co34)) (ok := (fun k_ => (w.heap.size ≤ k_) ∧ k_ ≠ gb232)) (by (with_reducible repeat (first | apply Kd.N_alloc | apply Kd.N_drewN | apply Kd.N_drew)); exact HO_9.out) hg (.inl rfl)); replace BK232 := sd_ (blk_grown (g := gb232) (o := .cells #[.int .i64 a0_0, .slice A0_1 l0_1.length c0_1, .slice A0_2 l0_2.length c0_2, .slice A0_3 l0_3.length c0_3] 27 (0, 0)) (bz_ BK232.out) hg (Kd.R_ne HO252.out BK232.out (by decide))); replace HO252 := sd_ (hp_); replace HB := sd_ ((by rw [hw]; exact below_set (HB.out) GB34.out : Below w.heap.size w w41)); clear hg hw hp_; obtain ⟨hcz42_0, hcz42_1, hcz42_2, hcz42_3, hfz42_0, hfz42_1, hfz42_2, hfz42_3⟩ := bf4_ BK232.out) | ((with_reducible refine gate_callee (f := 75) rfl ?_); refine goesL_ (some 55) rfl rfl Try.func75 (by kernel_rfl) rfl #[.agg #[.int .i64 a0_0, .slice A0_1 l0_1.length c0_1, .slice A0_2 l0_2.length c0_2, .slice A0_3 l0_3.length c0_3], .slice (some ⟨go34, 0, none⟩) y253.length co34, .int .i64 (wrap64 (a2 + 1))] rfl (by (try simp only [List.map_toArray, List.map_cons, List.map_nil]); first | done | (rw [show y253.length = y250.length from (Kd.R_reads' HO252.out).1.symm] <;> rfl) | rfl | (simp only [List.length_drop, List.length_take]; rfl)) ?_; (with_reducible refine (ih k1 (by have := HK1.out; omega) a0_0 _ _ l0_1 _ _ l0_2 _ _ l0_3 _ _ y253 (wrap64 (a2 + 1)) t254 _ ?side1 ?side2 ?side3 ?side4 ?side5 ?side6 ?side7 ?side8 A35.out).mono ?_); (case side1 => exact kc_ HR0_1.out HB.out); (case side2 => exact HC0_1.out); (case side3 => exact kc_ HR0_2.out HB.out); (case side4 => exact HC0_2.out); (case side5 => exact kc_ HR0_3.out HB.out); (case side6 => exact HC0_3.out); (case side7 => exact kp_ (Kd.R_reads' HO252.out).2.2); (case side8 => rw [show y253.length = y250.length from (Kd.R_reads' HO252.out).1.symm]; exact (Kd.R_reads' HO252.out).2.1); rintro e w43 ⟨v255, rfl, ho0, hb⟩; refine ⟨_, rfl, ?_⟩; have HO256 := sd_ (Kd.N_lower (Kd.N_mono (ok' := fun k_ => (w.heap.size ≤ k_) ∧ some k_ ≠ (u9 : Value).ownBlock ∧ some k_ ≠ (.slice (some ⟨go34, 0, none⟩) y250.length co34 : Value).ownBlock ∧ k_ ≠ gb232) ho0 (fun k_ hk_ => ⟨(Nat.le_trans (below_size (bw1_ HB.out GE232.out)) hk_), (Kd.fresh' (Kd.N_lt (by (with_reducible repeat (first | apply Kd.N_alloc | apply Kd.N_drewN | apply Kd.N_drew)); exact HO_9.out)) k_ hk_), (Kd.fresh' (Kd.R_lt (ro_ HO252.out)) k_ hk_), (Kd.freshB (g := gb232) (o := .cells #[.int .i64 a0_0, .slice A0_1 l0_1.length c0_1, .slice A0_2 l0_2.length c0_2, .slice A0_3 l0_3.length c0_3] 27 (0, 0)) (bz_ BK232.out) k_ hk_)⟩)) (below_size (bw1_ HB.out GE232.out))); replace HO_9 := sd_ (Kd.N_elder' (by (with_reducible repeat (first | apply Kd.N_alloc | apply Kd.N_drewN | apply Kd.N_drew)); exact HO_9.out) (Kd.N_base ho0) hb); replace HO252 := sd_ (Kd.R_below (ro_ HO252.out) hb); replace BK232 := sd_ (bb_ BK232.out hb); replace HB := sd_ (below_step (bw1_ HB.out GE232.out) hb); (try clear hb); (try clear ho0); obtain ⟨Ao45, co45, eo45⟩ := Kd.N_slice HO256.out; subst eo45) | ((with_reducible refine gate_builtin (b := .append) (xs := #[.tmp 50, .tmp 55]) rfl ?_); at_builtin; refine Kd.N_append_rows (Kd.slice 3 (Kd.int .i64)) (w0 := w) w.heap.size rfl (.tmp 50) (.tmp 55) 54 22 (.slice none 0 0) 24 rfl Try.underlying54 info22 rfl (by decide) (by omega) u9 x9_1 t254 _ _ _ (fun k_ => (w.heap.size ≤ k_) ∧ some k_ ≠ (.slice (some ⟨go34, 0, none⟩) y250.length co34 : Value).ownBlock ∧ k_ ≠ gb232) (fun k_ => ((fun k_ => (w.heap.size ≤ k_) ∧ some k_ ≠ (.slice (some ⟨go34, 0, none⟩) y250.length co34 : Value).ownBlock ∧ k_ ≠ gb232)) k_ ∧ some k_ ≠ (u9 : Value).ownBlock) rfl rfl ?aO ?aR (fun _ hk => hk) ?aF ?aB ?aS ?aL ?_; (case aR => exact (by skip; exact Kd.N_F (Kd.N_mono (ok' := (fun k_ => ((fun k_ => (w.heap.size ≤ k_) ∧ some k_ ≠ (.slice (some ⟨go34, 0, none⟩) y250.length co34 : Value).ownBlock ∧ k_ ≠ gb232)) k_ ∧ some k_ ≠ (u9 : Value).ownBlock)) (HO256.out) (fun k_ hk => ⟨⟨hk.1, ⟨hk.2.2.1, hk.2.2.2⟩⟩, hk.2.1⟩)))); (case aB => exact (bw1_ HB.out GE232.out)); (case aF => exact (fun k_ hk => ⟨(Nat.le_trans (below_size (bw1_ HB.out GE232.out)) hk), Kd.fresh' (Kd.R_lt (ro_ HO252.out)) k_ hk, Kd.freshB (g := gb232) (o := .cells #[.int .i64 a0_0, .slice A0_1 l0_1.length c0_1, .slice A0_2 l0_2.length c0_2, .slice A0_3 l0_3.length c0_3] 27 (0, 0)) (bz_ BK232.out) k_ hk⟩)); (case aO => exact (by (with_reducible repeat (first | apply Kd.N_alloc | apply Kd.N_drewN | apply Kd.N_drew)); exact Kd.N_mono HO_9.out (fun _ hk => ⟨hk.1.1.1, ⟨hk.1.2, hk.1.1.2⟩⟩))); (case aS => exact (below_size (bw1_ HB.out GE232.out))); (case aL => have := LMc36.out; omega); intro v258 w44 ho hb hg hat; rw [← Ny257.out] at ho; have n0_ := sd_ (blk_grown (g := gb232) (o := .cells #[.int .i64 a0_0, .slice A0_1 l0_1.length c0_1, .slice A0_2 l0_2.length c0_2, .slice A0_3 l0_3.length c0_3] 27 (0, 0)) (bz_ BK232.out) hg (Kd.N_ne HO_9.out BK232.out (by decide))); have n1_ := sd_ (Kd.R_over' (ro_ HO252.out) (Kd.N_typed (by (with_reducible repeat (first | apply Kd.N_alloc | apply Kd.N_drewN | apply Kd.N_drew)); exact HO_9.out)) (by decide) hg); have n2_ := sd_ (Kd.N_afterv (ok := (fun k_ => (w.heap.size ≤ k_) ∧ some k_ ≠ (.slice (some ⟨go34, 0, none⟩) y250.length co34 : Value).ownBlock ∧ k_ ≠ gb232)) (by (with_reducible repeat (first | apply Kd.N_alloc | apply Kd.N_drewN | apply Kd.N_drew)); exact Kd.N_mono HO256.out (fun _ hk => ⟨⟨hk.1, ⟨hk.2.2.1, hk.2.2.2⟩⟩, hk.2.1⟩)) hg hat); have n3_ := sd_ (hb); have n4_ := sd_ (ho); clear BK232; clear HO252; clear HO256; clear HB; clear HO_9; have BK232 := n0_; have HO252 := n1_; have HO256 := n2_; have HB := n3_; have HO259 := n4_; clear n0_ n1_ n2_ n3_ n4_; clear ho hb hg hat))
        go_roundg k1
        case measure => have := HK1.out; omega
        case rel => exact ⟨(y257), (wrap64 (x10_1 + 1)), sm_, H', ⟨by have := HK1.out; omega⟩, ⟨by (with_reducible repeat (first | apply Kd.N_alloc | apply Kd.N_drewN | apply Kd.N_drew)); exact Kd.N_mono HO259.out (fun _ hk => ⟨hk.1, hk.2.2⟩)⟩, ⟨by exact bz_ BK232.out⟩, ⟨bw1_ HB.out GE232.out⟩⟩
       rw [if_neg c36] at H
       exact absurd H (by simp)
      rw [if_neg c33] at H
      exact absurd H (by simp)
     rw [if_neg c32] at H
     exact absurd H (by simp)
    rw [if_neg c31] at H
    exact absurd H (by simp)
   rw [if_neg c30] at H
   have c30b0 : decide (x10_1 < 2) = false := decide_eq_false c30
   clear c30
   obtain rfl := Option.some.inj H
   go_wp2
   go_ret
   exact ⟨_, an_, by (with_reducible repeat (first | apply Kd.N_alloc | apply Kd.N_drewN | apply Kd.N_drew)); exact Kd.N_mono HO_9.out (fun _ hk => hk.1), bw1_ HB.out GE232.out⟩

end Go.Proofs.Ytipfkicndjddgaa.P
