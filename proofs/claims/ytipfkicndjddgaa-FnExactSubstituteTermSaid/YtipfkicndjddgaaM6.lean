-- Several texts in one (wip/tools/merge.py).
import Derived.Test.YtipfkicndjddgaaP0
import Derived.Test.YtipfkicndjddgaaM2
import Derived.Lib.SliceRun
section
namespace Go.Proofs.Ytipfkicndjddgaa.P
open Go.RowKit Go.Proofs.YtipfkicndjddgaaW.PrintWords Go.Proofs.YtipfkicndjddgaaW.PrintLast Go.Proofs.YtipfkicndjddgaaW.PrintMore
attribute [local go_sem] max2_int min2_int max_two min_two max_three min_three max_four min_four   -- for this text's walks alone
set_option linter.unusedVariables false
set_option linter.unusedSimpArgs false

/-! ### laws_heldTermS: function 67 -/
mutual
def laws_heldTermS.l0 : Nat → List (S40) → Int → Int → Option (Int)
 | 0, _, _, _ => none
 | k + 1, x0, x1, x5 => if x5 < (x0.length : Int) then (if 0 ≤ x5 then (if ((rd_T40 x0 x5).f0) = x1 then (if ((rd_T40 x0 x5).f1) = (wrap64 (x1 + 1)) then ((laws_heldIntS.f k ((rd_T40 x0 x5).f2) (wrap64 ((wrap64 (x1 + 1)) + 1))).bind fun t147 => (if t147 < 0 then (some (-1)) else ((laws_heldTermS.f k ((rd_T40 x0 x5).f3) t147).bind fun t149 => (if t149 < 0 then (some (-1)) else (laws_heldTermS.l0 k x0 t149 (wrap64 (x5 + 1))))))) else (some (-1))) else (some (-1))) else (none)) else (some x1)
def laws_heldTermS.f : Nat → List (S40) → Int → Option (Int)
 | 0, _, _ => none
 | k + 1, l0, a1 => laws_heldTermS.l0 k l0 a1 0
end
set_option maxHeartbeats 8000000 in
set_option maxRecDepth 100000 in
theorem laws_heldTermS.calls (k : Nat) : ∀ (A0 : Option Addr) (c0 : Nat) (l0 : List (S40)) (a1 : Int) (r : Int) (w : World) (hr0 : Kd.C k40 w A0 l0.length l0) (hc0 : l0.length ≤ c0) (h : laws_heldTermS.f k l0 a1 = some r),
  Calls Try.prog 67 #[.slice A0 l0.length c0, .int .i64 a1] w fun e w' => e = .returned (.int .i64 r) ∧ Drawn0 w w' := by
 induction k using Nat.strongRecOn with
 | _ k ih =>
 intro A0 c0 l0 a1 r w hr0 hc0 h
 cases k with
 | zero => exact absurd h (by simp [laws_heldTermS.f])
 | succ k =>
 simp only [laws_heldTermS.f] at h
 have HR0 := sd_ hr0
 have HC0 := sd_ hc0
 clear hr0 hc0
 have H : (laws_heldTermS.l0 k l0 a1 0) = some r := h
 clear h
 have H' := sd_ H
 clear H
 go_enter Try.func67, Try.ntmps67
 go_wp2
 go_loopg [1, 5] k (fun kq v1 v5 w' => ∃ (x1_1 : Int) (x5_1 : Int), v1 = .int .i64 x1_1 ∧ v5 = .int .i64 x5_1 ∧ Aside0 (laws_heldTermS.l0 kq l0 x1_1 x5_1 = some r) ∧ Aside0 (kq ≤ k) ∧ Drawn0 w w')
 case atStart => exact ⟨(a1), (0), sm_, sm_, H', ⟨Nat.le_refl _⟩, by repeat (first | exact Drawn0.refl _ | apply Drawn0.step)⟩
 case round =>
  clear H'
  try clear p2
  obtain ⟨x1_1, x5_1, rfl, rfl, HA, HK1, ⟨m1, rfl⟩⟩ := hrel
  cases gk with
  | zero => exact absurd HA.out (by simp [laws_heldTermS.l0])
  | succ k1 =>
   have H := HA.out
   clear HA
   simp only [laws_heldTermS.l0] at H
   by_cases c3 : x5_1 < (l0.length : Int)
   ·rw [if_pos c3] at H
    have c3b0 : decide (x5_1 < (l0.length : Int)) = true := decide_eq_true c3
    clear c3
    by_cases c4 : 0 ≤ x5_1
    ·rw [if_pos c4] at H
     have c4b0 : decide (0 ≤ x5_1) = true := decide_eq_true c4
     clear c4
     by_cases c5 : ((rd_T40 l0 x5_1).f0) = x1_1
     ·rw [if_pos c5] at H
      have c5b0 : (((rd_T40 l0 x5_1).f0) == x1_1) = true := beq_iff_eq.mpr c5
      have c5b1 : (((rd_T40 l0 x5_1).f0) != x1_1) = false := bne_eq_false_iff_eq.mpr c5
      clear c5
      by_cases c6 : ((rd_T40 l0 x5_1).f1) = (wrap64 (x1_1 + 1))
      ·rw [if_pos c6] at H
       have c6b0 : (((rd_T40 l0 x5_1).f1) == (wrap64 (x1_1 + 1))) = true := beq_iff_eq.mpr c6
       have c6b1 : (((rd_T40 l0 x5_1).f1) != (wrap64 (x1_1 + 1))) = false := bne_eq_false_iff_eq.mpr c6
       clear c6
       replace H := Option.bind_eq_some_iff.mp H
       obtain ⟨t147, A70, H⟩ := H
       try dsimp only at H
       have A7 := sd_ A70
       clear A70
       by_cases c8 : t147 < 0
       ·rw [if_pos c8] at H
        have c8b0 : decide (t147 < 0) = true := decide_eq_true c8
        clear c8
        obtain rfl := Option.some.inj H
        have p144 : 0 ≤ (x5_1 : Int) := dt_
        have q144 : x5_1 < (l0.length : Int) := dt_
        obtain ⟨ad144, A144_2, c144_2, A144_3, c144_3, e144, hx144_0, hx144_1, hx144_2, hx144_3, hl144_2, hi144_2, hl144_3, hi144_3⟩ := at_T40 HR0.out x5_1 p144 q144
        cases e144
        have HR144_2 := sd_ hi144_2
        have HC144_2 := sd_ hl144_2
        clear hi144_2 hl144_2
        have HR144_3 := sd_ hi144_3
        have HC144_3 := sd_ hl144_3
        clear hi144_3 hl144_3
        replace p144 := eq_true p144
        replace q144 := eq_true q144
        have p145 : 0 ≤ (x5_1 : Int) := dt_
        have q145 : x5_1 < (l0.length : Int) := dt_
        obtain ⟨ad145, A145_2, c145_2, A145_3, c145_3, e145, hx145_0, hx145_1, hx145_2, hx145_3, hl145_2, hi145_2, hl145_3, hi145_3⟩ := at_T40 HR0.out x5_1 p145 q145
        obtain rfl : ad144 = ad145 := (by injection e145)
        have HR145_2 := sd_ hi145_2
        have HC145_2 := sd_ hl145_2
        clear hi145_2 hl145_2
        have HR145_3 := sd_ hi145_3
        have HC145_3 := sd_ hl145_3
        clear hi145_3 hl145_3
        replace p145 := eq_true p145
        replace q145 := eq_true q145
        have ea_ := Option.some.inj (hx144_2.symm.trans hx145_2)
        injection ea_ with ea_ en_ ec_
        subst ea_
        subst ec_
        clear en_
        have ea_ := Option.some.inj (hx144_3.symm.trans hx145_3)
        injection ea_ with ea_ en_ ec_
        subst ea_
        subst ec_
        clear en_
        have p146 : 0 ≤ (x5_1 : Int) := dt_
        have q146 : x5_1 < (l0.length : Int) := dt_
        obtain ⟨ad146, A146_2, c146_2, A146_3, c146_3, e146, hx146_0, hx146_1, hx146_2, hx146_3, hl146_2, hi146_2, hl146_3, hi146_3⟩ := at_T40 HR0.out x5_1 p146 q146
        obtain rfl : ad144 = ad146 := (by injection e146)
        have HR146_2 := sd_ hi146_2
        have HC146_2 := sd_ hl146_2
        clear hi146_2 hl146_2
        have HR146_3 := sd_ hi146_3
        have HC146_3 := sd_ hl146_3
        clear hi146_3 hl146_3
        replace p146 := eq_true p146
        replace q146 := eq_true q146
        have ea_ := Option.some.inj (hx144_2.symm.trans hx146_2)
        injection ea_ with ea_ en_ ec_
        subst ea_
        subst ec_
        clear en_
        have ea_ := Option.some.inj (hx144_3.symm.trans hx146_3)
        injection ea_ with ea_ en_ ec_
        subst ea_
        subst ec_
        clear en_
        go_wp2_with (first | ((with_reducible refine gate_callee (f := 57) rfl ?_); refine goesL_ (some 36) rfl rfl Try.func57 (by kernel_rfl) rfl #[.slice A144_2 ((rd_T40 l0 x5_1).f2).length c144_2, .int .i64 (wrap64 ((wrap64 (x1_1 + 1)) + 1))] rfl la_ ?_; (with_reducible refine (laws_heldIntS.calls k1 _ _ ((rd_T40 l0 x5_1).f2) (wrap64 ((wrap64 (x1_1 + 1)) + 1)) t147 _ (kp_ HR146_2.out) HC146_2.out A7.out).mono ?_); rintro e w' ⟨rfl, ⟨nd, rfl⟩⟩; refine ⟨_, rfl, ?_⟩))
        go_ret
        exact ⟨by first | rfl | (simp; done) | (simp [*]; done), by repeat (first | exact Drawn0.refl _ | apply Drawn0.step)⟩
       rw [if_neg c8] at H
       have c8b0 : decide (t147 < 0) = false := decide_eq_false c8
       clear c8
       replace H := Option.bind_eq_some_iff.mp H
       obtain ⟨t149, A90, H⟩ := H
       try dsimp only at H
       have A9 := sd_ A90
       clear A90
       by_cases c10 : t149 < 0
       ·rw [if_pos c10] at H
        have c10b0 : decide (t149 < 0) = true := decide_eq_true c10
        clear c10
        obtain rfl := Option.some.inj H
        have p144 : 0 ≤ (x5_1 : Int) := dt_
        have q144 : x5_1 < (l0.length : Int) := dt_
        obtain ⟨ad144, A144_2, c144_2, A144_3, c144_3, e144, hx144_0, hx144_1, hx144_2, hx144_3, hl144_2, hi144_2, hl144_3, hi144_3⟩ := at_T40 HR0.out x5_1 p144 q144
        cases e144
        have HR144_2 := sd_ hi144_2
        have HC144_2 := sd_ hl144_2
        clear hi144_2 hl144_2
        have HR144_3 := sd_ hi144_3
        have HC144_3 := sd_ hl144_3
        clear hi144_3 hl144_3
        replace p144 := eq_true p144
        replace q144 := eq_true q144
        have p145 : 0 ≤ (x5_1 : Int) := dt_
        have q145 : x5_1 < (l0.length : Int) := dt_
        obtain ⟨ad145, A145_2, c145_2, A145_3, c145_3, e145, hx145_0, hx145_1, hx145_2, hx145_3, hl145_2, hi145_2, hl145_3, hi145_3⟩ := at_T40 HR0.out x5_1 p145 q145
        obtain rfl : ad144 = ad145 := (by injection e145)
        have HR145_2 := sd_ hi145_2
        have HC145_2 := sd_ hl145_2
        clear hi145_2 hl145_2
        have HR145_3 := sd_ hi145_3
        have HC145_3 := sd_ hl145_3
        clear hi145_3 hl145_3
        replace p145 := eq_true p145
        replace q145 := eq_true q145
        have ea_ := Option.some.inj (hx144_2.symm.trans hx145_2)
        injection ea_ with ea_ en_ ec_
        subst ea_
        subst ec_
        clear en_
        have ea_ := Option.some.inj (hx144_3.symm.trans hx145_3)
        injection ea_ with ea_ en_ ec_
        subst ea_
        subst ec_
        clear en_
        have p146 : 0 ≤ (x5_1 : Int) := dt_
        have q146 : x5_1 < (l0.length : Int) := dt_
        obtain ⟨ad146, A146_2, c146_2, A146_3, c146_3, e146, hx146_0, hx146_1, hx146_2, hx146_3, hl146_2, hi146_2, hl146_3, hi146_3⟩ := at_T40 HR0.out x5_1 p146 q146
        obtain rfl : ad144 = ad146 := (by injection e146)
        have HR146_2 := sd_ hi146_2
        have HC146_2 := sd_ hl146_2
        clear hi146_2 hl146_2
        have HR146_3 := sd_ hi146_3
        have HC146_3 := sd_ hl146_3
        clear hi146_3 hl146_3
        replace p146 := eq_true p146
        replace q146 := eq_true q146
        have ea_ := Option.some.inj (hx144_2.symm.trans hx146_2)
        injection ea_ with ea_ en_ ec_
        subst ea_
        subst ec_
        clear en_
        have ea_ := Option.some.inj (hx144_3.symm.trans hx146_3)
        injection ea_ with ea_ en_ ec_
        subst ea_
        subst ec_
        clear en_
        go_wp2_with (first | ((with_reducible refine gate_callee (f := 57) rfl ?_); refine goesL_ (some 36) rfl rfl Try.func57 (by kernel_rfl) rfl #[.slice A144_2 ((rd_T40 l0 x5_1).f2).length c144_2, .int .i64 (wrap64 ((wrap64 (x1_1 + 1)) + 1))] rfl la_ ?_; (with_reducible refine (laws_heldIntS.calls k1 _ _ ((rd_T40 l0 x5_1).f2) (wrap64 ((wrap64 (x1_1 + 1)) + 1)) t147 _ (kp_ HR146_2.out) HC146_2.out A7.out).mono ?_); rintro e w' ⟨rfl, ⟨nd, rfl⟩⟩; refine ⟨_, rfl, ?_⟩; have p148 : 0 ≤ (x5_1 : Int) := dt_; have q148 : x5_1 < (l0.length : Int) := dt_; obtain ⟨ad148, A148_2, c148_2, A148_3, c148_3, e148, hx148_0, hx148_1, hx148_2, hx148_3, hl148_2, hi148_2, hl148_3, hi148_3⟩ := at_T40 HR0.out x5_1 p148 q148; obtain rfl : ad144 = ad148 := (by injection e148); have HR148_2 := sd_ hi148_2; have HC148_2 := sd_ hl148_2; clear hi148_2 hl148_2; have HR148_3 := sd_ hi148_3; have HC148_3 := sd_ hl148_3; clear hi148_3 hl148_3; replace p148 := eq_true p148; replace q148 := eq_true q148; have ea_ := Option.some.inj (hx144_2.symm.trans hx148_2); injection ea_ with ea_ en_ ec_; subst ea_; subst ec_; clear en_; have ea_ := Option.some.inj (hx144_3.symm.trans hx148_3); injection ea_ with ea_ en_ ec_; subst ea_; subst ec_; clear en_) | ((with_reducible refine gate_callee (f := 67) rfl ?_); refine goesL_ (some 45) rfl rfl Try.func67 (by kernel_rfl) rfl #[.slice A144_3 ((rd_T40 l0 x5_1).f3).length c144_3, .int .i64 t147] rfl la_ ?_; (with_reducible refine (ih k1 (by have := HK1.out; omega) _ _ ((rd_T40 l0 x5_1).f3) t147 t149 _ ?side1 ?side2 A9.out).mono ?_); (case side1 => exact kp_ HR148_3.out); (case side2 => exact HC148_3.out); rintro e w' ⟨rfl, ⟨nd, rfl⟩⟩; refine ⟨_, rfl, ?_⟩))
        go_ret
        exact ⟨by first | rfl | (simp; done) | (simp [*]; done), by repeat (first | exact Drawn0.refl _ | apply Drawn0.step)⟩
       rw [if_neg c10] at H
       have c10b0 : decide (t149 < 0) = false := decide_eq_false c10
       clear c10
       have H' := sd_ H
       clear H
       have p144 : 0 ≤ (x5_1 : Int) := dt_
       have q144 : x5_1 < (l0.length : Int) := dt_
       obtain ⟨ad144, A144_2, c144_2, A144_3, c144_3, e144, hx144_0, hx144_1, hx144_2, hx144_3, hl144_2, hi144_2, hl144_3, hi144_3⟩ := at_T40 HR0.out x5_1 p144 q144
       cases e144
       have HR144_2 := sd_ hi144_2
       have HC144_2 := sd_ hl144_2
       clear hi144_2 hl144_2
       have HR144_3 := sd_ hi144_3
       have HC144_3 := sd_ hl144_3
       clear hi144_3 hl144_3
       replace p144 := eq_true p144
       replace q144 := eq_true q144
       have p145 : 0 ≤ (x5_1 : Int) := dt_
       have q145 : x5_1 < (l0.length : Int) := dt_
       obtain ⟨ad145, A145_2, c145_2, A145_3, c145_3, e145, hx145_0, hx145_1, hx145_2, hx145_3, hl145_2, hi145_2, hl145_3, hi145_3⟩ := at_T40 HR0.out x5_1 p145 q145
       obtain rfl : ad144 = ad145 := (by injection e145)
       have HR145_2 := sd_ hi145_2
       have HC145_2 := sd_ hl145_2
       clear hi145_2 hl145_2
       have HR145_3 := sd_ hi145_3
       have HC145_3 := sd_ hl145_3
       clear hi145_3 hl145_3
       replace p145 := eq_true p145
       replace q145 := eq_true q145
       have ea_ := Option.some.inj (hx144_2.symm.trans hx145_2)
       injection ea_ with ea_ en_ ec_
       subst ea_
       subst ec_
       clear en_
       have ea_ := Option.some.inj (hx144_3.symm.trans hx145_3)
       injection ea_ with ea_ en_ ec_
       subst ea_
       subst ec_
       clear en_
       have p146 : 0 ≤ (x5_1 : Int) := dt_
       have q146 : x5_1 < (l0.length : Int) := dt_
       obtain ⟨ad146, A146_2, c146_2, A146_3, c146_3, e146, hx146_0, hx146_1, hx146_2, hx146_3, hl146_2, hi146_2, hl146_3, hi146_3⟩ := at_T40 HR0.out x5_1 p146 q146
       obtain rfl : ad144 = ad146 := (by injection e146)
       have HR146_2 := sd_ hi146_2
       have HC146_2 := sd_ hl146_2
       clear hi146_2 hl146_2
       have HR146_3 := sd_ hi146_3
       have HC146_3 := sd_ hl146_3
       clear hi146_3 hl146_3
       replace p146 := eq_true p146
       replace q146 := eq_true q146
       have ea_ := Option.some.inj (hx144_2.symm.trans hx146_2)
       injection ea_ with ea_ en_ ec_
       subst ea_
       subst ec_
       clear en_
       have ea_ := Option.some.inj (hx144_3.symm.trans hx146_3)
       injection ea_ with ea_ en_ ec_
       subst ea_
       subst ec_
       clear en_
       go_wp2_with (first | ((with_reducible refine gate_callee (f := 57) rfl ?_); refine goesL_ (some 36) rfl rfl Try.func57 (by kernel_rfl) rfl #[.slice A144_2 ((rd_T40 l0 x5_1).f2).length c144_2, .int .i64 (wrap64 ((wrap64 (x1_1 + 1)) + 1))] rfl la_ ?_; (with_reducible refine (laws_heldIntS.calls k1 _ _ ((rd_T40 l0 x5_1).f2) (wrap64 ((wrap64 (x1_1 + 1)) + 1)) t147 _ (kp_ HR146_2.out) HC146_2.out A7.out).mono ?_); rintro e w' ⟨rfl, ⟨nd, rfl⟩⟩; refine ⟨_, rfl, ?_⟩; have p148 : 0 ≤ (x5_1 : Int) := dt_; have q148 : x5_1 < (l0.length : Int) := dt_; obtain ⟨ad148, A148_2, c148_2, A148_3, c148_3, e148, hx148_0, hx148_1, hx148_2, hx148_3, hl148_2, hi148_2, hl148_3, hi148_3⟩ := at_T40 HR0.out x5_1 p148 q148; obtain rfl : ad144 = ad148 := (by injection e148); have HR148_2 := sd_ hi148_2; have HC148_2 := sd_ hl148_2; clear hi148_2 hl148_2; have HR148_3 := sd_ hi148_3; have HC148_3 := sd_ hl148_3; clear hi148_3 hl148_3; replace p148 := eq_true p148; replace q148 := eq_true q148; have ea_ := Option.some.inj (hx144_2.symm.trans hx148_2); injection ea_ with ea_ en_ ec_; subst ea_; subst ec_; clear en_; have ea_ := Option.some.inj (hx144_3.symm.trans hx148_3); injection ea_ with ea_ en_ ec_; subst ea_; subst ec_; clear en_) | ((with_reducible refine gate_callee (f := 67) rfl ?_); refine goesL_ (some 45) rfl rfl Try.func67 (by kernel_rfl) rfl #[.slice A144_3 ((rd_T40 l0 x5_1).f3).length c144_3, .int .i64 t147] rfl la_ ?_; (with_reducible refine (ih k1 (by have := HK1.out; omega) _ _ ((rd_T40 l0 x5_1).f3) t147 t149 _ ?side1 ?side2 A9.out).mono ?_); (case side1 => exact kp_ HR148_3.out); (case side2 => exact HC148_3.out); rintro e w' ⟨rfl, ⟨nd, rfl⟩⟩; refine ⟨_, rfl, ?_⟩))
       go_roundg k1
       case measure => have := HK1.out; omega
       case rel => exact ⟨(t149), (wrap64 (x5_1 + 1)), sm_, sm_, H', ⟨by have := HK1.out; omega⟩, by repeat (first | exact Drawn0.refl _ | apply Drawn0.step)⟩
      rw [if_neg c6] at H
      have c6b0 : (((rd_T40 l0 x5_1).f1) == (wrap64 (x1_1 + 1))) = false := beq_eq_false_iff_ne.mpr c6
      have c6b1 : (((rd_T40 l0 x5_1).f1) != (wrap64 (x1_1 + 1))) = true := bne_iff_ne.mpr c6
      obtain rfl := Option.some.inj H
      have p144 : 0 ≤ (x5_1 : Int) := dt_
      have q144 : x5_1 < (l0.length : Int) := dt_
      obtain ⟨ad144, A144_2, c144_2, A144_3, c144_3, e144, hx144_0, hx144_1, hx144_2, hx144_3, hl144_2, hi144_2, hl144_3, hi144_3⟩ := at_T40 HR0.out x5_1 p144 q144
      cases e144
      have HR144_2 := sd_ hi144_2
      have HC144_2 := sd_ hl144_2
      clear hi144_2 hl144_2
      have HR144_3 := sd_ hi144_3
      have HC144_3 := sd_ hl144_3
      clear hi144_3 hl144_3
      replace p144 := eq_true p144
      replace q144 := eq_true q144
      have p145 : 0 ≤ (x5_1 : Int) := dt_
      have q145 : x5_1 < (l0.length : Int) := dt_
      obtain ⟨ad145, A145_2, c145_2, A145_3, c145_3, e145, hx145_0, hx145_1, hx145_2, hx145_3, hl145_2, hi145_2, hl145_3, hi145_3⟩ := at_T40 HR0.out x5_1 p145 q145
      obtain rfl : ad144 = ad145 := (by injection e145)
      have HR145_2 := sd_ hi145_2
      have HC145_2 := sd_ hl145_2
      clear hi145_2 hl145_2
      have HR145_3 := sd_ hi145_3
      have HC145_3 := sd_ hl145_3
      clear hi145_3 hl145_3
      replace p145 := eq_true p145
      replace q145 := eq_true q145
      have ea_ := Option.some.inj (hx144_2.symm.trans hx145_2)
      injection ea_ with ea_ en_ ec_
      subst ea_
      subst ec_
      clear en_
      have ea_ := Option.some.inj (hx144_3.symm.trans hx145_3)
      injection ea_ with ea_ en_ ec_
      subst ea_
      subst ec_
      clear en_
      go_wp2
      go_ret
      exact ⟨by first | rfl | (simp; done) | (simp [*]; done), by repeat (first | exact Drawn0.refl _ | apply Drawn0.step)⟩
     rw [if_neg c5] at H
     have c5b0 : (((rd_T40 l0 x5_1).f0) == x1_1) = false := beq_eq_false_iff_ne.mpr c5
     have c5b1 : (((rd_T40 l0 x5_1).f0) != x1_1) = true := bne_iff_ne.mpr c5
     obtain rfl := Option.some.inj H
     have p144 : 0 ≤ (x5_1 : Int) := dt_
     have q144 : x5_1 < (l0.length : Int) := dt_
     obtain ⟨ad144, A144_2, c144_2, A144_3, c144_3, e144, hx144_0, hx144_1, hx144_2, hx144_3, hl144_2, hi144_2, hl144_3, hi144_3⟩ := at_T40 HR0.out x5_1 p144 q144
     cases e144
     have HR144_2 := sd_ hi144_2
     have HC144_2 := sd_ hl144_2
     clear hi144_2 hl144_2
     have HR144_3 := sd_ hi144_3
     have HC144_3 := sd_ hl144_3
     clear hi144_3 hl144_3
     replace p144 := eq_true p144
     replace q144 := eq_true q144
     go_wp2
     go_ret
     exact ⟨by first | rfl | (simp; done) | (simp [*]; done), by repeat (first | exact Drawn0.refl _ | apply Drawn0.step)⟩
    rw [if_neg c4] at H
    exact absurd H (by simp)
   rw [if_neg c3] at H
   have c3b0 : decide (x5_1 < (l0.length : Int)) = false := decide_eq_false c3
   clear c3
   obtain rfl := Option.some.inj H
   go_wp2
   go_ret
   exact ⟨by first | rfl | (simp; done) | (simp [*]; done), by repeat (first | exact Drawn0.refl _ | apply Drawn0.step)⟩


/-! ### laws_heldTerm: function 24 -/
def laws_heldTerm.f (k : Nat) (a0_0 : Int) (a0_1 : Int) (l0_2 : List Int) (l0_3 : List (S40)) (a1 : Int) : Option (Int) := (laws_heldIntS.f k l0_2 a1).bind fun t151 => (if t151 < 0 then (some (-1)) else ((laws_heldTermS.f k l0_3 t151).bind fun t152 => (if t152 < 0 then (some (-1)) else (some t152))))
set_option maxHeartbeats 8000000 in
set_option maxRecDepth 100000 in
theorem laws_heldTerm.calls (k : Nat) (a0_0 : Int) (a0_1 : Int) (A0_2 : Option Addr) (c0_2 : Nat) (l0_2 : List Int) (A0_3 : Option Addr) (c0_3 : Nat) (l0_3 : List (S40)) (a1 : Int) (r : Int) (w : World) (hr0_2 : Kd.C (Kd.int .i64) w A0_2 l0_2.length l0_2) (hc0_2 : l0_2.length ≤ c0_2) (hr0_3 : Kd.C k40 w A0_3 l0_3.length l0_3) (hc0_3 : l0_3.length ≤ c0_3) (h : laws_heldTerm.f k a0_0 a0_1 l0_2 l0_3 a1 = some r) :
  Calls Try.prog 24 #[.agg #[.int .i64 a0_0, .int .i64 a0_1, .slice A0_2 l0_2.length c0_2, .slice A0_3 l0_3.length c0_3], .int .i64 a1] w fun e w' => e = .returned (.int .i64 r) ∧ Below w.heap.size w w' := by
 have hu40 := Try.underlying40
 have HR0_2 := sd_ hr0_2
 have HC0_2 := sd_ hc0_2
 clear hr0_2 hc0_2
 have HR0_3 := sd_ hr0_3
 have HC0_3 := sd_ hc0_3
 clear hr0_3 hc0_3
 have HB := sd_ (Below.refl w.heap.size w)
 have H : ((laws_heldIntS.f k l0_2 a1).bind fun t151 => (if t151 < 0 then (some (-1)) else ((laws_heldTermS.f k l0_3 t151).bind fun t152 => (if t152 < 0 then (some (-1)) else (some t152))))) = some r := h
 clear h
 replace H := Option.bind_eq_some_iff.mp H
 obtain ⟨t151, A30, H⟩ := H
 try dsimp only at H
 have A3 := sd_ A30
 clear A30
 have HP4 := sd_ H
 clear H
 go_enter Try.func24, Try.ntmps24
 go_upto_if 10 with (first | ((with_reducible refine gate_dst (N := 2) rfl ?_); refine bx_ (N := 2) (cs := #[.int .i64 a0_0, .int .i64 a0_1, .slice A0_2 l0_2.length c0_2, .slice A0_3 l0_3.length c0_3]) (t := 40) ?_; intro gb150 hg w5 hbox hb; have BK150 := sd_ (hbox); have GW150 := sd_ (gs_ hg (bw0_ HB.out)); have GE150 := sd_ (gs_ hg (bw0_ HB.out)); replace HB := sd_ (below_step (bw0_ HB.out) hb); clear hb hbox hg; obtain ⟨hcz6_0, hcz6_1, hcz6_2, hcz6_3, hfz6_0, hfz6_1, hfz6_2, hfz6_3⟩ := bf4_ BK150.out) | ((with_reducible refine gate_callee (f := 57) rfl ?_); refine goesL_ (some 8) rfl rfl Try.func57 (by kernel_rfl) rfl #[.slice A0_2 l0_2.length c0_2, .int .i64 a1] rfl la_ ?_; (with_reducible refine (laws_heldIntS.calls k _ _ l0_2 a1 t151 _ (kc_ HR0_2.out HB.out) HC0_2.out A3.out).mono ?_); rintro e w' ⟨rfl, ⟨nd, rfl⟩⟩; refine ⟨_, rfl, ?_⟩))
 have H := HP4.out
 clear HP4
 by_cases c7 : t151 < 0
 ·rw [if_pos c7] at H
  have c7b0 : decide (t151 < 0) = true := decide_eq_true c7
  clear c7
  (first | rw [c7b0] | (simp only [i64_w, i32_w]; rw [c7b0]) | skip)
  obtain rfl := Option.some.inj H
  go_wp2
  go_ret
  exact ⟨an_, bw1_ HB.out GE150.out⟩
 rw [if_neg c7] at H
 have c7b0 : decide (t151 < 0) = false := decide_eq_false c7
 clear c7
 (first | rw [c7b0] | (simp only [i64_w, i32_w]; rw [c7b0]) | skip)
 replace H := Option.bind_eq_some_iff.mp H
 obtain ⟨t152, A80, H⟩ := H
 try dsimp only at H
 have A8 := sd_ A80
 clear A80
 by_cases c9 : t152 < 0
 ·rw [if_pos c9] at H
  have c9b0 : decide (t152 < 0) = true := decide_eq_true c9
  clear c9
  obtain rfl := Option.some.inj H
  obtain ⟨hcz10_0, hcz10_1, hcz10_2, hcz10_3, hfz10_0, hfz10_1, hfz10_2, hfz10_3⟩ := bf4_ BK150.out
  go_wp2_with (first | ((with_reducible refine gate_callee (f := 67) rfl ?_); refine goesL_ (some 14) rfl rfl Try.func67 (by kernel_rfl) rfl #[.slice A0_3 l0_3.length c0_3, .int .i64 t151] rfl la_ ?_; (with_reducible refine (laws_heldTermS.calls k _ _ l0_3 t151 t152 _ (kc_ HR0_3.out HB.out) HC0_3.out A8.out).mono ?_); rintro e w' ⟨rfl, ⟨nd, rfl⟩⟩; refine ⟨_, rfl, ?_⟩))
  go_ret
  exact ⟨an_, bw1_ HB.out GE150.out⟩
 rw [if_neg c9] at H
 have c9b0 : decide (t152 < 0) = false := decide_eq_false c9
 clear c9
 obtain rfl := Option.some.inj H
 obtain ⟨hcz11_0, hcz11_1, hcz11_2, hcz11_3, hfz11_0, hfz11_1, hfz11_2, hfz11_3⟩ := bf4_ BK150.out
 go_wp2_with (first | ((with_reducible refine gate_callee (f := 67) rfl ?_); refine goesL_ (some 14) rfl rfl Try.func67 (by kernel_rfl) rfl #[.slice A0_3 l0_3.length c0_3, .int .i64 t151] rfl la_ ?_; (with_reducible refine (laws_heldTermS.calls k _ _ l0_3 t151 t152 _ (kc_ HR0_3.out HB.out) HC0_3.out A8.out).mono ?_); rintro e w' ⟨rfl, ⟨nd, rfl⟩⟩; refine ⟨_, rfl, ?_⟩))
 go_ret
 exact ⟨an_, bw1_ HB.out GE150.out⟩


/-! ### spec_l2Adds: function 93 -/
def spec_l2Adds.j0 : Nat → Int → Int → Bool → Option (Int)
 | 0, _, _, _ => none
 | k + 1, x0, x1, x5 => if x5 = true then (some 2) else (if x0 = 8 then (if x1 > 0 then (some 1) else (if x0 = 9 then (some 1) else (if x0 = 12 then (if x1 = 1 then (some 1) else (some 0)) else (some 0)))) else (if x0 = 9 then (some 1) else (if x0 = 12 then (if x1 = 1 then (some 1) else (some 0)) else (some 0))))
def spec_l2Adds.f (k : Nat) (a0 : Int) (a1 : Int) : Option (Int) := if a0 = 5 then (spec_l2Adds.j0 k a0 a1 (a1 == 1)) else (spec_l2Adds.j0 k a0 a1 false)
set_option maxHeartbeats 8000000 in
set_option maxRecDepth 100000 in
theorem spec_l2Adds.calls (k : Nat) (a0 : Int) (a1 : Int) (r : Int) (w : World) (h : spec_l2Adds.f k a0 a1 = some r) :
  Calls Try.prog 93 #[.int .i64 a0, .int .i64 a1] w fun e w' => e = .returned (.int .i64 r) ∧ Drawn0 w w' := by
 have H : (if a0 = 5 then (spec_l2Adds.j0 k a0 a1 (a1 == 1)) else (spec_l2Adds.j0 k a0 a1 false)) = some r := h
 clear h
 have HC3 := sd_ H
 clear H
 go_enter Try.func93, Try.ntmps93
 go_upto_region 1 with (fail)
 go_cut [5] (fun v5 wc => ∃ (kq : Nat) (x5_2 : Bool), v5 = .bool x5_2 ∧ Aside0 (spec_l2Adds.j0 kq a0 a1 x5_2 = some r) ∧ Aside0 (kq ≤ k) ∧ Drawn0 w wc)
 case first =>
  have H := HC3.out
  clear HC3
  by_cases c4 : a0 = 5
  ·rw [if_pos c4] at H
   have c4b0 : (a0 == 5) = true := beq_iff_eq.mpr c4
   have c4b1 : (a0 != 5) = false := bne_eq_false_iff_eq.mpr c4
   clear c4
   (first | rw [c4b0] | (simp only [i64_w, i32_w]; rw [c4b0]) | skip)
   have H' := sd_ H
   clear H
   go_wp2
   go_meet
   case rel => exact ⟨_, ((a1 == 1)), sm_, H', ⟨by first | omega | exact Nat.le_refl _⟩, by repeat (first | exact Drawn0.refl _ | apply Drawn0.step)⟩
  rw [if_neg c4] at H
  have c4b0 : (a0 == 5) = false := beq_eq_false_iff_ne.mpr c4
  have c4b1 : (a0 != 5) = true := bne_iff_ne.mpr c4
  (first | rw [c4b0] | (simp only [i64_w, i32_w]; rw [c4b0]) | skip)
  have H' := sd_ H
  clear H
  go_wp2
  go_meet
  case rel => exact ⟨_, (false), sm_, H', ⟨by first | omega | exact Nat.le_refl _⟩, by repeat (first | exact Drawn0.refl _ | apply Drawn0.step)⟩
 case rest =>
  clear HC3
  obtain ⟨kq, x5_2, rfl, HA, HJ2, ⟨mc2, rfl⟩⟩ := hcut
  cases kq with
  | zero => exact absurd HA.out (by simp [spec_l2Adds.j0])
  | succ kj2 =>
   have H := HA.out
   clear HA
   simp only [spec_l2Adds.j0] at H
   by_cases c5 : x5_2 = true
   ·subst c5
    have H1 : (some 2) = some r := by rw [if_pos rfl] at H; exact H
    clear H
    have H := H1
    clear H1
    obtain rfl := Option.some.inj H
    go_wp2
    go_ret
    exact ⟨by first | rfl | (simp; done) | (simp [*]; done), by repeat (first | exact Drawn0.refl _ | apply Drawn0.step)⟩
   replace c5 := Bool.eq_false_iff.mpr c5
   subst c5
   have H1 : (if a0 = 8 then (if a1 > 0 then (some 1) else (if a0 = 9 then (some 1) else (if a0 = 12 then (if a1 = 1 then (some 1) else (some 0)) else (some 0)))) else (if a0 = 9 then (some 1) else (if a0 = 12 then (if a1 = 1 then (some 1) else (some 0)) else (some 0)))) = some r := by rw [if_neg (show ¬ (false = true) by decide)] at H; exact H
   clear H
   have H := H1
   clear H1
   by_cases c6 : a0 = 8
   ·rw [if_pos c6] at H
    have c6b0 : (a0 == 8) = true := beq_iff_eq.mpr c6
    have c6b1 : (a0 != 8) = false := bne_eq_false_iff_eq.mpr c6
    clear c6
    by_cases c7 : a1 > 0
    ·rw [if_pos c7] at H
     have c7b0 : decide (0 < a1) = true := decide_eq_true c7
     clear c7
     obtain rfl := Option.some.inj H
     go_wp2
     go_ret
     exact ⟨by first | rfl | (simp; done) | (simp [*]; done), by repeat (first | exact Drawn0.refl _ | apply Drawn0.step)⟩
    rw [if_neg c7] at H
    have c7b0 : decide (0 < a1) = false := decide_eq_false c7
    clear c7
    by_cases c8 : a0 = 9
    ·rw [if_pos c8] at H
     have c8b0 : (a0 == 9) = true := beq_iff_eq.mpr c8
     have c8b1 : (a0 != 9) = false := bne_eq_false_iff_eq.mpr c8
     clear c8
     obtain rfl := Option.some.inj H
     go_wp2
     go_ret
     exact ⟨by first | rfl | (simp; done) | (simp [*]; done), by repeat (first | exact Drawn0.refl _ | apply Drawn0.step)⟩
    rw [if_neg c8] at H
    have c8b0 : (a0 == 9) = false := beq_eq_false_iff_ne.mpr c8
    have c8b1 : (a0 != 9) = true := bne_iff_ne.mpr c8
    by_cases c9 : a0 = 12
    ·rw [if_pos c9] at H
     have c9b0 : (a0 == 12) = true := beq_iff_eq.mpr c9
     have c9b1 : (a0 != 12) = false := bne_eq_false_iff_eq.mpr c9
     clear c9
     by_cases c10 : a1 = 1
     ·rw [if_pos c10] at H
      have c10b0 : (a1 == 1) = true := beq_iff_eq.mpr c10
      have c10b1 : (a1 != 1) = false := bne_eq_false_iff_eq.mpr c10
      clear c10
      obtain rfl := Option.some.inj H
      go_wp2
      go_ret
      exact ⟨by first | rfl | (simp; done) | (simp [*]; done), by repeat (first | exact Drawn0.refl _ | apply Drawn0.step)⟩
     rw [if_neg c10] at H
     have c10b0 : (a1 == 1) = false := beq_eq_false_iff_ne.mpr c10
     have c10b1 : (a1 != 1) = true := bne_iff_ne.mpr c10
     obtain rfl := Option.some.inj H
     go_wp2
     go_ret
     exact ⟨by first | rfl | (simp; done) | (simp [*]; done), by repeat (first | exact Drawn0.refl _ | apply Drawn0.step)⟩
    rw [if_neg c9] at H
    have c9b0 : (a0 == 12) = false := beq_eq_false_iff_ne.mpr c9
    have c9b1 : (a0 != 12) = true := bne_iff_ne.mpr c9
    obtain rfl := Option.some.inj H
    go_wp2
    go_ret
    exact ⟨by first | rfl | (simp; done) | (simp [*]; done), by repeat (first | exact Drawn0.refl _ | apply Drawn0.step)⟩
   rw [if_neg c6] at H
   have c6b0 : (a0 == 8) = false := beq_eq_false_iff_ne.mpr c6
   have c6b1 : (a0 != 8) = true := bne_iff_ne.mpr c6
   by_cases c11 : a0 = 9
   ·rw [if_pos c11] at H
    have c11b0 : (a0 == 9) = true := beq_iff_eq.mpr c11
    have c11b1 : (a0 != 9) = false := bne_eq_false_iff_eq.mpr c11
    clear c11
    obtain rfl := Option.some.inj H
    go_wp2
    go_ret
    exact ⟨by first | rfl | (simp; done) | (simp [*]; done), by repeat (first | exact Drawn0.refl _ | apply Drawn0.step)⟩
   rw [if_neg c11] at H
   have c11b0 : (a0 == 9) = false := beq_eq_false_iff_ne.mpr c11
   have c11b1 : (a0 != 9) = true := bne_iff_ne.mpr c11
   by_cases c12 : a0 = 12
   ·rw [if_pos c12] at H
    have c12b0 : (a0 == 12) = true := beq_iff_eq.mpr c12
    have c12b1 : (a0 != 12) = false := bne_eq_false_iff_eq.mpr c12
    clear c12
    by_cases c13 : a1 = 1
    ·rw [if_pos c13] at H
     have c13b0 : (a1 == 1) = true := beq_iff_eq.mpr c13
     have c13b1 : (a1 != 1) = false := bne_eq_false_iff_eq.mpr c13
     clear c13
     obtain rfl := Option.some.inj H
     go_wp2
     go_ret
     exact ⟨by first | rfl | (simp; done) | (simp [*]; done), by repeat (first | exact Drawn0.refl _ | apply Drawn0.step)⟩
    rw [if_neg c13] at H
    have c13b0 : (a1 == 1) = false := beq_eq_false_iff_ne.mpr c13
    have c13b1 : (a1 != 1) = true := bne_iff_ne.mpr c13
    obtain rfl := Option.some.inj H
    go_wp2
    go_ret
    exact ⟨by first | rfl | (simp; done) | (simp [*]; done), by repeat (first | exact Drawn0.refl _ | apply Drawn0.step)⟩
   rw [if_neg c12] at H
   have c12b0 : (a0 == 12) = false := beq_eq_false_iff_ne.mpr c12
   have c12b1 : (a0 != 12) = true := bne_iff_ne.mpr c12
   obtain rfl := Option.some.inj H
   go_wp2
   go_ret
   exact ⟨by first | rfl | (simp; done) | (simp [*]; done), by repeat (first | exact Drawn0.refl _ | apply Drawn0.step)⟩

end Go.Proofs.Ytipfkicndjddgaa.P
end

section
namespace Go.Proofs.Ytipfkicndjddgaa.P
open Go.RowKit Go.Proofs.YtipfkicndjddgaaW.PrintWords Go.Proofs.YtipfkicndjddgaaW.PrintLast
set_option linter.unusedVariables false
set_option linter.unusedSimpArgs false
/-! ### slices_Clone_int_int: function 121 (by hand) -/
def slices_Clone_int_int.f (l0 : List Int) : Option (List Int) := if ([] : List Int).length + l0.length < 17592186044416 then some ([] ++ l0) else none
set_option maxHeartbeats 8000000 in
set_option maxRecDepth 100000 in
theorem slices_Clone_int_int.calls (A0 : Option Addr) (c0 : Nat) (l0 : List Int) (r : List Int) (w : World) (hr0 : Kd.C (Kd.int .i64) w A0 l0.length l0) (hc0 : l0.length ≤ c0) (h : slices_Clone_int_int.f l0 = some r) :
  Calls Try.prog 121 #[.slice A0 l0.length c0] w fun e w' => ∃ v0_ : Value, e = .returned (v0_) ∧ Kd.R (Kd.int .i64) 3 w' w.heap.size (fun _ => True) v0_ r ∧ Below w.heap.size w w' := by
 have HR0 := sd_ hr0
 have HC0 := sd_ hc0
 clear hr0 hc0
 have HB := sd_ (Below.refl w.heap.size w)
 have H : (if ([] : List Int).length + l0.length < 17592186044416 then some ([] ++ l0) else none) = some r := h
 clear h
 obtain ⟨y108, hy108⟩ : ∃ y_ : List Int, y_ = (([] : List Int)) := ⟨_, rfl⟩
 rw [← hy108] at H
 have Ny108 := sd_ hy108
 clear hy108
 by_cases c2 : y108.length + l0.length < 17592186044416
 ·rw [if_pos c2] at H
  have LMc2 := sd_ c2
  clear c2
  obtain ⟨y111, hy111⟩ : ∃ y_ : List Int, y_ = (y108 ++ l0) := ⟨_, rfl⟩
  rw [← hy111] at H
  have Ny111 := sd_ hy111
  clear hy111
  obtain rfl := Option.some.inj H
  have q22 : ∀ (w : World) (a : Option Addr) (n c : Nat), (binOp .eql 22 (.slice a n c) (.slice none 0 0)).run Try.prog w = .ok (.bool a.isNone) w := fun w a n c => Go.Lib.run_eql_slice_nil w 22 3 a n c 0 0 Try.underlying22
  cases A0 with
  | none =>
   have e0 : l0 = [] := by
    rcases l0 with _ | ⟨z, zs⟩
    ·rfl
    obtain ⟨ad, e, _⟩ := Kd.at_int HR0.out 0 (by omega) (by simp only [List.length_cons]; omega)
    cases e
   subst e0
   have e1 : y111 = [] := by rw [Ny111.out, Ny108.out]; rfl
   rw [e1]
   go_enter Try.func121, Try.ntmps121
   go_wp2
   go_ret
   exact ⟨_, by first | rfl | simp, Kd.R_nil _ _ _ _ _, HB.out⟩
  | some ad =>
   go_enter Try.func121, Try.ntmps121
   go_wp2_with (first | ((with_reducible refine gate_dst (N := 5) rfl ?_); refine Kd.R_lit (Kd.int .i64) _ 3 ?hg (N := 5) ?hd (xs := ([] : List Int)) (inner := []) (ok := fun _ => True) (okp := fun _ => True) ?hr ?hp (fun _ hk => hk) trivial (Below.refl _ _) (Nat.le_refl _) (by simp) ?_; (case hd => rfl); (case hg => rfl); (case hr => first | (go_simp; done) | (go_simp; rfl)); (case hp => exact (Reps.none _ _)); intro v109 w3 ho4 hb hg_ hnew_; clear hg_ hnew_; (first | rw [← Ny108.out] at ho4 | (simp only [Int.reduceToNat] at ho4; rw [← Ny108.out] at ho4)); have HO110 := sd_ (Kd.R_lower ho4 (below_size HB.out)); replace HB := sd_ (below_step HB.out hb); clear hb ho4) | ((with_reducible refine gate_builtin (b := .append) (xs := #[.tmp 5, .tmp 6]) rfl ?_); at_builtin; refine Kd.R_append_rows (Kd.int .i64) (w0 := w) w.heap.size rfl (.tmp 5) (.tmp 6) 22 3 (.int .i64 0) 8 rfl Try.underlying22 info3 rfl (by decide) (by omega) v109 y108 l0 _ _ _ (fun _ => True) (fun _ => False) rfl rfl ?aO ?aR (fun _ _ h => h) (fun _ h => h.elim) ?aF ?aB ?aS ?aL ?_; (case aR => exact (Kd.C_below HR0.out HB.out)); (case aB => exact HB.out); (case aF => exact (fun _ _ => trivial)); (case aO => exact HO110.out); (case aS => exact (below_size HB.out)); (case aL => have := LMc2.out; omega); intro v112 w5 ho hb hg hat; rw [← Ny111.out] at ho; have n0_ := sd_ (hb); have n1_ := sd_ (ho); clear HB; clear HO110; have HB := n0_; have HO113 := n1_; clear n0_ n1_; clear ho hb hg hat))
   go_ret
   exact ⟨_, by first | rfl | simp, HO113.out, HB.out⟩
 rw [if_neg c2] at H
 exact absurd H (by simp)
end Go.Proofs.Ytipfkicndjddgaa.P
end

section
namespace Go.Proofs.Ytipfkicndjddgaa.P
open Go.RowKit Go.Proofs.YtipfkicndjddgaaW.PrintWords Go.Proofs.YtipfkicndjddgaaW.PrintLast Go.Proofs.YtipfkicndjddgaaW.PrintMore
attribute [local go_sem] max2_int min2_int max_two min_two max_three min_three max_four min_four   -- for this text's walks alone
set_option linter.unusedVariables false
set_option linter.unusedSimpArgs false

/-! ### spec_l2Box: function 139 -/
def spec_l2Box.f (a0 : Int) : Option (Bool) := (spec_l1In.f a0 19 34).bind fun t157 => (if t157 = true then (some true) else (some (a0 == 36)))
set_option maxHeartbeats 8000000 in
set_option maxRecDepth 100000 in
theorem spec_l2Box.calls (a0 : Int) (r : Bool) (w : World) (h : spec_l2Box.f a0 = some r) :
  Calls Try.prog 139 #[.int .i64 a0] w fun e w' => e = .returned (.bool r) ∧ Drawn0 w w' := by
 have H : ((spec_l1In.f a0 19 34).bind fun t157 => (if t157 = true then (some true) else (some (a0 == 36)))) = some r := h
 clear h
 replace H := Option.bind_eq_some_iff.mp H
 obtain ⟨t157, A20, H⟩ := H
 try dsimp only at H
 have A2 := sd_ A20
 clear A20
 by_cases c3 : t157 = true
 ·subst c3
  have H1 : (some true) = some r := by rw [if_pos rfl] at H; exact H
  clear H
  have H := H1
  clear H1
  obtain rfl := Option.some.inj H
  go_enter Try.func139, Try.ntmps139
  go_wp2_with (first | ((with_reducible refine gate_callee (f := 112) rfl ?_); refine goesL_ (some 4) rfl rfl Try.func112 (by kernel_rfl) rfl #[.int .i64 a0, .int .i64 19, .int .i64 34] rfl la_ ?_; (with_reducible refine (spec_l1In.calls a0 19 34 true _ A2.out).mono ?_); rintro e w' ⟨rfl, ⟨nd, rfl⟩⟩; refine ⟨_, rfl, ?_⟩))
  go_ret
  exact ⟨by first | rfl | (simp; done) | (simp [*]; done), by repeat (first | exact Drawn0.refl _ | apply Drawn0.step)⟩
 replace c3 := Bool.eq_false_iff.mpr c3
 subst c3
 have H1 : (some (a0 == 36)) = some r := by rw [if_neg (show ¬ (false = true) by decide)] at H; exact H
 clear H
 have H := H1
 clear H1
 obtain rfl := Option.some.inj H
 go_enter Try.func139, Try.ntmps139
 go_wp2_with (first | ((with_reducible refine gate_callee (f := 112) rfl ?_); refine goesL_ (some 4) rfl rfl Try.func112 (by kernel_rfl) rfl #[.int .i64 a0, .int .i64 19, .int .i64 34] rfl la_ ?_; (with_reducible refine (spec_l1In.calls a0 19 34 false _ A2.out).mono ?_); rintro e w' ⟨rfl, ⟨nd, rfl⟩⟩; refine ⟨_, rfl, ?_⟩))
 go_ret
 exact ⟨by first | rfl | (simp; done) | (simp [*]; done), by repeat (first | exact Drawn0.refl _ | apply Drawn0.step)⟩

end Go.Proofs.Ytipfkicndjddgaa.P
end
