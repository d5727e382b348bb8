-- Printed by this session's own program (wip/tools/mkprint.py) out of the translation. Not trusted: Lean checks it.
import Derived.Test.YtipfkicndjddgaaP0
import Derived.Test.YtipfkicndjddgaaM4
/-! short words -/
namespace Go.Proofs.Ytipfkicndjddgaa.P
open Go.RowKit Go.Proofs.YtipfkicndjddgaaW.PrintWords Go.Proofs.YtipfkicndjddgaaW.PrintLast Go.Proofs.YtipfkicndjddgaaW.PrintMore
attribute [local go_sem] max2_int min2_int max_two min_two max_three min_three max_four min_four   -- for this text's walks alone
set_option linter.unusedVariables false
set_option linter.unusedSimpArgs false

/-! ### spec_l1View: function 103 -/
mutual
def spec_l1View.j0 : Nat → List Bool → Bool → Int → List Int → List Int → List Bool → Option (Bool)
 | 0, _, _, _, _, _, _ => none
 | k + 1, x1, x15, x215000, x215001, x215002, x215003 => if x15 = true then (some false) else (spec_l1View.l0 k x1 0 x215000 x215001 x215002 x215003)
def spec_l1View.l0 : Nat → List Bool → Int → Int → List Int → List Int → List Bool → Option (Bool)
 | 0, _, _, _, _, _, _ => none
 | k + 1, x1, x5, x215000, x215001, x215002, x215003 => if x5 < x215000 then (spec_l1View.l1 k x1 x5 0 x215000 x215001 x215002 x215003) else (some true)
def spec_l1View.l1 : Nat → List Bool → Int → Int → Int → List Int → List Int → List Bool → Option (Bool)
 | 0, _, _, _, _, _, _, _ => none
 | k + 1, x1, x5, x6, x215000, x215001, x215002, x215003 => if x6 < x215000 then ((spec_l1Add.f x215000 x215001 x215002 x215003 x5 x6).bind fun t217 => (if 0 ≤ t217 then (if t217 < (x1.length : Int) then (if 0 ≤ x5 then (if x5 < (x1.length : Int) then (if rdOf false x1 x5 = true then (if ((rdOf false x1 t217) != true) = true then (some false) else ((spec_l1Mul.f x215000 x215001 x215002 x215003 x5 x6).bind fun t220 => (if 0 ≤ t220 then (if t220 < (x1.length : Int) then (if 0 ≤ x6 then (if x6 < (x1.length : Int) then (if ((rdOf false x1 t220) != (rdOf false x1 x6)) = true then (some false) else ((spec_l1Le.f x215000 x215001 x215002 x215003 x5 x6).bind fun t225 => (if t225 = true then (if rdOf false x1 x6 = true then (spec_l1View.l1 k x1 x5 (wrap64 (x6 + 1)) x215000 x215001 x215002 x215003) else (some false)) else (spec_l1View.l1 k x1 x5 (wrap64 (x6 + 1)) x215000 x215001 x215002 x215003)))) else (none)) else (none)) else (none)) else (none)))) else (if 0 ≤ x6 then (if x6 < (x1.length : Int) then (if ((rdOf false x1 t217) != (rdOf false x1 x6)) = true then (some false) else ((spec_l1Mul.f x215000 x215001 x215002 x215003 x5 x6).bind fun t228 => (if 0 ≤ t228 then (if t228 < (x1.length : Int) then (if ((rdOf false x1 t228) != false) = true then (some false) else (spec_l1View.l1 k x1 x5 (wrap64 (x6 + 1)) x215000 x215001 x215002 x215003)) else (none)) else (none)))) else (none)) else (none))) else (none)) else (none)) else (none)) else (none))) else (spec_l1View.l0 k x1 (wrap64 (x5 + 1)) x215000 x215001 x215002 x215003)
end
def spec_l1View.f (k : Nat) (a0_0 : Int) (l0_1 : List Int) (l0_2 : List Int) (l0_3 : List Bool) (l1 : List Bool) : Option (Bool) := if 0 < (l1.length : Int) then (if rdOf false l1 0 = true then (spec_l1View.j0 k l1 true a0_0 l0_1 l0_2 l0_3) else (if 1 < (l1.length : Int) then (spec_l1View.j0 k l1 (!(rdOf false l1 1)) a0_0 l0_1 l0_2 l0_3) else (none))) else (none)
set_option maxHeartbeats 8000000 in
set_option maxRecDepth 100000 in
theorem spec_l1View.calls (k : Nat) (a0_0 : Int) (A0_1 : Option Addr) (c0_1 : Nat) (l0_1 : List Int) (A0_2 : Option Addr) (c0_2 : Nat) (l0_2 : List Int) (A0_3 : Option Addr) (c0_3 : Nat) (l0_3 : List Bool) (A1 : Option Addr) (c1 : Nat) (l1 : List Bool) (r : Bool) (w : World) (hr0_1 : Kd.C (Kd.int .i64) w A0_1 l0_1.length l0_1) (hc0_1 : l0_1.length ≤ c0_1) (hr0_2 : Kd.C (Kd.int .i64) w A0_2 l0_2.length l0_2) (hc0_2 : l0_2.length ≤ c0_2) (hr0_3 : Kd.C Kd.bool w A0_3 l0_3.length l0_3) (hc0_3 : l0_3.length ≤ c0_3) (hr1 : Kd.C Kd.bool w A1 l1.length l1) (hc1 : l1.length ≤ c1) (h : spec_l1View.f k a0_0 l0_1 l0_2 l0_3 l1 = some r) :
  Calls Try.prog 103 #[.agg #[.int .i64 a0_0, .slice A0_1 l0_1.length c0_1, .slice A0_2 l0_2.length c0_2, .slice A0_3 l0_3.length c0_3], .slice A1 l1.length c1] w fun e w' => e = .returned (.bool r) ∧ Below w.heap.size w w' := by
 have hu27 := Try.underlying27
 have HR0_1 := sd_ hr0_1
 have HC0_1 := sd_ hc0_1
 clear hr0_1 hc0_1
 have HR0_2 := sd_ hr0_2
 have HC0_2 := sd_ hc0_2
 clear hr0_2 hc0_2
 have HR0_3 := sd_ hr0_3
 have HC0_3 := sd_ hc0_3
 clear hr0_3 hc0_3
 have HR1 := sd_ hr1
 have HC1 := sd_ hc1
 clear hr1 hc1
 have HB := sd_ (Below.refl w.heap.size w)
 have H : (if 0 < (l1.length : Int) then (if rdOf false l1 0 = true then (spec_l1View.j0 k l1 true a0_0 l0_1 l0_2 l0_3) else (if 1 < (l1.length : Int) then (spec_l1View.j0 k l1 (!(rdOf false l1 1)) a0_0 l0_1 l0_2 l0_3) else (none))) else (none)) = some r := h
 clear h
 have HC3 := sd_ H
 clear H
 go_enter Try.func103, Try.ntmps103
 go_upto_region 1 with (first | ((with_reducible refine gate_dst (N := 2) rfl ?_); refine bx_ (N := 2) (cs := #[.int .i64 a0_0, .slice A0_1 l0_1.length c0_1, .slice A0_2 l0_2.length c0_2, .slice A0_3 l0_3.length c0_3]) (t := 27) ?_; intro gb214 hg w4 hbox hb; have BK214 := sd_ (hbox); have GW214 := sd_ (gs_ hg (bw0_ HB.out)); have GE214 := sd_ (gs_ hg (bw0_ HB.out)); replace HB := sd_ (below_step (bw0_ HB.out) hb); clear hb hbox hg))
 (try simp only [Act.put, List.setIfInBounds_toArray, List.set_cons_zero, List.set_cons_succ])
 go_cut [15] (fun v15 wc => ∃ (kq : Nat) (x15_2 : Bool), v15 = .bool x15_2 ∧ Aside0 (spec_l1View.j0 kq l1 x15_2 a0_0 l0_1 l0_2 l0_3 = some r) ∧ Aside0 (kq ≤ k) ∧ Aside0 (wc.heap[gb214]? = some (.cells #[.int .i64 a0_0, (.slice A0_1 l0_1.length c0_1), (.slice A0_2 l0_2.length c0_2), (.slice A0_3 l0_3.length c0_3)] 27 (0, 0))) ∧ Aside0 (Below w.heap.size w wc))
 case first =>
  have H := HC3.out
  clear HC3
  by_cases c5 : 0 < (l1.length : Int)
  ·rw [if_pos c5] at H
   have c5b0 : decide (0 < (l1.length : Int)) = true := decide_eq_true c5
   have c5b1 : decide (0 < l1.length) = true := decide_eq_true (by omega)
   clear c5
   (first | rw [c5b0] | (simp only [i64_w, i32_w]; rw [c5b0]) | skip)
   obtain ⟨bq6, hbq6⟩ : ∃ b_ : Bool, b_ = (rdOf false l1 0) := ⟨_, rfl⟩
   replace H : (if bq6 = true then (spec_l1View.j0 k l1 true a0_0 l0_1 l0_2 l0_3) else (if 1 < (l1.length : Int) then (spec_l1View.j0 k l1 (!(rdOf false l1 1)) a0_0 l0_1 l0_2 l0_3) else (none))) = some r := by rw [← hbq6] at H; exact H
   have Nbq6 := sd_ hbq6
   clear hbq6
   by_cases c7 : bq6 = true
   ·subst c7
    have H1 : (spec_l1View.j0 k l1 true a0_0 l0_1 l0_2 l0_3) = some r := by rw [if_pos rfl] at H; exact H
    clear H
    have H := H1
    clear H1
    have H' := sd_ H
    clear H
    have p215 : 0 ≤ (0 : Int) := (by omega)
    have q215 : 0 < (l1.length : Int) := dt_
    obtain ⟨ad215, e215, hx215_0⟩ := Kd.at_bool HR1.out 0 p215 q215
    (try rw [← Nbq6.out] at hx215_0)
    cases e215
    have qi215 : (0 < l1.length) = True := eq_true (by omega)
    (try rw [show ((0 : Int)).toNat = 0 from rfl] at hx215_0)
    (try rw [Addr.add_zero'] at hx215_0)
    replace hx215_0 := (HB.out.cell (World.block_lt_of_cell? w _ hx215_0)).trans hx215_0
    replace p215 := eq_true p215
    replace q215 := eq_true q215
    go_wp2
    go_meet
    case rel => exact ⟨_, (true), sm_, H', ⟨by first | omega | exact Nat.le_refl _⟩, ⟨by exact bz_ BK214.out⟩, ⟨bw1_ HB.out GE214.out⟩⟩
   replace c7 := Bool.eq_false_iff.mpr c7
   subst c7
   have H1 : (if 1 < (l1.length : Int) then (spec_l1View.j0 k l1 (!(rdOf false l1 1)) a0_0 l0_1 l0_2 l0_3) else (none)) = some r := by rw [if_neg (show ¬ (false = true) by decide)] at H; exact H
   clear H
   have H := H1
   clear H1
   by_cases c8 : 1 < (l1.length : Int)
   ·rw [if_pos c8] at H
    have c8b0 : decide (1 < (l1.length : Int)) = true := decide_eq_true c8
    have c8b1 : decide (1 < l1.length) = true := decide_eq_true (by omega)
    clear c8
    have H' := sd_ H
    clear H
    have p215 : 0 ≤ (0 : Int) := (by omega)
    have q215 : 0 < (l1.length : Int) := dt_
    obtain ⟨ad215, e215, hx215_0⟩ := Kd.at_bool HR1.out 0 p215 q215
    (try rw [← Nbq6.out] at hx215_0)
    cases e215
    have qi215 : (0 < l1.length) = True := eq_true (by omega)
    (try rw [show ((0 : Int)).toNat = 0 from rfl] at hx215_0)
    (try rw [Addr.add_zero'] at hx215_0)
    replace hx215_0 := (HB.out.cell (World.block_lt_of_cell? w _ hx215_0)).trans hx215_0
    replace p215 := eq_true p215
    replace q215 := eq_true q215
    have p216 : 0 ≤ (1 : Int) := (by omega)
    have q216 : 1 < (l1.length : Int) := dt_
    obtain ⟨ad216, e216, hx216_0⟩ := Kd.at_bool HR1.out 1 p216 q216
    (try rw [← Nbq6.out] at hx216_0)
    obtain rfl : ad215 = ad216 := (by injection e216)
    (try simp only [show (1 : Int).toNat = 1 from rfl, Nat.reduceMul, Nat.reduceEqDiff, Go.Addr.add, ↓reduceIte] at hx216_0)
    have qi216 : (1 < l1.length) = True := eq_true (by omega)
    (try rw [show ((1 : Int)).toNat = 1 from rfl] at hx216_0)
    replace hx216_0 := (HB.out.cell (World.block_lt_of_cell? w _ hx216_0)).trans hx216_0
    replace p216 := eq_true p216
    replace q216 := eq_true q216
    go_wp2
    go_meet
    case rel => exact ⟨_, (!(rdOf false l1 1)), sm_, H', ⟨by first | omega | exact Nat.le_refl _⟩, ⟨by exact bz_ BK214.out⟩, ⟨bw1_ HB.out GE214.out⟩⟩
   rw [if_neg c8] at H
   exact absurd H (by simp)
  rw [if_neg c5] at H
  exact absurd H (by simp)
 case rest =>
  clear HC3
  try clear c1
  obtain ⟨kq, x15_2, rfl, HA, HJ2, BK214, HB⟩ := hcut
  cases kq with
  | zero => exact absurd HA.out (by simp [spec_l1View.j0])
  | succ kj2 =>
   have H := HA.out
   clear HA
   simp only [spec_l1View.j0] at H
   by_cases c9 : x15_2 = true
   ·subst c9
    have H1 : (some false) = some r := by rw [if_pos rfl] at H; exact H
    clear H
    have H := H1
    clear H1
    obtain rfl := Option.some.inj H
    go_wp2
    go_ret
    exact ⟨an_, bw1_ HB.out GE214.out⟩
   replace c9 := Bool.eq_false_iff.mpr c9
   subst c9
   have H1 : (spec_l1View.l0 kj2 l1 0 a0_0 l0_1 l0_2 l0_3) = some r := by rw [if_neg (show ¬ (false = true) by decide)] at H; exact H
   clear H
   have H := H1
   clear H1
   have H' := sd_ H
   clear H
   go_wp2
   go_loopg [5] kj2 (fun kq v5 w' => ∃ (x5_2 : Int), v5 = .int .i64 x5_2 ∧ Aside0 (spec_l1View.l0 kq l1 x5_2 a0_0 l0_1 l0_2 l0_3 = some r) ∧ Aside0 (kq ≤ kj2) ∧ Aside0 (w'.heap[gb214]? = some (.cells #[.int .i64 a0_0, (.slice A0_1 l0_1.length c0_1), (.slice A0_2 l0_2.length c0_2), (.slice A0_3 l0_3.length c0_3)] 27 (0, 0))) ∧ Aside0 (Below w.heap.size w w'))
   case atStart => exact ⟨(0), sm_, H', ⟨Nat.le_refl _⟩, ⟨by exact bz_ BK214.out⟩, ⟨bw1_ HB.out GE214.out⟩⟩
   case round =>
    clear H'
    try clear c1
    try clear p2
    try clear c9
    obtain ⟨x5_2, rfl, HA, HK2, BK214, HB⟩ := hrel
    cases gk with
    | zero => exact absurd HA.out (by simp [spec_l1View.l0])
    | succ k2 =>
     have H := HA.out
     clear HA
     simp only [spec_l1View.l0] at H
     by_cases c10 : x5_2 < a0_0
     ·rw [if_pos c10] at H
      have c10b0 : decide (x5_2 < a0_0) = true := decide_eq_true c10
      clear c10
      have H' := sd_ H
      clear H
      obtain ⟨hcz11_0, hcz11_1, hcz11_2, hcz11_3, hfz11_0, hfz11_1, hfz11_2, hfz11_3⟩ := bf4_ BK214.out
      go_wp2
      go_loopg [6] k2 (fun kq v6 w' => ∃ (x6_3 : Int), v6 = .int .i64 x6_3 ∧ Aside0 (spec_l1View.l1 kq l1 x5_2 x6_3 a0_0 l0_1 l0_2 l0_3 = some r) ∧ Aside0 (kq ≤ k2) ∧ Aside0 (w'.heap[gb214]? = some (.cells #[.int .i64 a0_0, (.slice A0_1 l0_1.length c0_1), (.slice A0_2 l0_2.length c0_2), (.slice A0_3 l0_3.length c0_3)] 27 (0, 0))) ∧ Aside0 (Below w.heap.size w w'))
      case atStart => exact ⟨(0), sm_, H', ⟨Nat.le_refl _⟩, ⟨by exact bz_ BK214.out⟩, ⟨bw1_ HB.out GE214.out⟩⟩
      case round =>
       clear H'
       try clear c1
       try clear p2
       try clear c9
       try clear c10
       try clear c10b0
       try clear hcz11_0
       try clear hcz11_1
       try clear hcz11_2
       try clear hcz11_3
       try clear hfz11_0
       try clear hfz11_1
       try clear hfz11_2
       try clear hfz11_3
       try clear p2
       obtain ⟨x6_3, rfl, HA, HK3, BK214, HB⟩ := hrel
       cases gk with
       | zero => exact absurd HA.out (by simp [spec_l1View.l1])
       | succ k3 =>
        have H := HA.out
        clear HA
        simp only [spec_l1View.l1] at H
        by_cases c12 : x6_3 < a0_0
        ·rw [if_pos c12] at H
         have c12b0 : decide (x6_3 < a0_0) = true := decide_eq_true c12
         clear c12
         replace H := Option.bind_eq_some_iff.mp H
         obtain ⟨t217, A130, H⟩ := H
         try dsimp only at H
         have A13 := sd_ A130
         clear A130
         by_cases c14 : 0 ≤ t217
         ·rw [if_pos c14] at H
          have c14b0 : decide (0 ≤ t217) = true := decide_eq_true c14
          clear c14
          by_cases c15 : t217 < (l1.length : Int)
          ·rw [if_pos c15] at H
           have c15b0 : decide (t217 < (l1.length : Int)) = true := decide_eq_true c15
           clear c15
           by_cases c16 : 0 ≤ x5_2
           ·rw [if_pos c16] at H
            have c16b0 : decide (0 ≤ x5_2) = true := decide_eq_true c16
            clear c16
            by_cases c17 : x5_2 < (l1.length : Int)
            ·rw [if_pos c17] at H
             have c17b0 : decide (x5_2 < (l1.length : Int)) = true := decide_eq_true c17
             clear c17
             obtain ⟨bq18, hbq18⟩ : ∃ b_ : Bool, b_ = (rdOf false l1 x5_2) := ⟨_, rfl⟩
             replace H : (if bq18 = true then (if ((rdOf false l1 t217) != true) = true then (some false) else ((spec_l1Mul.f a0_0 l0_1 l0_2 l0_3 x5_2 x6_3).bind fun t220 => (if 0 ≤ t220 then (if t220 < (l1.length : Int) then (if 0 ≤ x6_3 then (if x6_3 < (l1.length : Int) then (if ((rdOf false l1 t220) != (rdOf false l1 x6_3)) = true then (some false) else ((spec_l1Le.f a0_0 l0_1 l0_2 l0_3 x5_2 x6_3).bind fun t225 => (if t225 = true then (if rdOf false l1 x6_3 = true then (spec_l1View.l1 k3 l1 x5_2 (wrap64 (x6_3 + 1)) a0_0 l0_1 l0_2 l0_3) else (some false)) else (spec_l1View.l1 k3 l1 x5_2 (wrap64 (x6_3 + 1)) a0_0 l0_1 l0_2 l0_3)))) else (none)) else (none)) else (none)) else (none)))) else (if 0 ≤ x6_3 then (if x6_3 < (l1.length : Int) then (if ((rdOf false l1 t217) != (rdOf false l1 x6_3)) = true then (some false) else ((spec_l1Mul.f a0_0 l0_1 l0_2 l0_3 x5_2 x6_3).bind fun t228 => (if 0 ≤ t228 then (if t228 < (l1.length : Int) then (if ((rdOf false l1 t228) != false) = true then (some false) else (spec_l1View.l1 k3 l1 x5_2 (wrap64 (x6_3 + 1)) a0_0 l0_1 l0_2 l0_3)) else (none)) else (none)))) else (none)) else (none))) = some r := by rw [← hbq18] at H; exact H
             have Nbq18 := sd_ hbq18
             clear hbq18
             by_cases c19 : bq18 = true
             ·subst c19
              have H1 : (if ((rdOf false l1 t217) != true) = true then (some false) else ((spec_l1Mul.f a0_0 l0_1 l0_2 l0_3 x5_2 x6_3).bind fun t220 => (if 0 ≤ t220 then (if t220 < (l1.length : Int) then (if 0 ≤ x6_3 then (if x6_3 < (l1.length : Int) then (if ((rdOf false l1 t220) != (rdOf false l1 x6_3)) = true then (some false) else ((spec_l1Le.f a0_0 l0_1 l0_2 l0_3 x5_2 x6_3).bind fun t225 => (if t225 = true then (if rdOf false l1 x6_3 = true then (spec_l1View.l1 k3 l1 x5_2 (wrap64 (x6_3 + 1)) a0_0 l0_1 l0_2 l0_3) else (some false)) else (spec_l1View.l1 k3 l1 x5_2 (wrap64 (x6_3 + 1)) a0_0 l0_1 l0_2 l0_3)))) else (none)) else (none)) else (none)) else (none)))) = some r := by rw [if_pos rfl] at H; exact H
              clear H
              have H := H1
              clear H1
              by_cases c20 : ((rdOf false l1 t217) != true) = true
              ·rw [if_pos c20] at H
               have c20b0 : ((rdOf false l1 t217) != true) = true := c20
               (try (have c20b1 : decide ((rdOf false l1 t217) = true) = false := by simpa using c20))
               (try (have c20b2 : ((rdOf false l1 t217) == true) = false := by simpa using c20))
               (try (have c20b3 : ¬ ((rdOf false l1 t217) = true) := by simpa using c20))
               clear c20
               obtain rfl := Option.some.inj H
               obtain ⟨hcz21_0, hcz21_1, hcz21_2, hcz21_3, hfz21_0, hfz21_1, hfz21_2, hfz21_3⟩ := bf4_ BK214.out
               try go_wp2
               (try (have c20s := c20b0; (try simp only [← Nbq18.out] at c20s); (try simp at c20s)))
               have p218 : 0 ≤ (t217 : Int) := dt_
               have q218 : t217 < (l1.length : Int) := dt_
               obtain ⟨ad218, e218, hx218_0⟩ := Kd.at_bool HR1.out t217 p218 q218
               (try rw [← Nbq18.out] at hx218_0)
               cases e218
               replace hx218_0 := (HB.out.cell (World.block_lt_of_cell? w _ hx218_0)).trans hx218_0
               replace p218 := eq_true p218
               replace q218 := eq_true q218
               have p219 : 0 ≤ (x5_2 : Int) := dt_
               have q219 : x5_2 < (l1.length : Int) := dt_
               obtain ⟨ad219, e219, hx219_0⟩ := Kd.at_bool HR1.out x5_2 p219 q219
               (try rw [← Nbq18.out] at hx219_0)
               obtain rfl : ad218 = ad219 := (by injection e219)
               replace hx219_0 := (HB.out.cell (World.block_lt_of_cell? w _ hx219_0)).trans hx219_0
               replace p219 := eq_true p219
               replace q219 := eq_true q219
               refine qb_region (by kernel_rfl) (by kernel_rfl) ?_
               have HQ := fun (wq : World) (hq : Below wr.heap.size wr wq) => below_step HB.out hq
               repeat ((first | (apply qb_skip; (focus rfl)) | (refine qb_callN 32 rfl ?_; apply qb_call 32 rfl Try.func40 (by kernel_rfl) rfl rfl; (focus rfl); (focus (exact fun wq9 hb9 => qb_b hb9 (spec_l1Add.calls a0_0 _ _ l0_1 _ _ l0_2 _ _ l0_3 x5_2 x6_3 t217 _ (Kd.C_below HR0_1.out (HQ _ hb9)) HC0_1.out (Kd.C_below HR0_2.out (HQ _ hb9)) HC0_2.out (Kd.C_below HR0_3.out (HQ _ hb9)) HC0_3.out A13.out))); (focus (rfl))) | (apply qb_val; (focus rfl); (focus (intro wq9 _; go_simp; with_reducible rfl))) | (apply qb_val; (focus rfl); (focus (intro wq9 hb9_; have hb9 : Below wr.heap.size wr wq9 := hb9_; have BK214 := sd_ (blk_below BK214.out hb9); have hc9_214_0 : wq9.cell? ⟨gb214, 0, none⟩ = some (.int .i64 a0_0) := (blk_cell BK214.out 0).trans rfl; have hc9_214_1 : wq9.cell? ⟨gb214, 1, none⟩ = some (.slice A0_1 l0_1.length c0_1) := (blk_cell BK214.out 1).trans rfl; have hc9_214_2 : wq9.cell? ⟨gb214, 2, none⟩ = some (.slice A0_2 l0_2.length c0_2) := (blk_cell BK214.out 2).trans rfl; have hc9_214_3 : wq9.cell? ⟨gb214, 3, none⟩ = some (.slice A0_3 l0_3.length c0_3) := (blk_cell BK214.out 3).trans rfl; have hx218_0 := (hb9.cell (World.block_lt_of_cell? _ _ hx218_0)).trans hx218_0; have hx219_0 := (hb9.cell (World.block_lt_of_cell? _ _ hx219_0)).trans hx219_0; go_simp; with_reducible rfl)))); (focus (simp only [Act.put, List.setIfInBounds_toArray, List.set_cons_zero, List.set_cons_succ, i64_w, i32_w]; rfl)))
               refine qb_nil ?_
               intro w23 hb
               replace BK214 := sd_ (blk_below BK214.out hb)
               replace HB := sd_ (below_step HB.out hb)
               clear hb
               (try clear HQ)
               try go_wp2
               go_ret
               exact ⟨an_, bw1_ HB.out GE214.out⟩
              rw [if_neg c20] at H
              have c20b0 : ((rdOf false l1 t217) != true) = false := by simpa using c20
              (try (have c20b1 : decide ((rdOf false l1 t217) = true) = true := by simpa using c20))
              (try (have c20b2 : ((rdOf false l1 t217) == true) = true := by simpa using c20))
              clear c20
              replace H := Option.bind_eq_some_iff.mp H
              obtain ⟨t220, A240, H⟩ := H
              try dsimp only at H
              have A24 := sd_ A240
              clear A240
              by_cases c25 : 0 ≤ t220
              ·rw [if_pos c25] at H
               have c25b0 : decide (0 ≤ t220) = true := decide_eq_true c25
               clear c25
               by_cases c26 : t220 < (l1.length : Int)
               ·rw [if_pos c26] at H
                have c26b0 : decide (t220 < (l1.length : Int)) = true := decide_eq_true c26
                clear c26
                by_cases c27 : 0 ≤ x6_3
                ·rw [if_pos c27] at H
                 have c27b0 : decide (0 ≤ x6_3) = true := decide_eq_true c27
                 clear c27
                 by_cases c28 : x6_3 < (l1.length : Int)
                 ·rw [if_pos c28] at H
                  have c28b0 : decide (x6_3 < (l1.length : Int)) = true := decide_eq_true c28
                  clear c28
                  by_cases c29 : ((rdOf false l1 t220) != (rdOf false l1 x6_3)) = true
                  ·rw [if_pos c29] at H
                   have c29b0 : ((rdOf false l1 t220) != (rdOf false l1 x6_3)) = true := c29
                   (try (have c29b1 : decide ((rdOf false l1 t220) = (rdOf false l1 x6_3)) = false := by simpa using c29))
                   (try (have c29b2 : ((rdOf false l1 t220) == (rdOf false l1 x6_3)) = false := by simpa using c29))
                   (try (have c29b3 : ¬ ((rdOf false l1 t220) = (rdOf false l1 x6_3)) := by simpa using c29))
                   clear c29
                   obtain rfl := Option.some.inj H
                   obtain ⟨hcz30_0, hcz30_1, hcz30_2, hcz30_3, hfz30_0, hfz30_1, hfz30_2, hfz30_3⟩ := bf4_ BK214.out
                   try go_wp2
                   (try (have c20s := c20b0; (try simp only [← Nbq18.out] at c20s); (try simp at c20s)))
                   (try (have c29s := c29b0; (try simp only [← Nbq18.out] at c29s); (try simp at c29s)))
                   have p218 : 0 ≤ (t217 : Int) := dt_
                   have q218 : t217 < (l1.length : Int) := dt_
                   obtain ⟨ad218, e218, hx218_0⟩ := Kd.at_bool HR1.out t217 p218 q218
                   (try rw [← Nbq18.out] at hx218_0)
                   cases e218
                   replace hx218_0 := (HB.out.cell (World.block_lt_of_cell? w _ hx218_0)).trans hx218_0
                   replace p218 := eq_true p218
                   replace q218 := eq_true q218
                   have p219 : 0 ≤ (x5_2 : Int) := dt_
                   have q219 : x5_2 < (l1.length : Int) := dt_
                   obtain ⟨ad219, e219, hx219_0⟩ := Kd.at_bool HR1.out x5_2 p219 q219
                   (try rw [← Nbq18.out] at hx219_0)
                   obtain rfl : ad218 = ad219 := (by injection e219)
                   replace hx219_0 := (HB.out.cell (World.block_lt_of_cell? w _ hx219_0)).trans hx219_0
                   replace p219 := eq_true p219
                   replace q219 := eq_true q219
                   have p221 : 0 ≤ (t220 : Int) := dt_
                   have q221 : t220 < (l1.length : Int) := dt_
                   obtain ⟨ad221, e221, hx221_0⟩ := Kd.at_bool HR1.out t220 p221 q221
                   (try rw [← Nbq18.out] at hx221_0)
                   obtain rfl : ad218 = ad221 := (by injection e221)
                   replace hx221_0 := (HB.out.cell (World.block_lt_of_cell? w _ hx221_0)).trans hx221_0
                   replace p221 := eq_true p221
                   replace q221 := eq_true q221
                   have p222 : 0 ≤ (x5_2 : Int) := dt_
                   have q222 : x5_2 < (l1.length : Int) := dt_
                   obtain ⟨ad222, e222, hx222_0⟩ := Kd.at_bool HR1.out x5_2 p222 q222
                   (try rw [← Nbq18.out] at hx222_0)
                   obtain rfl : ad218 = ad222 := (by injection e222)
                   replace hx222_0 := (HB.out.cell (World.block_lt_of_cell? w _ hx222_0)).trans hx222_0
                   replace p222 := eq_true p222
                   replace q222 := eq_true q222
                   have p223 : 0 ≤ (x6_3 : Int) := dt_
                   have q223 : x6_3 < (l1.length : Int) := dt_
                   obtain ⟨ad223, e223, hx223_0⟩ := Kd.at_bool HR1.out x6_3 p223 q223
                   (try rw [← Nbq18.out] at hx223_0)
                   obtain rfl : ad218 = ad223 := (by injection e223)
                   replace hx223_0 := (HB.out.cell (World.block_lt_of_cell? w _ hx223_0)).trans hx223_0
                   replace p223 := eq_true p223
                   replace q223 := eq_true q223
                   refine qb_region (by kernel_rfl) (by kernel_rfl) ?_
                   have HQ := fun (wq : World) (hq : Below wr.heap.size wr wq) => below_step HB.out hq
                   repeat ((first | (apply qb_skip; (focus rfl)) | (refine qb_callN 32 rfl ?_; apply qb_call 32 rfl Try.func40 (by kernel_rfl) rfl rfl; (focus rfl); (focus (exact fun wq9 hb9 => qb_b hb9 (spec_l1Add.calls a0_0 _ _ l0_1 _ _ l0_2 _ _ l0_3 x5_2 x6_3 t217 _ (Kd.C_below HR0_1.out (HQ _ hb9)) HC0_1.out (Kd.C_below HR0_2.out (HQ _ hb9)) HC0_2.out (Kd.C_below HR0_3.out (HQ _ hb9)) HC0_3.out A13.out))); (focus (rfl))) | (refine qb_callN 51 rfl ?_; apply qb_call 51 rfl Try.func41 (by kernel_rfl) rfl rfl; (focus rfl); (focus (exact fun wq9 hb9 => qb_b hb9 (spec_l1Mul.calls a0_0 _ _ l0_1 _ _ l0_2 _ _ l0_3 x5_2 x6_3 t220 _ (Kd.C_below HR0_1.out (HQ _ hb9)) HC0_1.out (Kd.C_below HR0_2.out (HQ _ hb9)) HC0_2.out (Kd.C_below HR0_3.out (HQ _ hb9)) HC0_3.out A24.out))); (focus (rfl))) | (apply qb_val; (focus rfl); (focus (intro wq9 _; go_simp; with_reducible rfl))) | (apply qb_val; (focus rfl); (focus (intro wq9 hb9_; have hb9 : Below wr.heap.size wr wq9 := hb9_; have BK214 := sd_ (blk_below BK214.out hb9); have hc9_214_0 : wq9.cell? ⟨gb214, 0, none⟩ = some (.int .i64 a0_0) := (blk_cell BK214.out 0).trans rfl; have hc9_214_1 : wq9.cell? ⟨gb214, 1, none⟩ = some (.slice A0_1 l0_1.length c0_1) := (blk_cell BK214.out 1).trans rfl; have hc9_214_2 : wq9.cell? ⟨gb214, 2, none⟩ = some (.slice A0_2 l0_2.length c0_2) := (blk_cell BK214.out 2).trans rfl; have hc9_214_3 : wq9.cell? ⟨gb214, 3, none⟩ = some (.slice A0_3 l0_3.length c0_3) := (blk_cell BK214.out 3).trans rfl; have hx218_0 := (hb9.cell (World.block_lt_of_cell? _ _ hx218_0)).trans hx218_0; have hx219_0 := (hb9.cell (World.block_lt_of_cell? _ _ hx219_0)).trans hx219_0; have hx221_0 := (hb9.cell (World.block_lt_of_cell? _ _ hx221_0)).trans hx221_0; have hx222_0 := (hb9.cell (World.block_lt_of_cell? _ _ hx222_0)).trans hx222_0; have hx223_0 := (hb9.cell (World.block_lt_of_cell? _ _ hx223_0)).trans hx223_0; go_simp; with_reducible rfl)))); (focus (simp only [Act.put, List.setIfInBounds_toArray, List.set_cons_zero, List.set_cons_succ, i64_w, i32_w]; rfl)))
                   refine qb_nil ?_
                   intro w33 hb
                   replace BK214 := sd_ (blk_below BK214.out hb)
                   replace HB := sd_ (below_step HB.out hb)
                   clear hb
                   (try clear HQ)
                   try go_wp2
                   go_ret
                   exact ⟨an_, bw1_ HB.out GE214.out⟩
                  rw [if_neg c29] at H
                  have c29b0 : ((rdOf false l1 t220) != (rdOf false l1 x6_3)) = false := by simpa using c29
                  (try (have c29b1 : decide ((rdOf false l1 t220) = (rdOf false l1 x6_3)) = true := by simpa using c29))
                  (try (have c29b2 : ((rdOf false l1 t220) == (rdOf false l1 x6_3)) = true := by simpa using c29))
                  clear c29
                  replace H := Option.bind_eq_some_iff.mp H
                  obtain ⟨t225, A340, H⟩ := H
                  try dsimp only at H
                  have A34 := sd_ A340
                  clear A340
                  by_cases c35 : t225 = true
                  ·subst c35
                   have H1 : (if rdOf false l1 x6_3 = true then (spec_l1View.l1 k3 l1 x5_2 (wrap64 (x6_3 + 1)) a0_0 l0_1 l0_2 l0_3) else (some false)) = some r := by rw [if_pos rfl] at H; exact H
                   clear H
                   have H := H1
                   clear H1
                   obtain ⟨bq36, hbq36⟩ : ∃ b_ : Bool, b_ = (rdOf false l1 x6_3) := ⟨_, rfl⟩
                   replace H : (if bq36 = true then (spec_l1View.l1 k3 l1 x5_2 (wrap64 (x6_3 + 1)) a0_0 l0_1 l0_2 l0_3) else (some false)) = some r := by rw [← hbq36] at H; exact H
                   have Nbq36 := sd_ hbq36
                   clear hbq36
                   by_cases c37 : bq36 = true
                   ·subst c37
                    have H1 : (spec_l1View.l1 k3 l1 x5_2 (wrap64 (x6_3 + 1)) a0_0 l0_1 l0_2 l0_3) = some r := by rw [if_pos rfl] at H; exact H
                    clear H
                    have H := H1
                    clear H1
                    have H' := sd_ H
                    clear H
                    obtain ⟨hcz38_0, hcz38_1, hcz38_2, hcz38_3, hfz38_0, hfz38_1, hfz38_2, hfz38_3⟩ := bf4_ BK214.out
                    try go_wp2
                    (try (have c20s := c20b0; (try simp only [← Nbq18.out, ← Nbq36.out] at c20s); (try simp at c20s)))
                    (try (have c29s := c29b0; (try simp only [← Nbq18.out, ← Nbq36.out] at c29s); (try simp at c29s)))
                    have p218 : 0 ≤ (t217 : Int) := dt_
                    have q218 : t217 < (l1.length : Int) := dt_
                    obtain ⟨ad218, e218, hx218_0⟩ := Kd.at_bool HR1.out t217 p218 q218
                    (try rw [← Nbq18.out] at hx218_0)
                    (try rw [← Nbq36.out] at hx218_0)
                    cases e218
                    replace hx218_0 := (HB.out.cell (World.block_lt_of_cell? w _ hx218_0)).trans hx218_0
                    replace p218 := eq_true p218
                    replace q218 := eq_true q218
                    have p219 : 0 ≤ (x5_2 : Int) := dt_
                    have q219 : x5_2 < (l1.length : Int) := dt_
                    obtain ⟨ad219, e219, hx219_0⟩ := Kd.at_bool HR1.out x5_2 p219 q219
                    (try rw [← Nbq18.out] at hx219_0)
                    (try rw [← Nbq36.out] at hx219_0)
                    obtain rfl : ad218 = ad219 := (by injection e219)
                    replace hx219_0 := (HB.out.cell (World.block_lt_of_cell? w _ hx219_0)).trans hx219_0
                    replace p219 := eq_true p219
                    replace q219 := eq_true q219
                    have p221 : 0 ≤ (t220 : Int) := dt_
                    have q221 : t220 < (l1.length : Int) := dt_
                    obtain ⟨ad221, e221, hx221_0⟩ := Kd.at_bool HR1.out t220 p221 q221
                    (try rw [← Nbq18.out] at hx221_0)
                    (try rw [← Nbq36.out] at hx221_0)
                    obtain rfl : ad218 = ad221 := (by injection e221)
                    replace hx221_0 := (HB.out.cell (World.block_lt_of_cell? w _ hx221_0)).trans hx221_0
                    replace p221 := eq_true p221
                    replace q221 := eq_true q221
                    have p222 : 0 ≤ (x5_2 : Int) := dt_
                    have q222 : x5_2 < (l1.length : Int) := dt_
                    obtain ⟨ad222, e222, hx222_0⟩ := Kd.at_bool HR1.out x5_2 p222 q222
                    (try rw [← Nbq18.out] at hx222_0)
                    (try rw [← Nbq36.out] at hx222_0)
                    obtain rfl : ad218 = ad222 := (by injection e222)
                    replace hx222_0 := (HB.out.cell (World.block_lt_of_cell? w _ hx222_0)).trans hx222_0
                    replace p222 := eq_true p222
                    replace q222 := eq_true q222
                    have p223 : 0 ≤ (x6_3 : Int) := dt_
                    have q223 : x6_3 < (l1.length : Int) := dt_
                    obtain ⟨ad223, e223, hx223_0⟩ := Kd.at_bool HR1.out x6_3 p223 q223
                    (try rw [← Nbq18.out] at hx223_0)
                    (try rw [← Nbq36.out] at hx223_0)
                    obtain rfl : ad218 = ad223 := (by injection e223)
                    replace hx223_0 := (HB.out.cell (World.block_lt_of_cell? w _ hx223_0)).trans hx223_0
                    replace p223 := eq_true p223
                    replace q223 := eq_true q223
                    have p224 : 0 ≤ (x5_2 : Int) := dt_
                    have q224 : x5_2 < (l1.length : Int) := dt_
                    obtain ⟨ad224, e224, hx224_0⟩ := Kd.at_bool HR1.out x5_2 p224 q224
                    (try rw [← Nbq18.out] at hx224_0)
                    (try rw [← Nbq36.out] at hx224_0)
                    obtain rfl : ad218 = ad224 := (by injection e224)
                    replace hx224_0 := (HB.out.cell (World.block_lt_of_cell? w _ hx224_0)).trans hx224_0
                    replace p224 := eq_true p224
                    replace q224 := eq_true q224
                    have p226 : 0 ≤ (x6_3 : Int) := dt_
                    have q226 : x6_3 < (l1.length : Int) := dt_
                    obtain ⟨ad226, e226, hx226_0⟩ := Kd.at_bool HR1.out x6_3 p226 q226
                    (try rw [← Nbq18.out] at hx226_0)
                    (try rw [← Nbq36.out] at hx226_0)
                    obtain rfl : ad218 = ad226 := (by injection e226)
                    replace hx226_0 := (HB.out.cell (World.block_lt_of_cell? w _ hx226_0)).trans hx226_0
                    replace p226 := eq_true p226
                    replace q226 := eq_true q226
                    refine qb_region (by kernel_rfl) (by kernel_rfl) ?_
                    have HQ := fun (wq : World) (hq : Below wr.heap.size wr wq) => below_step HB.out hq
                    repeat ((first | (apply qb_skip; (focus rfl)) | (refine qb_callN 32 rfl ?_; apply qb_call 32 rfl Try.func40 (by kernel_rfl) rfl rfl; (focus rfl); (focus (exact fun wq9 hb9 => qb_b hb9 (spec_l1Add.calls a0_0 _ _ l0_1 _ _ l0_2 _ _ l0_3 x5_2 x6_3 t217 _ (Kd.C_below HR0_1.out (HQ _ hb9)) HC0_1.out (Kd.C_below HR0_2.out (HQ _ hb9)) HC0_2.out (Kd.C_below HR0_3.out (HQ _ hb9)) HC0_3.out A13.out))); (focus (rfl))) | (refine qb_callN 51 rfl ?_; apply qb_call 51 rfl Try.func41 (by kernel_rfl) rfl rfl; (focus rfl); (focus (exact fun wq9 hb9 => qb_b hb9 (spec_l1Mul.calls a0_0 _ _ l0_1 _ _ l0_2 _ _ l0_3 x5_2 x6_3 t220 _ (Kd.C_below HR0_1.out (HQ _ hb9)) HC0_1.out (Kd.C_below HR0_2.out (HQ _ hb9)) HC0_2.out (Kd.C_below HR0_3.out (HQ _ hb9)) HC0_3.out A24.out))); (focus (rfl))) | (refine qb_callN 75 rfl ?_; apply qb_call 75 rfl Try.func42 (by kernel_rfl) rfl rfl; (focus rfl); (focus (exact fun wq9 hb9 => qb_b hb9 (spec_l1Le.calls a0_0 _ _ l0_1 _ _ l0_2 _ _ l0_3 x5_2 x6_3 true _ (Kd.C_below HR0_1.out (HQ _ hb9)) HC0_1.out (Kd.C_below HR0_2.out (HQ _ hb9)) HC0_2.out (Kd.C_below HR0_3.out (HQ _ hb9)) HC0_3.out A34.out))); (focus (rfl))) | (apply qb_val; (focus rfl); (focus (intro wq9 _; go_simp; with_reducible rfl))) | (apply qb_val; (focus rfl); (focus (intro wq9 hb9_; have hb9 : Below wr.heap.size wr wq9 := hb9_; have BK214 := sd_ (blk_below BK214.out hb9); have hc9_214_0 : wq9.cell? ⟨gb214, 0, none⟩ = some (.int .i64 a0_0) := (blk_cell BK214.out 0).trans rfl; have hc9_214_1 : wq9.cell? ⟨gb214, 1, none⟩ = some (.slice A0_1 l0_1.length c0_1) := (blk_cell BK214.out 1).trans rfl; have hc9_214_2 : wq9.cell? ⟨gb214, 2, none⟩ = some (.slice A0_2 l0_2.length c0_2) := (blk_cell BK214.out 2).trans rfl; have hc9_214_3 : wq9.cell? ⟨gb214, 3, none⟩ = some (.slice A0_3 l0_3.length c0_3) := (blk_cell BK214.out 3).trans rfl; have hx218_0 := (hb9.cell (World.block_lt_of_cell? _ _ hx218_0)).trans hx218_0; have hx219_0 := (hb9.cell (World.block_lt_of_cell? _ _ hx219_0)).trans hx219_0; have hx221_0 := (hb9.cell (World.block_lt_of_cell? _ _ hx221_0)).trans hx221_0; have hx222_0 := (hb9.cell (World.block_lt_of_cell? _ _ hx222_0)).trans hx222_0; have hx223_0 := (hb9.cell (World.block_lt_of_cell? _ _ hx223_0)).trans hx223_0; have hx224_0 := (hb9.cell (World.block_lt_of_cell? _ _ hx224_0)).trans hx224_0; have hx226_0 := (hb9.cell (World.block_lt_of_cell? _ _ hx226_0)).trans hx226_0; go_simp; with_reducible rfl)))); (focus (simp only [Act.put, List.setIfInBounds_toArray, List.set_cons_zero, List.set_cons_succ, i64_w, i32_w]; rfl)))
                    refine qb_nil ?_
                    intro w42 hb
                    replace BK214 := sd_ (blk_below BK214.out hb)
                    replace HB := sd_ (below_step HB.out hb)
                    clear hb
                    (try clear HQ)
                    try go_wp2
                    go_roundg k3
                    case measure => have := HJ2.out; have := HK2.out; have := HK3.out; omega
                    case rel => exact ⟨(wrap64 (x6_3 + 1)), sm_, H', ⟨by have := HJ2.out; have := HK2.out; have := HK3.out; omega⟩, ⟨by exact bz_ BK214.out⟩, ⟨bw1_ HB.out GE214.out⟩⟩
                   replace c37 := Bool.eq_false_iff.mpr c37
                   subst c37
                   have H1 : (some false) = some r := by rw [if_neg (show ¬ (false = true) by decide)] at H; exact H
                   clear H
                   have H := H1
                   clear H1
                   obtain rfl := Option.some.inj H
                   obtain ⟨hcz43_0, hcz43_1, hcz43_2, hcz43_3, hfz43_0, hfz43_1, hfz43_2, hfz43_3⟩ := bf4_ BK214.out
                   try go_wp2
                   (try (have c20s := c20b0; (try simp only [← Nbq18.out, ← Nbq36.out] at c20s); (try simp at c20s)))
                   (try (have c29s := c29b0; (try simp only [← Nbq18.out, ← Nbq36.out] at c29s); (try simp at c29s)))
                   have p218 : 0 ≤ (t217 : Int) := dt_
                   have q218 : t217 < (l1.length : Int) := dt_
                   obtain ⟨ad218, e218, hx218_0⟩ := Kd.at_bool HR1.out t217 p218 q218
                   (try rw [← Nbq18.out] at hx218_0)
                   (try rw [← Nbq36.out] at hx218_0)
                   cases e218
                   replace hx218_0 := (HB.out.cell (World.block_lt_of_cell? w _ hx218_0)).trans hx218_0
                   replace p218 := eq_true p218
                   replace q218 := eq_true q218
                   have p219 : 0 ≤ (x5_2 : Int) := dt_
                   have q219 : x5_2 < (l1.length : Int) := dt_
                   obtain ⟨ad219, e219, hx219_0⟩ := Kd.at_bool HR1.out x5_2 p219 q219
                   (try rw [← Nbq18.out] at hx219_0)
                   (try rw [← Nbq36.out] at hx219_0)
                   obtain rfl : ad218 = ad219 := (by injection e219)
                   replace hx219_0 := (HB.out.cell (World.block_lt_of_cell? w _ hx219_0)).trans hx219_0
                   replace p219 := eq_true p219
                   replace q219 := eq_true q219
                   have p221 : 0 ≤ (t220 : Int) := dt_
                   have q221 : t220 < (l1.length : Int) := dt_
                   obtain ⟨ad221, e221, hx221_0⟩ := Kd.at_bool HR1.out t220 p221 q221
                   (try rw [← Nbq18.out] at hx221_0)
                   (try rw [← Nbq36.out] at hx221_0)
                   obtain rfl : ad218 = ad221 := (by injection e221)
                   replace hx221_0 := (HB.out.cell (World.block_lt_of_cell? w _ hx221_0)).trans hx221_0
                   replace p221 := eq_true p221
                   replace q221 := eq_true q221
                   have p222 : 0 ≤ (x5_2 : Int) := dt_
                   have q222 : x5_2 < (l1.length : Int) := dt_
                   obtain ⟨ad222, e222, hx222_0⟩ := Kd.at_bool HR1.out x5_2 p222 q222
                   (try rw [← Nbq18.out] at hx222_0)
                   (try rw [← Nbq36.out] at hx222_0)
                   obtain rfl : ad218 = ad222 := (by injection e222)
                   replace hx222_0 := (HB.out.cell (World.block_lt_of_cell? w _ hx222_0)).trans hx222_0
                   replace p222 := eq_true p222
                   replace q222 := eq_true q222
                   have p223 : 0 ≤ (x6_3 : Int) := dt_
                   have q223 : x6_3 < (l1.length : Int) := dt_
                   obtain ⟨ad223, e223, hx223_0⟩ := Kd.at_bool HR1.out x6_3 p223 q223
                   (try rw [← Nbq18.out] at hx223_0)
                   (try rw [← Nbq36.out] at hx223_0)
                   obtain rfl : ad218 = ad223 := (by injection e223)
                   replace hx223_0 := (HB.out.cell (World.block_lt_of_cell? w _ hx223_0)).trans hx223_0
                   replace p223 := eq_true p223
                   replace q223 := eq_true q223
                   have p224 : 0 ≤ (x5_2 : Int) := dt_
                   have q224 : x5_2 < (l1.length : Int) := dt_
                   obtain ⟨ad224, e224, hx224_0⟩ := Kd.at_bool HR1.out x5_2 p224 q224
                   (try rw [← Nbq18.out] at hx224_0)
                   (try rw [← Nbq36.out] at hx224_0)
                   obtain rfl : ad218 = ad224 := (by injection e224)
                   replace hx224_0 := (HB.out.cell (World.block_lt_of_cell? w _ hx224_0)).trans hx224_0
                   replace p224 := eq_true p224
                   replace q224 := eq_true q224
                   have p226 : 0 ≤ (x6_3 : Int) := dt_
                   have q226 : x6_3 < (l1.length : Int) := dt_
                   obtain ⟨ad226, e226, hx226_0⟩ := Kd.at_bool HR1.out x6_3 p226 q226
                   (try rw [← Nbq18.out] at hx226_0)
                   (try rw [← Nbq36.out] at hx226_0)
                   obtain rfl : ad218 = ad226 := (by injection e226)
                   replace hx226_0 := (HB.out.cell (World.block_lt_of_cell? w _ hx226_0)).trans hx226_0
                   replace p226 := eq_true p226
                   replace q226 := eq_true q226
                   refine qb_region (by kernel_rfl) (by kernel_rfl) ?_
                   have HQ := fun (wq : World) (hq : Below wr.heap.size wr wq) => below_step HB.out hq
                   repeat ((first | (apply qb_skip; (focus rfl)) | (refine qb_callN 32 rfl ?_; apply qb_call 32 rfl Try.func40 (by kernel_rfl) rfl rfl; (focus rfl); (focus (exact fun wq9 hb9 => qb_b hb9 (spec_l1Add.calls a0_0 _ _ l0_1 _ _ l0_2 _ _ l0_3 x5_2 x6_3 t217 _ (Kd.C_below HR0_1.out (HQ _ hb9)) HC0_1.out (Kd.C_below HR0_2.out (HQ _ hb9)) HC0_2.out (Kd.C_below HR0_3.out (HQ _ hb9)) HC0_3.out A13.out))); (focus (rfl))) | (refine qb_callN 51 rfl ?_; apply qb_call 51 rfl Try.func41 (by kernel_rfl) rfl rfl; (focus rfl); (focus (exact fun wq9 hb9 => qb_b hb9 (spec_l1Mul.calls a0_0 _ _ l0_1 _ _ l0_2 _ _ l0_3 x5_2 x6_3 t220 _ (Kd.C_below HR0_1.out (HQ _ hb9)) HC0_1.out (Kd.C_below HR0_2.out (HQ _ hb9)) HC0_2.out (Kd.C_below HR0_3.out (HQ _ hb9)) HC0_3.out A24.out))); (focus (rfl))) | (refine qb_callN 75 rfl ?_; apply qb_call 75 rfl Try.func42 (by kernel_rfl) rfl rfl; (focus rfl); (focus (exact fun wq9 hb9 => qb_b hb9 (spec_l1Le.calls a0_0 _ _ l0_1 _ _ l0_2 _ _ l0_3 x5_2 x6_3 true _ (Kd.C_below HR0_1.out (HQ _ hb9)) HC0_1.out (Kd.C_below HR0_2.out (HQ _ hb9)) HC0_2.out (Kd.C_below HR0_3.out (HQ _ hb9)) HC0_3.out A34.out))); (focus (rfl))) | (apply qb_val; (focus rfl); (focus (intro wq9 _; go_simp; with_reducible rfl))) | (apply qb_val; (focus rfl); (focus (intro wq9 hb9_; have hb9 : Below wr.heap.size wr wq9 := hb9_; have BK214 := sd_ (blk_below BK214.out hb9); have hc9_214_0 : wq9.cell? ⟨gb214, 0, none⟩ = some (.int .i64 a0_0) := (blk_cell BK214.out 0).trans rfl; have hc9_214_1 : wq9.cell? ⟨gb214, 1, none⟩ = some (.slice A0_1 l0_1.length c0_1) := (blk_cell BK214.out 1).trans rfl; have hc9_214_2 : wq9.cell? ⟨gb214, 2, none⟩ = some (.slice A0_2 l0_2.length c0_2) := (blk_cell BK214.out 2).trans rfl; have hc9_214_3 : wq9.cell? ⟨gb214, 3, none⟩ = some (.slice A0_3 l0_3.length c0_3) := (blk_cell BK214.out 3).trans rfl; have hx218_0 := (hb9.cell (World.block_lt_of_cell? _ _ hx218_0)).trans hx218_0; have hx219_0 := (hb9.cell (World.block_lt_of_cell? _ _ hx219_0)).trans hx219_0; have hx221_0 := (hb9.cell (World.block_lt_of_cell? _ _ hx221_0)).trans hx221_0; have hx222_0 := (hb9.cell (World.block_lt_of_cell? _ _ hx222_0)).trans hx222_0; have hx223_0 := (hb9.cell (World.block_lt_of_cell? _ _ hx223_0)).trans hx223_0; have hx224_0 := (hb9.cell (World.block_lt_of_cell? _ _ hx224_0)).trans hx224_0; have hx226_0 := (hb9.cell (World.block_lt_of_cell? _ _ hx226_0)).trans hx226_0; go_simp; with_reducible rfl)))); (focus (simp only [Act.put, List.setIfInBounds_toArray, List.set_cons_zero, List.set_cons_succ, i64_w, i32_w]; rfl)))
                   refine qb_nil ?_
                   intro w47 hb
                   replace BK214 := sd_ (blk_below BK214.out hb)
                   replace HB := sd_ (below_step HB.out hb)
                   clear hb
                   (try clear HQ)
                   try go_wp2
                   go_ret
                   exact ⟨an_, bw1_ HB.out GE214.out⟩
                  replace c35 := Bool.eq_false_iff.mpr c35
                  subst c35
                  have H1 : (spec_l1View.l1 k3 l1 x5_2 (wrap64 (x6_3 + 1)) a0_0 l0_1 l0_2 l0_3) = some r := by rw [if_neg (show ¬ (false = true) by decide)] at H; exact H
                  clear H
                  have H := H1
                  clear H1
                  have H' := sd_ H
                  clear H
                  obtain ⟨hcz48_0, hcz48_1, hcz48_2, hcz48_3, hfz48_0, hfz48_1, hfz48_2, hfz48_3⟩ := bf4_ BK214.out
                  try go_wp2
                  (try (have c20s := c20b0; (try simp only [← Nbq18.out] at c20s); (try simp at c20s)))
                  (try (have c29s := c29b0; (try simp only [← Nbq18.out] at c29s); (try simp at c29s)))
                  have p218 : 0 ≤ (t217 : Int) := dt_
                  have q218 : t217 < (l1.length : Int) := dt_
                  obtain ⟨ad218, e218, hx218_0⟩ := Kd.at_bool HR1.out t217 p218 q218
                  (try rw [← Nbq18.out] at hx218_0)
                  cases e218
                  replace hx218_0 := (HB.out.cell (World.block_lt_of_cell? w _ hx218_0)).trans hx218_0
                  replace p218 := eq_true p218
                  replace q218 := eq_true q218
                  have p219 : 0 ≤ (x5_2 : Int) := dt_
                  have q219 : x5_2 < (l1.length : Int) := dt_
                  obtain ⟨ad219, e219, hx219_0⟩ := Kd.at_bool HR1.out x5_2 p219 q219
                  (try rw [← Nbq18.out] at hx219_0)
                  obtain rfl : ad218 = ad219 := (by injection e219)
                  replace hx219_0 := (HB.out.cell (World.block_lt_of_cell? w _ hx219_0)).trans hx219_0
                  replace p219 := eq_true p219
                  replace q219 := eq_true q219
                  have p221 : 0 ≤ (t220 : Int) := dt_
                  have q221 : t220 < (l1.length : Int) := dt_
                  obtain ⟨ad221, e221, hx221_0⟩ := Kd.at_bool HR1.out t220 p221 q221
                  (try rw [← Nbq18.out] at hx221_0)
                  obtain rfl : ad218 = ad221 := (by injection e221)
                  replace hx221_0 := (HB.out.cell (World.block_lt_of_cell? w _ hx221_0)).trans hx221_0
                  replace p221 := eq_true p221
                  replace q221 := eq_true q221
                  have p222 : 0 ≤ (x5_2 : Int) := dt_
                  have q222 : x5_2 < (l1.length : Int) := dt_
                  obtain ⟨ad222, e222, hx222_0⟩ := Kd.at_bool HR1.out x5_2 p222 q222
                  (try rw [← Nbq18.out] at hx222_0)
                  obtain rfl : ad218 = ad222 := (by injection e222)
                  replace hx222_0 := (HB.out.cell (World.block_lt_of_cell? w _ hx222_0)).trans hx222_0
                  replace p222 := eq_true p222
                  replace q222 := eq_true q222
                  have p223 : 0 ≤ (x6_3 : Int) := dt_
                  have q223 : x6_3 < (l1.length : Int) := dt_
                  obtain ⟨ad223, e223, hx223_0⟩ := Kd.at_bool HR1.out x6_3 p223 q223
                  (try rw [← Nbq18.out] at hx223_0)
                  obtain rfl : ad218 = ad223 := (by injection e223)
                  replace hx223_0 := (HB.out.cell (World.block_lt_of_cell? w _ hx223_0)).trans hx223_0
                  replace p223 := eq_true p223
                  replace q223 := eq_true q223
                  have p224 : 0 ≤ (x5_2 : Int) := dt_
                  have q224 : x5_2 < (l1.length : Int) := dt_
                  obtain ⟨ad224, e224, hx224_0⟩ := Kd.at_bool HR1.out x5_2 p224 q224
                  (try rw [← Nbq18.out] at hx224_0)
                  obtain rfl : ad218 = ad224 := (by injection e224)
                  replace hx224_0 := (HB.out.cell (World.block_lt_of_cell? w _ hx224_0)).trans hx224_0
                  replace p224 := eq_true p224
                  replace q224 := eq_true q224
                  refine qb_region (by kernel_rfl) (by kernel_rfl) ?_
                  have HQ := fun (wq : World) (hq : Below wr.heap.size wr wq) => below_step HB.out hq
                  repeat ((first | (apply qb_skip; (focus rfl)) | (refine qb_callN 32 rfl ?_; apply qb_call 32 rfl Try.func40 (by kernel_rfl) rfl rfl; (focus rfl); (focus (exact fun wq9 hb9 => qb_b hb9 (spec_l1Add.calls a0_0 _ _ l0_1 _ _ l0_2 _ _ l0_3 x5_2 x6_3 t217 _ (Kd.C_below HR0_1.out (HQ _ hb9)) HC0_1.out (Kd.C_below HR0_2.out (HQ _ hb9)) HC0_2.out (Kd.C_below HR0_3.out (HQ _ hb9)) HC0_3.out A13.out))); (focus (rfl))) | (refine qb_callN 51 rfl ?_; apply qb_call 51 rfl Try.func41 (by kernel_rfl) rfl rfl; (focus rfl); (focus (exact fun wq9 hb9 => qb_b hb9 (spec_l1Mul.calls a0_0 _ _ l0_1 _ _ l0_2 _ _ l0_3 x5_2 x6_3 t220 _ (Kd.C_below HR0_1.out (HQ _ hb9)) HC0_1.out (Kd.C_below HR0_2.out (HQ _ hb9)) HC0_2.out (Kd.C_below HR0_3.out (HQ _ hb9)) HC0_3.out A24.out))); (focus (rfl))) | (refine qb_callN 75 rfl ?_; apply qb_call 75 rfl Try.func42 (by kernel_rfl) rfl rfl; (focus rfl); (focus (exact fun wq9 hb9 => qb_b hb9 (spec_l1Le.calls a0_0 _ _ l0_1 _ _ l0_2 _ _ l0_3 x5_2 x6_3 false _ (Kd.C_below HR0_1.out (HQ _ hb9)) HC0_1.out (Kd.C_below HR0_2.out (HQ _ hb9)) HC0_2.out (Kd.C_below HR0_3.out (HQ _ hb9)) HC0_3.out A34.out))); (focus (rfl))) | (apply qb_val; (focus rfl); (focus (intro wq9 _; go_simp; with_reducible rfl))) | (apply qb_val; (focus rfl); (focus (intro wq9 hb9_; have hb9 : Below wr.heap.size wr wq9 := hb9_; have BK214 := sd_ (blk_below BK214.out hb9); have hc9_214_0 : wq9.cell? ⟨gb214, 0, none⟩ = some (.int .i64 a0_0) := (blk_cell BK214.out 0).trans rfl; have hc9_214_1 : wq9.cell? ⟨gb214, 1, none⟩ = some (.slice A0_1 l0_1.length c0_1) := (blk_cell BK214.out 1).trans rfl; have hc9_214_2 : wq9.cell? ⟨gb214, 2, none⟩ = some (.slice A0_2 l0_2.length c0_2) := (blk_cell BK214.out 2).trans rfl; have hc9_214_3 : wq9.cell? ⟨gb214, 3, none⟩ = some (.slice A0_3 l0_3.length c0_3) := (blk_cell BK214.out 3).trans rfl; have hx218_0 := (hb9.cell (World.block_lt_of_cell? _ _ hx218_0)).trans hx218_0; have hx219_0 := (hb9.cell (World.block_lt_of_cell? _ _ hx219_0)).trans hx219_0; have hx221_0 := (hb9.cell (World.block_lt_of_cell? _ _ hx221_0)).trans hx221_0; have hx222_0 := (hb9.cell (World.block_lt_of_cell? _ _ hx222_0)).trans hx222_0; have hx223_0 := (hb9.cell (World.block_lt_of_cell? _ _ hx223_0)).trans hx223_0; have hx224_0 := (hb9.cell (World.block_lt_of_cell? _ _ hx224_0)).trans hx224_0; go_simp; with_reducible rfl)))); (focus (simp only [Act.put, List.setIfInBounds_toArray, List.set_cons_zero, List.set_cons_succ, i64_w, i32_w]; rfl)))
                  refine qb_nil ?_
                  intro w52 hb
                  replace BK214 := sd_ (blk_below BK214.out hb)
                  replace HB := sd_ (below_step HB.out hb)
                  clear hb
                  (try clear HQ)
                  try go_wp2
                  go_roundg k3
                  case measure => have := HJ2.out; have := HK2.out; have := HK3.out; omega
                  case rel => exact ⟨(wrap64 (x6_3 + 1)), sm_, H', ⟨by have := HJ2.out; have := HK2.out; have := HK3.out; omega⟩, ⟨by exact bz_ BK214.out⟩, ⟨bw1_ HB.out GE214.out⟩⟩
                 rw [if_neg c28] at H
                 exact absurd H (by simp)
                rw [if_neg c27] at H
                exact absurd H (by simp)
               rw [if_neg c26] at H
               exact absurd H (by simp)
              rw [if_neg c25] at H
              exact absurd H (by simp)
             replace c19 := Bool.eq_false_iff.mpr c19
             subst c19
             have H1 : (if 0 ≤ x6_3 then (if x6_3 < (l1.length : Int) then (if ((rdOf false l1 t217) != (rdOf false l1 x6_3)) = true then (some false) else ((spec_l1Mul.f a0_0 l0_1 l0_2 l0_3 x5_2 x6_3).bind fun t228 => (if 0 ≤ t228 then (if t228 < (l1.length : Int) then (if ((rdOf false l1 t228) != false) = true then (some false) else (spec_l1View.l1 k3 l1 x5_2 (wrap64 (x6_3 + 1)) a0_0 l0_1 l0_2 l0_3)) else (none)) else (none)))) else (none)) else (none)) = some r := by rw [if_neg (show ¬ (false = true) by decide)] at H; exact H
             clear H
             have H := H1
             clear H1
             by_cases c53 : 0 ≤ x6_3
             ·rw [if_pos c53] at H
              have c53b0 : decide (0 ≤ x6_3) = true := decide_eq_true c53
              clear c53
              by_cases c54 : x6_3 < (l1.length : Int)
              ·rw [if_pos c54] at H
               have c54b0 : decide (x6_3 < (l1.length : Int)) = true := decide_eq_true c54
               clear c54
               by_cases c55 : ((rdOf false l1 t217) != (rdOf false l1 x6_3)) = true
               ·rw [if_pos c55] at H
                have c55b0 : ((rdOf false l1 t217) != (rdOf false l1 x6_3)) = true := c55
                (try (have c55b1 : decide ((rdOf false l1 t217) = (rdOf false l1 x6_3)) = false := by simpa using c55))
                (try (have c55b2 : ((rdOf false l1 t217) == (rdOf false l1 x6_3)) = false := by simpa using c55))
                (try (have c55b3 : ¬ ((rdOf false l1 t217) = (rdOf false l1 x6_3)) := by simpa using c55))
                clear c55
                obtain rfl := Option.some.inj H
                obtain ⟨hcz56_0, hcz56_1, hcz56_2, hcz56_3, hfz56_0, hfz56_1, hfz56_2, hfz56_3⟩ := bf4_ BK214.out
                try go_wp2
                (try (have c55s := c55b0; (try simp only [← Nbq18.out] at c55s); (try simp at c55s)))
                have p218 : 0 ≤ (t217 : Int) := dt_
                have q218 : t217 < (l1.length : Int) := dt_
                obtain ⟨ad218, e218, hx218_0⟩ := Kd.at_bool HR1.out t217 p218 q218
                (try rw [← Nbq18.out] at hx218_0)
                cases e218
                replace hx218_0 := (HB.out.cell (World.block_lt_of_cell? w _ hx218_0)).trans hx218_0
                replace p218 := eq_true p218
                replace q218 := eq_true q218
                have p219 : 0 ≤ (x5_2 : Int) := dt_
                have q219 : x5_2 < (l1.length : Int) := dt_
                obtain ⟨ad219, e219, hx219_0⟩ := Kd.at_bool HR1.out x5_2 p219 q219
                (try rw [← Nbq18.out] at hx219_0)
                obtain rfl : ad218 = ad219 := (by injection e219)
                replace hx219_0 := (HB.out.cell (World.block_lt_of_cell? w _ hx219_0)).trans hx219_0
                replace p219 := eq_true p219
                replace q219 := eq_true q219
                have p227 : 0 ≤ (x6_3 : Int) := dt_
                have q227 : x6_3 < (l1.length : Int) := dt_
                obtain ⟨ad227, e227, hx227_0⟩ := Kd.at_bool HR1.out x6_3 p227 q227
                (try rw [← Nbq18.out] at hx227_0)
                obtain rfl : ad218 = ad227 := (by injection e227)
                replace hx227_0 := (HB.out.cell (World.block_lt_of_cell? w _ hx227_0)).trans hx227_0
                replace p227 := eq_true p227
                replace q227 := eq_true q227
                refine qb_region (by kernel_rfl) (by kernel_rfl) ?_
                have HQ := fun (wq : World) (hq : Below wr.heap.size wr wq) => below_step HB.out hq
                repeat ((first | (apply qb_skip; (focus rfl)) | (refine qb_callN 32 rfl ?_; apply qb_call 32 rfl Try.func40 (by kernel_rfl) rfl rfl; (focus rfl); (focus (exact fun wq9 hb9 => qb_b hb9 (spec_l1Add.calls a0_0 _ _ l0_1 _ _ l0_2 _ _ l0_3 x5_2 x6_3 t217 _ (Kd.C_below HR0_1.out (HQ _ hb9)) HC0_1.out (Kd.C_below HR0_2.out (HQ _ hb9)) HC0_2.out (Kd.C_below HR0_3.out (HQ _ hb9)) HC0_3.out A13.out))); (focus (rfl))) | (apply qb_val; (focus rfl); (focus (intro wq9 _; go_simp; with_reducible rfl))) | (apply qb_val; (focus rfl); (focus (intro wq9 hb9_; have hb9 : Below wr.heap.size wr wq9 := hb9_; have BK214 := sd_ (blk_below BK214.out hb9); have hc9_214_0 : wq9.cell? ⟨gb214, 0, none⟩ = some (.int .i64 a0_0) := (blk_cell BK214.out 0).trans rfl; have hc9_214_1 : wq9.cell? ⟨gb214, 1, none⟩ = some (.slice A0_1 l0_1.length c0_1) := (blk_cell BK214.out 1).trans rfl; have hc9_214_2 : wq9.cell? ⟨gb214, 2, none⟩ = some (.slice A0_2 l0_2.length c0_2) := (blk_cell BK214.out 2).trans rfl; have hc9_214_3 : wq9.cell? ⟨gb214, 3, none⟩ = some (.slice A0_3 l0_3.length c0_3) := (blk_cell BK214.out 3).trans rfl; have hx218_0 := (hb9.cell (World.block_lt_of_cell? _ _ hx218_0)).trans hx218_0; have hx219_0 := (hb9.cell (World.block_lt_of_cell? _ _ hx219_0)).trans hx219_0; have hx227_0 := (hb9.cell (World.block_lt_of_cell? _ _ hx227_0)).trans hx227_0; go_simp; with_reducible rfl)))); (focus (simp only [Act.put, List.setIfInBounds_toArray, List.set_cons_zero, List.set_cons_succ, i64_w, i32_w]; rfl)))
                refine qb_nil ?_
                intro w58 hb
                replace BK214 := sd_ (blk_below BK214.out hb)
                replace HB := sd_ (below_step HB.out hb)
                clear hb
                (try clear HQ)
                try go_wp2
                go_ret
                exact ⟨an_, bw1_ HB.out GE214.out⟩
               rw [if_neg c55] at H
               have c55b0 : ((rdOf false l1 t217) != (rdOf false l1 x6_3)) = false := by simpa using c55
               (try (have c55b1 : decide ((rdOf false l1 t217) = (rdOf false l1 x6_3)) = true := by simpa using c55))
               (try (have c55b2 : ((rdOf false l1 t217) == (rdOf false l1 x6_3)) = true := by simpa using c55))
               clear c55
               replace H := Option.bind_eq_some_iff.mp H
               obtain ⟨t228, A590, H⟩ := H
               try dsimp only at H
               have A59 := sd_ A590
               clear A590
               by_cases c60 : 0 ≤ t228
               ·rw [if_pos c60] at H
                have c60b0 : decide (0 ≤ t228) = true := decide_eq_true c60
                clear c60
                by_cases c61 : t228 < (l1.length : Int)
                ·rw [if_pos c61] at H
                 have c61b0 : decide (t228 < (l1.length : Int)) = true := decide_eq_true c61
                 clear c61
                 by_cases c62 : ((rdOf false l1 t228) != false) = true
                 ·rw [if_pos c62] at H
                  have c62b0 : ((rdOf false l1 t228) != false) = true := c62
                  (try (have c62b1 : decide ((rdOf false l1 t228) = false) = false := by simpa using c62))
                  (try (have c62b2 : ((rdOf false l1 t228) == false) = false := by simpa using c62))
                  (try (have c62b3 : ¬ ((rdOf false l1 t228) = false) := by simpa using c62))
                  clear c62
                  obtain rfl := Option.some.inj H
                  obtain ⟨hcz63_0, hcz63_1, hcz63_2, hcz63_3, hfz63_0, hfz63_1, hfz63_2, hfz63_3⟩ := bf4_ BK214.out
                  try go_wp2
                  (try (have c55s := c55b0; (try simp only [← Nbq18.out] at c55s); (try simp at c55s)))
                  (try (have c62s := c62b0; (try simp only [← Nbq18.out] at c62s); (try simp at c62s)))
                  have p218 : 0 ≤ (t217 : Int) := dt_
                  have q218 : t217 < (l1.length : Int) := dt_
                  obtain ⟨ad218, e218, hx218_0⟩ := Kd.at_bool HR1.out t217 p218 q218
                  (try rw [← Nbq18.out] at hx218_0)
                  cases e218
                  replace hx218_0 := (HB.out.cell (World.block_lt_of_cell? w _ hx218_0)).trans hx218_0
                  replace p218 := eq_true p218
                  replace q218 := eq_true q218
                  have p219 : 0 ≤ (x5_2 : Int) := dt_
                  have q219 : x5_2 < (l1.length : Int) := dt_
                  obtain ⟨ad219, e219, hx219_0⟩ := Kd.at_bool HR1.out x5_2 p219 q219
                  (try rw [← Nbq18.out] at hx219_0)
                  obtain rfl : ad218 = ad219 := (by injection e219)
                  replace hx219_0 := (HB.out.cell (World.block_lt_of_cell? w _ hx219_0)).trans hx219_0
                  replace p219 := eq_true p219
                  replace q219 := eq_true q219
                  have p227 : 0 ≤ (x6_3 : Int) := dt_
                  have q227 : x6_3 < (l1.length : Int) := dt_
                  obtain ⟨ad227, e227, hx227_0⟩ := Kd.at_bool HR1.out x6_3 p227 q227
                  (try rw [← Nbq18.out] at hx227_0)
                  obtain rfl : ad218 = ad227 := (by injection e227)
                  replace hx227_0 := (HB.out.cell (World.block_lt_of_cell? w _ hx227_0)).trans hx227_0
                  replace p227 := eq_true p227
                  replace q227 := eq_true q227
                  have p229 : 0 ≤ (t228 : Int) := dt_
                  have q229 : t228 < (l1.length : Int) := dt_
                  obtain ⟨ad229, e229, hx229_0⟩ := Kd.at_bool HR1.out t228 p229 q229
                  (try rw [← Nbq18.out] at hx229_0)
                  obtain rfl : ad218 = ad229 := (by injection e229)
                  replace hx229_0 := (HB.out.cell (World.block_lt_of_cell? w _ hx229_0)).trans hx229_0
                  replace p229 := eq_true p229
                  replace q229 := eq_true q229
                  have p230 : 0 ≤ (x5_2 : Int) := dt_
                  have q230 : x5_2 < (l1.length : Int) := dt_
                  obtain ⟨ad230, e230, hx230_0⟩ := Kd.at_bool HR1.out x5_2 p230 q230
                  (try rw [← Nbq18.out] at hx230_0)
                  obtain rfl : ad218 = ad230 := (by injection e230)
                  replace hx230_0 := (HB.out.cell (World.block_lt_of_cell? w _ hx230_0)).trans hx230_0
                  replace p230 := eq_true p230
                  replace q230 := eq_true q230
                  refine qb_region (by kernel_rfl) (by kernel_rfl) ?_
                  have HQ := fun (wq : World) (hq : Below wr.heap.size wr wq) => below_step HB.out hq
                  repeat ((first | (apply qb_skip; (focus rfl)) | (refine qb_callN 32 rfl ?_; apply qb_call 32 rfl Try.func40 (by kernel_rfl) rfl rfl; (focus rfl); (focus (exact fun wq9 hb9 => qb_b hb9 (spec_l1Add.calls a0_0 _ _ l0_1 _ _ l0_2 _ _ l0_3 x5_2 x6_3 t217 _ (Kd.C_below HR0_1.out (HQ _ hb9)) HC0_1.out (Kd.C_below HR0_2.out (HQ _ hb9)) HC0_2.out (Kd.C_below HR0_3.out (HQ _ hb9)) HC0_3.out A13.out))); (focus (rfl))) | (refine qb_callN 51 rfl ?_; apply qb_call 51 rfl Try.func41 (by kernel_rfl) rfl rfl; (focus rfl); (focus (exact fun wq9 hb9 => qb_b hb9 (spec_l1Mul.calls a0_0 _ _ l0_1 _ _ l0_2 _ _ l0_3 x5_2 x6_3 t228 _ (Kd.C_below HR0_1.out (HQ _ hb9)) HC0_1.out (Kd.C_below HR0_2.out (HQ _ hb9)) HC0_2.out (Kd.C_below HR0_3.out (HQ _ hb9)) HC0_3.out A59.out))); (focus (rfl))) | (apply qb_val; (focus rfl); (focus (intro wq9 _; go_simp; with_reducible rfl))) | (apply qb_val; (focus rfl); (focus (intro wq9 hb9_; have hb9 : Below wr.heap.size wr wq9 := hb9_; have BK214 := sd_ (blk_below BK214.out hb9); have hc9_214_0 : wq9.cell? ⟨gb214, 0, none⟩ = some (.int .i64 a0_0) := (blk_cell BK214.out 0).trans rfl; have hc9_214_1 : wq9.cell? ⟨gb214, 1, none⟩ = some (.slice A0_1 l0_1.length c0_1) := (blk_cell BK214.out 1).trans rfl; have hc9_214_2 : wq9.cell? ⟨gb214, 2, none⟩ = some (.slice A0_2 l0_2.length c0_2) := (blk_cell BK214.out 2).trans rfl; have hc9_214_3 : wq9.cell? ⟨gb214, 3, none⟩ = some (.slice A0_3 l0_3.length c0_3) := (blk_cell BK214.out 3).trans rfl; have hx218_0 := (hb9.cell (World.block_lt_of_cell? _ _ hx218_0)).trans hx218_0; have hx219_0 := (hb9.cell (World.block_lt_of_cell? _ _ hx219_0)).trans hx219_0; have hx227_0 := (hb9.cell (World.block_lt_of_cell? _ _ hx227_0)).trans hx227_0; have hx229_0 := (hb9.cell (World.block_lt_of_cell? _ _ hx229_0)).trans hx229_0; have hx230_0 := (hb9.cell (World.block_lt_of_cell? _ _ hx230_0)).trans hx230_0; go_simp; with_reducible rfl)))); (focus (simp only [Act.put, List.setIfInBounds_toArray, List.set_cons_zero, List.set_cons_succ, i64_w, i32_w]; rfl)))
                  refine qb_nil ?_
                  intro w66 hb
                  replace BK214 := sd_ (blk_below BK214.out hb)
                  replace HB := sd_ (below_step HB.out hb)
                  clear hb
                  (try clear HQ)
                  try go_wp2
                  go_ret
                  exact ⟨an_, bw1_ HB.out GE214.out⟩
                 rw [if_neg c62] at H
                 have c62b0 : ((rdOf false l1 t228) != false) = false := by simpa using c62
                 (try (have c62b1 : decide ((rdOf false l1 t228) = false) = true := by simpa using c62))
                 (try (have c62b2 : ((rdOf false l1 t228) == false) = true := by simpa using c62))
                 clear c62
                 have H' := sd_ H
                 clear H
                 obtain ⟨hcz67_0, hcz67_1, hcz67_2, hcz67_3, hfz67_0, hfz67_1, hfz67_2, hfz67_3⟩ := bf4_ BK214.out
                 try go_wp2
                 (try (have c55s := c55b0; (try simp only [← Nbq18.out] at c55s); (try simp at c55s)))
                 (try (have c62s := c62b0; (try simp only [← Nbq18.out] at c62s); (try simp at c62s)))
                 have p218 : 0 ≤ (t217 : Int) := dt_
                 have q218 : t217 < (l1.length : Int) := dt_
                 obtain ⟨ad218, e218, hx218_0⟩ := Kd.at_bool HR1.out t217 p218 q218
                 (try rw [← Nbq18.out] at hx218_0)
                 cases e218
                 replace hx218_0 := (HB.out.cell (World.block_lt_of_cell? w _ hx218_0)).trans hx218_0
                 replace p218 := eq_true p218
                 replace q218 := eq_true q218
                 have p219 : 0 ≤ (x5_2 : Int) := dt_
                 have q219 : x5_2 < (l1.length : Int) := dt_
                 obtain ⟨ad219, e219, hx219_0⟩ := Kd.at_bool HR1.out x5_2 p219 q219
                 (try rw [← Nbq18.out] at hx219_0)
                 obtain rfl : ad218 = ad219 := (by injection e219)
                 replace hx219_0 := (HB.out.cell (World.block_lt_of_cell? w _ hx219_0)).trans hx219_0
                 replace p219 := eq_true p219
                 replace q219 := eq_true q219
                 have p227 : 0 ≤ (x6_3 : Int) := dt_
                 have q227 : x6_3 < (l1.length : Int) := dt_
                 obtain ⟨ad227, e227, hx227_0⟩ := Kd.at_bool HR1.out x6_3 p227 q227
                 (try rw [← Nbq18.out] at hx227_0)
                 obtain rfl : ad218 = ad227 := (by injection e227)
                 replace hx227_0 := (HB.out.cell (World.block_lt_of_cell? w _ hx227_0)).trans hx227_0
                 replace p227 := eq_true p227
                 replace q227 := eq_true q227
                 have p229 : 0 ≤ (t228 : Int) := dt_
                 have q229 : t228 < (l1.length : Int) := dt_
                 obtain ⟨ad229, e229, hx229_0⟩ := Kd.at_bool HR1.out t228 p229 q229
                 (try rw [← Nbq18.out] at hx229_0)
                 obtain rfl : ad218 = ad229 := (by injection e229)
                 replace hx229_0 := (HB.out.cell (World.block_lt_of_cell? w _ hx229_0)).trans hx229_0
                 replace p229 := eq_true p229
                 replace q229 := eq_true q229
                 have p230 : 0 ≤ (x5_2 : Int) := dt_
                 have q230 : x5_2 < (l1.length : Int) := dt_
                 obtain ⟨ad230, e230, hx230_0⟩ := Kd.at_bool HR1.out x5_2 p230 q230
                 (try rw [← Nbq18.out] at hx230_0)
                 obtain rfl : ad218 = ad230 := (by injection e230)
                 replace hx230_0 := (HB.out.cell (World.block_lt_of_cell? w _ hx230_0)).trans hx230_0
                 replace p230 := eq_true p230
                 replace q230 := eq_true q230
                 have p231 : 0 ≤ (x5_2 : Int) := dt_
                 have q231 : x5_2 < (l1.length : Int) := dt_
                 obtain ⟨ad231, e231, hx231_0⟩ := Kd.at_bool HR1.out x5_2 p231 q231
                 (try rw [← Nbq18.out] at hx231_0)
                 obtain rfl : ad218 = ad231 := (by injection e231)
                 replace hx231_0 := (HB.out.cell (World.block_lt_of_cell? w _ hx231_0)).trans hx231_0
                 replace p231 := eq_true p231
                 replace q231 := eq_true q231
                 refine qb_region (by kernel_rfl) (by kernel_rfl) ?_
                 have HQ := fun (wq : World) (hq : Below wr.heap.size wr wq) => below_step HB.out hq
                 repeat ((first | (apply qb_skip; (focus rfl)) | (refine qb_callN 32 rfl ?_; apply qb_call 32 rfl Try.func40 (by kernel_rfl) rfl rfl; (focus rfl); (focus (exact fun wq9 hb9 => qb_b hb9 (spec_l1Add.calls a0_0 _ _ l0_1 _ _ l0_2 _ _ l0_3 x5_2 x6_3 t217 _ (Kd.C_below HR0_1.out (HQ _ hb9)) HC0_1.out (Kd.C_below HR0_2.out (HQ _ hb9)) HC0_2.out (Kd.C_below HR0_3.out (HQ _ hb9)) HC0_3.out A13.out))); (focus (rfl))) | (refine qb_callN 51 rfl ?_; apply qb_call 51 rfl Try.func41 (by kernel_rfl) rfl rfl; (focus rfl); (focus (exact fun wq9 hb9 => qb_b hb9 (spec_l1Mul.calls a0_0 _ _ l0_1 _ _ l0_2 _ _ l0_3 x5_2 x6_3 t228 _ (Kd.C_below HR0_1.out (HQ _ hb9)) HC0_1.out (Kd.C_below HR0_2.out (HQ _ hb9)) HC0_2.out (Kd.C_below HR0_3.out (HQ _ hb9)) HC0_3.out A59.out))); (focus (rfl))) | (apply qb_val; (focus rfl); (focus (intro wq9 _; go_simp; with_reducible rfl))) | (apply qb_val; (focus rfl); (focus (intro wq9 hb9_; have hb9 : Below wr.heap.size wr wq9 := hb9_; have BK214 := sd_ (blk_below BK214.out hb9); have hc9_214_0 : wq9.cell? ⟨gb214, 0, none⟩ = some (.int .i64 a0_0) := (blk_cell BK214.out 0).trans rfl; have hc9_214_1 : wq9.cell? ⟨gb214, 1, none⟩ = some (.slice A0_1 l0_1.length c0_1) := (blk_cell BK214.out 1).trans rfl; have hc9_214_2 : wq9.cell? ⟨gb214, 2, none⟩ = some (.slice A0_2 l0_2.length c0_2) := (blk_cell BK214.out 2).trans rfl; have hc9_214_3 : wq9.cell? ⟨gb214, 3, none⟩ = some (.slice A0_3 l0_3.length c0_3) := (blk_cell BK214.out 3).trans rfl; have hx218_0 := (hb9.cell (World.block_lt_of_cell? _ _ hx218_0)).trans hx218_0; have hx219_0 := (hb9.cell (World.block_lt_of_cell? _ _ hx219_0)).trans hx219_0; have hx227_0 := (hb9.cell (World.block_lt_of_cell? _ _ hx227_0)).trans hx227_0; have hx229_0 := (hb9.cell (World.block_lt_of_cell? _ _ hx229_0)).trans hx229_0; have hx230_0 := (hb9.cell (World.block_lt_of_cell? _ _ hx230_0)).trans hx230_0; have hx231_0 := (hb9.cell (World.block_lt_of_cell? _ _ hx231_0)).trans hx231_0; go_simp; with_reducible rfl)))); (focus (simp only [Act.put, List.setIfInBounds_toArray, List.set_cons_zero, List.set_cons_succ, i64_w, i32_w]; rfl)))
                 refine qb_nil ?_
                 intro w70 hb
                 replace BK214 := sd_ (blk_below BK214.out hb)
                 replace HB := sd_ (below_step HB.out hb)
                 clear hb
                 (try clear HQ)
                 try go_wp2
                 go_roundg k3
                 case measure => have := HJ2.out; have := HK2.out; have := HK3.out; omega
                 case rel => exact ⟨(wrap64 (x6_3 + 1)), sm_, H', ⟨by have := HJ2.out; have := HK2.out; have := HK3.out; omega⟩, ⟨by exact bz_ BK214.out⟩, ⟨bw1_ HB.out GE214.out⟩⟩
                rw [if_neg c61] at H
                exact absurd H (by simp)
               rw [if_neg c60] at H
               exact absurd H (by simp)
              rw [if_neg c54] at H
              exact absurd H (by simp)
             rw [if_neg c53] at H
             exact absurd H (by simp)
            rw [if_neg c17] at H
            exact absurd H (by simp)
           rw [if_neg c16] at H
           exact absurd H (by simp)
          rw [if_neg c15] at H
          exact absurd H (by simp)
         rw [if_neg c14] at H
         exact absurd H (by simp)
        rw [if_neg c12] at H
        have c12b0 : decide (x6_3 < a0_0) = false := decide_eq_false c12
        clear c12
        have H' := sd_ H
        clear H
        obtain ⟨hcz71_0, hcz71_1, hcz71_2, hcz71_3, hfz71_0, hfz71_1, hfz71_2, hfz71_3⟩ := bf4_ BK214.out
        go_wp2
        go_roundg k3
        case measure => have := HJ2.out; have := HK2.out; have := HK3.out; omega
        case rel => exact ⟨(wrap64 (x5_2 + 1)), sm_, H', ⟨by have := HJ2.out; have := HK2.out; have := HK3.out; omega⟩, ⟨by exact bz_ BK214.out⟩, ⟨bw1_ HB.out GE214.out⟩⟩
     rw [if_neg c10] at H
     have c10b0 : decide (x5_2 < a0_0) = false := decide_eq_false c10
     clear c10
     obtain rfl := Option.some.inj H
     obtain ⟨hcz72_0, hcz72_1, hcz72_2, hcz72_3, hfz72_0, hfz72_1, hfz72_2, hfz72_3⟩ := bf4_ BK214.out
     go_wp2
     go_ret
     exact ⟨an_, bw1_ HB.out GE214.out⟩

end Go.Proofs.Ytipfkicndjddgaa.P
