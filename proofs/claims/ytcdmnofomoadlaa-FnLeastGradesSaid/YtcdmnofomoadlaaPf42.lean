-- Printed by this session's own program (wip/tools/mkprint.py) out of the translation. Not trusted: Lean checks it.
import Derived.Test.YtcdmnofomoadlaaM1
import Derived.Test.YtcdmnofomoadlaaPf31
/-! short words -/
namespace Go.Proofs.Ytcdmnofomoadlaa.P
open Go.RowKit Go.Proofs.YtcdmnofomoadlaaW.PrintWords Go.Proofs.YtcdmnofomoadlaaW.PrintLast Go.Proofs.YtcdmnofomoadlaaW.PrintMore
attribute [local go_sem] max2_int min2_int max_two min_two max_three min_three max_four min_four   -- for this text's walks alone
set_option linter.unusedVariables false
set_option linter.unusedSimpArgs false

/-! ### impl_LeastGrade: function 42 -/
mutual
def impl_LeastGrade.l0 : Nat → Int → Int → List Int → List Int → List Bool → Option (Int)
 | 0, _, _, _, _, _ => none
 | k + 1, x3, x684000, x684001, x684002, x684003 => if x3 < x684000 then (impl_LeastGrade.l1 k x3 true 0 x684000 x684001 x684002 x684003) else (some (-1))
def impl_LeastGrade.l1 : Nat → Int → Bool → Int → Int → List Int → List Int → List Bool → Option (Int)
 | 0, _, _, _, _, _, _, _ => none
 | k + 1, x3, x4, x5, x684000, x684001, x684002, x684003 => if x5 < x684000 then (if x4 = true then ((impl_System_below.f x684000 x684001 x684002 x684003 x3 x5).bind fun t685 => (impl_LeastGrade.l1 k x3 t685 (wrap64 (x5 + 1)) x684000 x684001 x684002 x684003)) else (impl_LeastGrade.l1 k x3 false (wrap64 (x5 + 1)) x684000 x684001 x684002 x684003)) else (if x4 = true then (some x3) else (impl_LeastGrade.l0 k (wrap64 (x3 + 1)) x684000 x684001 x684002 x684003))
end
def impl_LeastGrade.f (k : Nat) (a0_0 : Int) (l0_1 : List Int) (l0_2 : List Int) (l0_3 : List Bool) : Option (Int) := (impl_IsSystem.f k a0_0 l0_1 l0_2 l0_3).bind fun t684 => (if t684 = true then (impl_LeastGrade.l0 k 0 a0_0 l0_1 l0_2 l0_3) else (some (-1)))
set_option maxHeartbeats 8000000 in
set_option maxRecDepth 100000 in
theorem impl_LeastGrade.calls (k : Nat) (a0_0 : Int) (A0_1 : Option Addr) (c0_1 : Nat) (l0_1 : List Int) (A0_2 : Option Addr) (c0_2 : Nat) (l0_2 : List Int) (A0_3 : Option Addr) (c0_3 : Nat) (l0_3 : List Bool) (r : Int) (w : World) (hr0_1 : Kd.C (Kd.int .i64) w A0_1 l0_1.length l0_1) (hc0_1 : l0_1.length ≤ c0_1) (hr0_2 : Kd.C (Kd.int .i64) w A0_2 l0_2.length l0_2) (hc0_2 : l0_2.length ≤ c0_2) (hr0_3 : Kd.C Kd.bool w A0_3 l0_3.length l0_3) (hc0_3 : l0_3.length ≤ c0_3) (h : impl_LeastGrade.f k a0_0 l0_1 l0_2 l0_3 = some r) :
  Calls Try.prog 42 #[.agg #[.int .i64 a0_0, .slice A0_1 l0_1.length c0_1, .slice A0_2 l0_2.length c0_2, .slice A0_3 l0_3.length c0_3]] w fun e w' => e = .returned (.int .i64 r) ∧ Below w.heap.size w w' := by
 have hu27 := Try.underlying27
 have HR0_1 := sd_ hr0_1
 have HC0_1 := sd_ hc0_1
 clear hr0_1 hc0_1
 have HR0_2 := sd_ hr0_2
 have HC0_2 := sd_ hc0_2
 clear hr0_2 hc0_2
 have HR0_3 := sd_ hr0_3
 have HC0_3 := sd_ hc0_3
 clear hr0_3 hc0_3
 have HB := sd_ (Below.refl w.heap.size w)
 have H : ((impl_IsSystem.f k a0_0 l0_1 l0_2 l0_3).bind fun t684 => (if t684 = true then (impl_LeastGrade.l0 k 0 a0_0 l0_1 l0_2 l0_3) else (some (-1)))) = some r := h
 clear h
 replace H := Option.bind_eq_some_iff.mp H
 obtain ⟨t684, A20, H⟩ := H
 try dsimp only at H
 have A2 := sd_ A20
 clear A20
 have HP3 := sd_ H
 clear H
 go_enter Try.func42, Try.ntmps42
 go_upto_if 8 with (first | ((with_reducible refine gate_dst (N := 1) rfl ?_); refine bx_ (N := 1) (cs := #[.int .i64 a0_0, .slice A0_1 l0_1.length c0_1, .slice A0_2 l0_2.length c0_2, .slice A0_3 l0_3.length c0_3]) (t := 27) ?_; intro gb683 hg w4 hbox hb; have BK683 := sd_ (hbox); have GW683 := sd_ (gs_ hg (bw0_ HB.out)); have GE683 := sd_ (gs_ hg (bw0_ HB.out)); replace HB := sd_ (below_step (bw0_ HB.out) hb); clear hb hbox hg; obtain ⟨hcz5_0, hcz5_1, hcz5_2, hcz5_3, hfz5_0, hfz5_1, hfz5_2, hfz5_3⟩ := bf4_ BK683.out) | ((with_reducible refine gate_callee (f := 31) rfl ?_); refine goesL_ (some 7) rfl rfl Try.func31 (by kernel_rfl) rfl #[.agg #[.int .i64 a0_0, .slice A0_1 l0_1.length c0_1, .slice A0_2 l0_2.length c0_2, .slice A0_3 l0_3.length c0_3]] rfl la_ ?_; (with_reducible refine (impl_IsSystem.calls k a0_0 _ _ l0_1 _ _ l0_2 _ _ l0_3 t684 _ (kc_ HR0_1.out HB.out) HC0_1.out (kc_ HR0_2.out HB.out) HC0_2.out (kc_ HR0_3.out HB.out) HC0_3.out A2.out).mono ?_); rintro e w6 ⟨rfl, hb⟩; refine ⟨_, rfl, ?_⟩; replace BK683 := sd_ (bb_ BK683.out hb); replace HB := sd_ (below_step (bw1_ HB.out GE683.out) hb); (try clear hb)))
 have H := HP3.out
 clear HP3
 by_cases c7 : t684 = true
 ·subst c7
  have H1 : (impl_LeastGrade.l0 k 0 a0_0 l0_1 l0_2 l0_3) = some r := by rw [if_pos rfl] at H; exact H
  clear H
  have H := H1
  clear H1
  have H' := sd_ H
  clear H
  go_wp2
  go_loopg [3] k (fun kq v3 w' => ∃ (x3_1 : Int), v3 = .int .i64 x3_1 ∧ Aside0 (impl_LeastGrade.l0 kq x3_1 a0_0 l0_1 l0_2 l0_3 = some r) ∧ Aside0 (kq ≤ k) ∧ Aside0 (w'.heap[gb683]? = some (.cells #[.int .i64 a0_0, (.slice A0_1 l0_1.length c0_1), (.slice A0_2 l0_2.length c0_2), (.slice A0_3 l0_3.length c0_3)] 27 (0, 0))) ∧ Aside0 (Below w.heap.size w w'))
  case atStart => exact ⟨(0), sm_, H', ⟨Nat.le_refl _⟩, ⟨by exact bz_ BK683.out⟩, ⟨bw1_ HB.out GE683.out⟩⟩
  case round =>
   clear H'
   try clear p2
   try clear c3
   try clear c4
   try clear c7
   try clear hcz5_0
   try clear hcz5_1
   try clear hcz5_2
   try clear hcz5_3
   try clear hfz5_0
   try clear hfz5_1
   try clear hfz5_2
   try clear hfz5_3
   obtain ⟨x3_1, rfl, HA, HK1, BK683, HB⟩ := hrel
   cases gk with
   | zero => exact absurd HA.out (by simp [impl_LeastGrade.l0])
   | succ k1 =>
    have H := HA.out
    clear HA
    simp only [impl_LeastGrade.l0] at H
    by_cases c8 : x3_1 < a0_0
    ·rw [if_pos c8] at H
     have c8b0 : decide (x3_1 < a0_0) = true := decide_eq_true c8
     clear c8
     (first | rw [c8b0] | (simp only [i64_w, i32_w]; rw [c8b0]) | skip)
     have H' := sd_ H
     clear H
     obtain ⟨hcz9_0, hcz9_1, hcz9_2, hcz9_3, hfz9_0, hfz9_1, hfz9_2, hfz9_3⟩ := bf4_ BK683.out
     go_wp2
     go_loopg [4, 5] k1 (fun kq v4 v5 w' => ∃ (x4_2 : Bool) (x5_2 : Int), v4 = .bool x4_2 ∧ v5 = .int .i64 x5_2 ∧ Aside0 (impl_LeastGrade.l1 kq x3_1 x4_2 x5_2 a0_0 l0_1 l0_2 l0_3 = some r) ∧ Aside0 (kq ≤ k1) ∧ Aside0 (w'.heap[gb683]? = some (.cells #[.int .i64 a0_0, (.slice A0_1 l0_1.length c0_1), (.slice A0_2 l0_2.length c0_2), (.slice A0_3 l0_3.length c0_3)] 27 (0, 0))) ∧ Aside0 (Below w.heap.size w w'))
     case atStart => exact ⟨(true), (0), sm_, sm_, H', ⟨Nat.le_refl _⟩, ⟨by exact bz_ BK683.out⟩, ⟨bw1_ HB.out GE683.out⟩⟩
     case round =>
      clear H'
      try clear p2
      try clear c3
      try clear c4
      try clear c7
      try clear c8
      try clear c8b0
      try clear hcz5_0
      try clear hcz5_1
      try clear hcz5_2
      try clear hcz5_3
      try clear hcz9_0
      try clear hcz9_1
      try clear hcz9_2
      try clear hcz9_3
      try clear hfz5_0
      try clear hfz5_1
      try clear hfz5_2
      try clear hfz5_3
      try clear hfz9_0
      try clear hfz9_1
      try clear hfz9_2
      try clear hfz9_3
      try clear p2
      obtain ⟨x4_2, x5_2, rfl, rfl, HA, HK2, BK683, HB⟩ := hrel
      cases gk with
      | zero => exact absurd HA.out (by simp [impl_LeastGrade.l1])
      | succ k2 =>
       have H := HA.out
       clear HA
       simp only [impl_LeastGrade.l1] at H
       by_cases c10 : x5_2 < a0_0
       ·rw [if_pos c10] at H
        have c10b0 : decide (x5_2 < a0_0) = true := decide_eq_true c10
        clear c10
        by_cases c11 : x4_2 = true
        ·subst c11
         have H1 : ((impl_System_below.f a0_0 l0_1 l0_2 l0_3 x3_1 x5_2).bind fun t685 => (impl_LeastGrade.l1 k2 x3_1 t685 (wrap64 (x5_2 + 1)) a0_0 l0_1 l0_2 l0_3)) = some r := by rw [if_pos rfl] at H; exact H
         clear H
         have H := H1
         clear H1
         replace H := Option.bind_eq_some_iff.mp H
         obtain ⟨t685, A120, H⟩ := H
         try dsimp only at H
         have A12 := sd_ A120
         clear A120
         have H' := sd_ H
         clear H
         obtain ⟨hcz13_0, hcz13_1, hcz13_2, hcz13_3, hfz13_0, hfz13_1, hfz13_2, hfz13_3⟩ := bf4_ BK683.out
         go_wp2_with (first | (go_at_call 71; (with_reducible refine (impl_System_below.calls a0_0 _ _ l0_1 _ _ l0_2 _ _ l0_3 x3_1 x5_2 t685 _ (kc_ HR0_1.out HB.out) HC0_1.out (kc_ HR0_2.out HB.out) HC0_2.out (kc_ HR0_3.out HB.out) HC0_3.out A12.out).mono ?_); rintro e w14 ⟨rfl, hb⟩; replace BK683 := sd_ (bb_ BK683.out hb); replace HB := sd_ (below_step (bw1_ HB.out GE683.out) hb); (try clear hb)))
         go_roundg k2
         case measure => have := HK1.out; have := HK2.out; omega
         case rel => exact ⟨(t685), (wrap64 (x5_2 + 1)), sm_, sm_, H', ⟨by have := HK1.out; have := HK2.out; omega⟩, ⟨by exact bz_ BK683.out⟩, ⟨bw1_ HB.out GE683.out⟩⟩
        replace c11 := Bool.eq_false_iff.mpr c11
        subst c11
        have H1 : (impl_LeastGrade.l1 k2 x3_1 false (wrap64 (x5_2 + 1)) a0_0 l0_1 l0_2 l0_3) = some r := by rw [if_neg (show ¬ (false = true) by decide)] at H; exact H
        clear H
        have H := H1
        clear H1
        have H' := sd_ H
        clear H
        obtain ⟨hcz15_0, hcz15_1, hcz15_2, hcz15_3, hfz15_0, hfz15_1, hfz15_2, hfz15_3⟩ := bf4_ BK683.out
        go_wp2
        go_roundg k2
        case measure => have := HK1.out; have := HK2.out; omega
        case rel => exact ⟨(false), (wrap64 (x5_2 + 1)), sm_, sm_, H', ⟨by have := HK1.out; have := HK2.out; omega⟩, ⟨by exact bz_ BK683.out⟩, ⟨bw1_ HB.out GE683.out⟩⟩
       rw [if_neg c10] at H
       have c10b0 : decide (x5_2 < a0_0) = false := decide_eq_false c10
       clear c10
       by_cases c16 : x4_2 = true
       ·subst c16
        have H1 : (some x3_1) = some r := by rw [if_pos rfl] at H; exact H
        clear H
        have H := H1
        clear H1
        obtain rfl := Option.some.inj H
        obtain ⟨hcz17_0, hcz17_1, hcz17_2, hcz17_3, hfz17_0, hfz17_1, hfz17_2, hfz17_3⟩ := bf4_ BK683.out
        go_wp2
        go_ret
        exact ⟨an_, bw1_ HB.out GE683.out⟩
       replace c16 := Bool.eq_false_iff.mpr c16
       subst c16
       have H1 : (impl_LeastGrade.l0 k2 (wrap64 (x3_1 + 1)) a0_0 l0_1 l0_2 l0_3) = some r := by rw [if_neg (show ¬ (false = true) by decide)] at H; exact H
       clear H
       have H := H1
       clear H1
       have H' := sd_ H
       clear H
       obtain ⟨hcz18_0, hcz18_1, hcz18_2, hcz18_3, hfz18_0, hfz18_1, hfz18_2, hfz18_3⟩ := bf4_ BK683.out
       go_wp2
       go_roundg k2
       case measure => have := HK1.out; have := HK2.out; omega
       case rel => exact ⟨(wrap64 (x3_1 + 1)), sm_, H', ⟨by have := HK1.out; have := HK2.out; omega⟩, ⟨by exact bz_ BK683.out⟩, ⟨bw1_ HB.out GE683.out⟩⟩
    rw [if_neg c8] at H
    have c8b0 : decide (x3_1 < a0_0) = false := decide_eq_false c8
    clear c8
    (first | rw [c8b0] | (simp only [i64_w, i32_w]; rw [c8b0]) | skip)
    obtain rfl := Option.some.inj H
    obtain ⟨hcz19_0, hcz19_1, hcz19_2, hcz19_3, hfz19_0, hfz19_1, hfz19_2, hfz19_3⟩ := bf4_ BK683.out
    go_wp2
    go_ret
    exact ⟨an_, bw1_ HB.out GE683.out⟩
 replace c7 := Bool.eq_false_iff.mpr c7
 subst c7
 have H1 : (some (-1)) = some r := by rw [if_neg (show ¬ (false = true) by decide)] at H; exact H
 clear H
 have H := H1
 clear H1
 obtain rfl := Option.some.inj H
 go_wp2
 go_ret
 exact ⟨an_, bw1_ HB.out GE683.out⟩

end Go.Proofs.Ytcdmnofomoadlaa.P
