-- Several texts in one (wip/tools/merge2.py).
import Derived.Test.YtcdmnofomoadlaaM1
section
namespace Go.Proofs.Ytcdmnofomoadlaa.P
open Go.RowKit Go.Proofs.YtcdmnofomoadlaaW.PrintWords Go.Proofs.YtcdmnofomoadlaaW.PrintLast Go.Proofs.YtcdmnofomoadlaaW.PrintMore
attribute [local go_sem] max2_int min2_int max_two min_two max_three min_three max_four min_four   -- for this text's walks alone
set_option linter.unusedVariables false
set_option linter.unusedSimpArgs false
/-! ### impl_System_join: function 73 -/
mutual
def impl_System_join.l0 : Nat → Int → Int → Int → Int → List Int → List Int → List Bool → Option (Int)
 | 0, _, _, _, _, _, _, _ => none
 | k + 1, x1, x2, x7, x480000, x480001, x480002, x480003 => if x7 < x480000 then ((impl_System_below.f x480000 x480001 x480002 x480003 x1 x7).bind fun t480 => (if t480 = true then ((impl_System_below.f x480000 x480001 x480002 x480003 x2 x7).bind fun t481 => (impl_System_join.j1 k x1 x2 x7 (!t481) x480000 x480001 x480002 x480003)) else (impl_System_join.j1 k x1 x2 x7 true x480000 x480001 x480002 x480003))) else (some (-1))
def impl_System_join.j1 : Nat → Int → Int → Int → Bool → Int → List Int → List Int → List Bool → Option (Int)
 | 0, _, _, _, _, _, _, _, _ => none
 | k + 1, x1, x2, x7, x27, x480000, x480001, x480002, x480003 => if x27 = true then (impl_System_join.l0 k x1 x2 (wrap64 (x7 + 1)) x480000 x480001 x480002 x480003) else (impl_System_join.l1 k x1 x2 x7 true 0 x480000 x480001 x480002 x480003)
def impl_System_join.l1 : Nat → Int → Int → Int → Bool → Int → Int → List Int → List Int → List Bool → Option (Int)
 | 0, _, _, _, _, _, _, _, _, _ => none
 | k + 1, x1, x2, x7, x8, x9, x480000, x480001, x480002, x480003 => if x9 < x480000 then (if x8 = true then ((impl_System_below.f x480000 x480001 x480002 x480003 x1 x9).bind fun t482 => (if t482 = true then ((impl_System_below.f x480000 x480001 x480002 x480003 x2 x9).bind fun t483 => (if t483 = true then ((impl_System_below.f x480000 x480001 x480002 x480003 x7 x9).bind fun t484 => (impl_System_join.l1 k x1 x2 x7 t484 (wrap64 (x9 + 1)) x480000 x480001 x480002 x480003)) else (impl_System_join.l1 k x1 x2 x7 true (wrap64 (x9 + 1)) x480000 x480001 x480002 x480003))) else (impl_System_join.l1 k x1 x2 x7 true (wrap64 (x9 + 1)) x480000 x480001 x480002 x480003))) else (impl_System_join.l1 k x1 x2 x7 false (wrap64 (x9 + 1)) x480000 x480001 x480002 x480003)) else (if x8 = true then (some x7) else (impl_System_join.l0 k x1 x2 (wrap64 (x7 + 1)) x480000 x480001 x480002 x480003))
end
def impl_System_join.f (k : Nat) (a0_0 : Int) (l0_1 : List Int) (l0_2 : List Int) (l0_3 : List Bool) (a1 : Int) (a2 : Int) : Option (Int) := impl_System_join.l0 k a1 a2 0 a0_0 l0_1 l0_2 l0_3
set_option maxHeartbeats 8000000 in
set_option maxRecDepth 100000 in
theorem impl_System_join.calls (k : Nat) (a0_0 : Int) (A0_1 : Option Addr) (c0_1 : Nat) (l0_1 : List Int) (A0_2 : Option Addr) (c0_2 : Nat) (l0_2 : List Int) (A0_3 : Option Addr) (c0_3 : Nat) (l0_3 : List Bool) (a1 : Int) (a2 : Int) (r : Int) (w : World) (hr0_1 : Kd.C (Kd.int .i64) w A0_1 l0_1.length l0_1) (hc0_1 : l0_1.length ≤ c0_1) (hr0_2 : Kd.C (Kd.int .i64) w A0_2 l0_2.length l0_2) (hc0_2 : l0_2.length ≤ c0_2) (hr0_3 : Kd.C Kd.bool w A0_3 l0_3.length l0_3) (hc0_3 : l0_3.length ≤ c0_3) (h : impl_System_join.f k a0_0 l0_1 l0_2 l0_3 a1 a2 = some r) :
  Calls Try.prog 73 #[.agg #[.int .i64 a0_0, .slice A0_1 l0_1.length c0_1, .slice A0_2 l0_2.length c0_2, .slice A0_3 l0_3.length c0_3], .int .i64 a1, .int .i64 a2] w fun e w' => e = .returned (.int .i64 r) ∧ Below w.heap.size w w' := by
 have hu27 := Try.underlying27
 have HR0_1 := sd_ hr0_1
 have HC0_1 := sd_ hc0_1
 clear hr0_1 hc0_1
 have HR0_2 := sd_ hr0_2
 have HC0_2 := sd_ hc0_2
 clear hr0_2 hc0_2
 have HR0_3 := sd_ hr0_3
 have HC0_3 := sd_ hc0_3
 clear hr0_3 hc0_3
 have HB := sd_ (Below.refl w.heap.size w)
 have H : (impl_System_join.l0 k a1 a2 0 a0_0 l0_1 l0_2 l0_3) = some r := h
 clear h
 have H' := sd_ H
 clear H
 go_enter Try.func73, Try.ntmps73
 go_wp2_with (first | ((with_reducible refine gate_dst (N := 3) rfl ?_); refine bx_ (N := 3) (cs := #[.int .i64 a0_0, .slice A0_1 l0_1.length c0_1, .slice A0_2 l0_2.length c0_2, .slice A0_3 l0_3.length c0_3]) (t := 27) ?_; intro gb479 hg w4 hbox hb; have BK479 := sd_ (hbox); have GW479 := sd_ (gs_ hg (bw0_ HB.out)); have GE479 := sd_ (gs_ hg (bw0_ HB.out)); replace HB := sd_ (below_step (bw0_ HB.out) hb); clear hb hbox hg))
 go_loopg [7] k (fun kq v7 w' => ∃ (x7_1 : Int), v7 = .int .i64 x7_1 ∧ Aside0 (impl_System_join.l0 kq a1 a2 x7_1 a0_0 l0_1 l0_2 l0_3 = some r) ∧ Aside0 (kq ≤ k) ∧ Aside0 (w'.heap[gb479]? = some (.cells #[.int .i64 a0_0, (.slice A0_1 l0_1.length c0_1), (.slice A0_2 l0_2.length c0_2), (.slice A0_3 l0_3.length c0_3)] 27 (0, 0))) ∧ Aside0 (Below w.heap.size w w'))
 case atStart => exact ⟨(0), sm_, H', ⟨Nat.le_refl _⟩, ⟨by exact bz_ BK479.out⟩, ⟨bw1_ HB.out GE479.out⟩⟩
 case round =>
  clear H'
  try clear p2
  obtain ⟨x7_1, rfl, HA, HK1, BK479, HB⟩ := hrel
  cases gk with
  | zero => exact absurd HA.out (by simp [impl_System_join.l0])
  | succ k1 =>
   have H := HA.out
   clear HA
   simp only [impl_System_join.l0] at H
   by_cases c5 : x7_1 < a0_0
   ·rw [if_pos c5] at H
    have c5b0 : decide (x7_1 < a0_0) = true := decide_eq_true c5
    clear c5
    have HC6 := sd_ H
    clear H
    obtain ⟨hcz7_0, hcz7_1, hcz7_2, hcz7_3, hfz7_0, hfz7_1, hfz7_2, hfz7_3⟩ := bf4_ BK479.out
    go_upto_region 4 with (fail)
    go_cut [27] (fun v27 wc => ∃ (kq : Nat) (x27_5 : Bool), v27 = .bool x27_5 ∧ Aside0 (impl_System_join.j1 kq a1 a2 x7_1 x27_5 a0_0 l0_1 l0_2 l0_3 = some r) ∧ Aside0 (kq ≤ k1) ∧ Aside0 (wc.heap[gb479]? = some (.cells #[.int .i64 a0_0, (.slice A0_1 l0_1.length c0_1), (.slice A0_2 l0_2.length c0_2), (.slice A0_3 l0_3.length c0_3)] 27 (0, 0))) ∧ Aside0 (Below w.heap.size w wc))
    case first =>
     have H := HC6.out
     clear HC6
     replace H := Option.bind_eq_some_iff.mp H
     obtain ⟨t480, A80, H⟩ := H
     try dsimp only at H
     have A8 := sd_ A80
     clear A80
     by_cases c9 : t480 = true
     ·subst c9
      have H1 : ((impl_System_below.f a0_0 l0_1 l0_2 l0_3 a2 x7_1).bind fun t481 => (impl_System_join.j1 k1 a1 a2 x7_1 (!t481) a0_0 l0_1 l0_2 l0_3)) = some r := by rw [if_pos rfl] at H; exact H
      clear H
      have H := H1
      clear H1
      replace H := Option.bind_eq_some_iff.mp H
      obtain ⟨t481, A100, H⟩ := H
      try dsimp only at H
      have A10 := sd_ A100
      clear A100
      have H' := sd_ H
      clear H
      obtain ⟨hcz11_0, hcz11_1, hcz11_2, hcz11_3, hfz11_0, hfz11_1, hfz11_2, hfz11_3⟩ := bf4_ BK479.out
      go_wp2_with (first | ((with_reducible refine gate_callee (f := 71) rfl ?_); refine goesL_ (some 19) rfl rfl Try.func71 (by kernel_rfl) rfl #[.agg #[.int .i64 a0_0, .slice A0_1 l0_1.length c0_1, .slice A0_2 l0_2.length c0_2, .slice A0_3 l0_3.length c0_3], .int .i64 a1, .int .i64 x7_1] rfl la_ ?_; (with_reducible refine (impl_System_below.calls a0_0 _ _ l0_1 _ _ l0_2 _ _ l0_3 a1 x7_1 true _ (kc_ HR0_1.out HB.out) HC0_1.out (kc_ HR0_2.out HB.out) HC0_2.out (kc_ HR0_3.out HB.out) HC0_3.out A8.out).mono ?_); rintro e w12 ⟨rfl, hb⟩; refine ⟨_, rfl, ?_⟩; replace BK479 := sd_ (bb_ BK479.out hb); replace HB := sd_ (below_step (bw1_ HB.out GE479.out) hb); (try clear hb); obtain ⟨hcz13_0, hcz13_1, hcz13_2, hcz13_3, hfz13_0, hfz13_1, hfz13_2, hfz13_3⟩ := bf4_ BK479.out) | (go_at_call 71; (with_reducible refine (impl_System_below.calls a0_0 _ _ l0_1 _ _ l0_2 _ _ l0_3 a2 x7_1 t481 _ (kc_ HR0_1.out HB.out) HC0_1.out (kc_ HR0_2.out HB.out) HC0_2.out (kc_ HR0_3.out HB.out) HC0_3.out A10.out).mono ?_); rintro e w14 ⟨rfl, hb⟩; replace BK479 := sd_ (bb_ BK479.out hb); replace HB := sd_ (below_step (bw1_ HB.out GE479.out) hb); (try clear hb)))
      go_meet
      case rel => exact ⟨_, (!t481), sm_, H', ⟨by have := HK1.out; first | omega | exact Nat.le_refl _⟩, ⟨by exact bz_ BK479.out⟩, ⟨bw1_ HB.out GE479.out⟩⟩
     replace c9 := Bool.eq_false_iff.mpr c9
     subst c9
     have H1 : (impl_System_join.j1 k1 a1 a2 x7_1 true a0_0 l0_1 l0_2 l0_3) = some r := by rw [if_neg (show ¬ (false = true) by decide)] at H; exact H
     clear H
     have H := H1
     clear H1
     have H' := sd_ H
     clear H
     obtain ⟨hcz15_0, hcz15_1, hcz15_2, hcz15_3, hfz15_0, hfz15_1, hfz15_2, hfz15_3⟩ := bf4_ BK479.out
     go_wp2_with (first | ((with_reducible refine gate_callee (f := 71) rfl ?_); refine goesL_ (some 19) rfl rfl Try.func71 (by kernel_rfl) rfl #[.agg #[.int .i64 a0_0, .slice A0_1 l0_1.length c0_1, .slice A0_2 l0_2.length c0_2, .slice A0_3 l0_3.length c0_3], .int .i64 a1, .int .i64 x7_1] rfl la_ ?_; (with_reducible refine (impl_System_below.calls a0_0 _ _ l0_1 _ _ l0_2 _ _ l0_3 a1 x7_1 false _ (kc_ HR0_1.out HB.out) HC0_1.out (kc_ HR0_2.out HB.out) HC0_2.out (kc_ HR0_3.out HB.out) HC0_3.out A8.out).mono ?_); rintro e w16 ⟨rfl, hb⟩; refine ⟨_, rfl, ?_⟩; replace BK479 := sd_ (bb_ BK479.out hb); replace HB := sd_ (below_step (bw1_ HB.out GE479.out) hb); (try clear hb)))
     go_meet
     case rel => exact ⟨_, (true), sm_, H', ⟨by have := HK1.out; first | omega | exact Nat.le_refl _⟩, ⟨by exact bz_ BK479.out⟩, ⟨bw1_ HB.out GE479.out⟩⟩
    case rest =>
     clear HC6
     try clear p2
     try clear c5
     try clear c5b0
     try clear c7
     try clear hcz7_0
     try clear hcz7_1
     try clear hcz7_2
     try clear hcz7_3
     try clear hfz7_0
     try clear hfz7_1
     try clear hfz7_2
     try clear hfz7_3
     try clear p2
     obtain ⟨kq, x27_5, rfl, HA, HJ5, BK479, HB⟩ := hcut
     cases kq with
     | zero => exact absurd HA.out (by simp [impl_System_join.j1])
     | succ kj5 =>
      have H := HA.out
      clear HA
      simp only [impl_System_join.j1] at H
      by_cases c17 : x27_5 = true
      ·subst c17
       have H1 : (impl_System_join.l0 kj5 a1 a2 (wrap64 (x7_1 + 1)) a0_0 l0_1 l0_2 l0_3) = some r := by rw [if_pos rfl] at H; exact H
       clear H
       have H := H1
       clear H1
       have H' := sd_ H
       clear H
       go_wp2
       go_roundg kj5
       case measure => have := HK1.out; have := HJ5.out; omega
       case rel => exact ⟨(wrap64 (x7_1 + 1)), sm_, H', ⟨by have := HK1.out; have := HJ5.out; omega⟩, ⟨by exact bz_ BK479.out⟩, ⟨bw1_ HB.out GE479.out⟩⟩
      replace c17 := Bool.eq_false_iff.mpr c17
      subst c17
      have H1 : (impl_System_join.l1 kj5 a1 a2 x7_1 true 0 a0_0 l0_1 l0_2 l0_3) = some r := by rw [if_neg (show ¬ (false = true) by decide)] at H; exact H
      clear H
      have H := H1
      clear H1
      have H' := sd_ H
      clear H
      go_wp2
      go_loopg [8, 9] kj5 (fun kq v8 v9 w' => ∃ (x8_3 : Bool) (x9_3 : Int), v8 = .bool x8_3 ∧ v9 = .int .i64 x9_3 ∧ Aside0 (impl_System_join.l1 kq a1 a2 x7_1 x8_3 x9_3 a0_0 l0_1 l0_2 l0_3 = some r) ∧ Aside0 (kq ≤ kj5) ∧ Aside0 (w'.heap[gb479]? = some (.cells #[.int .i64 a0_0, (.slice A0_1 l0_1.length c0_1), (.slice A0_2 l0_2.length c0_2), (.slice A0_3 l0_3.length c0_3)] 27 (0, 0))) ∧ Aside0 (Below w.heap.size w w'))
      case atStart => exact ⟨(true), (0), sm_, sm_, H', ⟨Nat.le_refl _⟩, ⟨by exact bz_ BK479.out⟩, ⟨bw1_ HB.out GE479.out⟩⟩
      case round =>
       clear H'
       try clear c1
       try clear p2
       try clear c5
       try clear c5b0
       try clear c7
       try clear c17
       try clear hcz7_0
       try clear hcz7_1
       try clear hcz7_2
       try clear hcz7_3
       try clear hfz7_0
       try clear hfz7_1
       try clear hfz7_2
       try clear hfz7_3
       try clear p2
       obtain ⟨x8_3, x9_3, rfl, rfl, HA, HK3, BK479, HB⟩ := hrel
       cases gk with
       | zero => exact absurd HA.out (by simp [impl_System_join.l1])
       | succ k3 =>
        have H := HA.out
        clear HA
        simp only [impl_System_join.l1] at H
        by_cases c18 : x9_3 < a0_0
        ·rw [if_pos c18] at H
         have c18b0 : decide (x9_3 < a0_0) = true := decide_eq_true c18
         clear c18
         by_cases c19 : x8_3 = true
         ·subst c19
          have H1 : ((impl_System_below.f a0_0 l0_1 l0_2 l0_3 a1 x9_3).bind fun t482 => (if t482 = true then ((impl_System_below.f a0_0 l0_1 l0_2 l0_3 a2 x9_3).bind fun t483 => (if t483 = true then ((impl_System_below.f a0_0 l0_1 l0_2 l0_3 x7_1 x9_3).bind fun t484 => (impl_System_join.l1 k3 a1 a2 x7_1 t484 (wrap64 (x9_3 + 1)) a0_0 l0_1 l0_2 l0_3)) else (impl_System_join.l1 k3 a1 a2 x7_1 true (wrap64 (x9_3 + 1)) a0_0 l0_1 l0_2 l0_3))) else (impl_System_join.l1 k3 a1 a2 x7_1 true (wrap64 (x9_3 + 1)) a0_0 l0_1 l0_2 l0_3))) = some r := by rw [if_pos rfl] at H; exact H
          clear H
          have H := H1
          clear H1
          replace H := Option.bind_eq_some_iff.mp H
          obtain ⟨t482, A200, H⟩ := H
          try dsimp only at H
          have A20 := sd_ A200
          clear A200
          by_cases c21 : t482 = true
          ·subst c21
           have H1 : ((impl_System_below.f a0_0 l0_1 l0_2 l0_3 a2 x9_3).bind fun t483 => (if t483 = true then ((impl_System_below.f a0_0 l0_1 l0_2 l0_3 x7_1 x9_3).bind fun t484 => (impl_System_join.l1 k3 a1 a2 x7_1 t484 (wrap64 (x9_3 + 1)) a0_0 l0_1 l0_2 l0_3)) else (impl_System_join.l1 k3 a1 a2 x7_1 true (wrap64 (x9_3 + 1)) a0_0 l0_1 l0_2 l0_3))) = some r := by rw [if_pos rfl] at H; exact H
           clear H
           have H := H1
           clear H1
           replace H := Option.bind_eq_some_iff.mp H
           obtain ⟨t483, A220, H⟩ := H
           try dsimp only at H
           have A22 := sd_ A220
           clear A220
           by_cases c23 : t483 = true
           ·subst c23
            have H1 : ((impl_System_below.f a0_0 l0_1 l0_2 l0_3 x7_1 x9_3).bind fun t484 => (impl_System_join.l1 k3 a1 a2 x7_1 t484 (wrap64 (x9_3 + 1)) a0_0 l0_1 l0_2 l0_3)) = some r := by rw [if_pos rfl] at H; exact H
            clear H
            have H := H1
            clear H1
            replace H := Option.bind_eq_some_iff.mp H
            obtain ⟨t484, A240, H⟩ := H
            try dsimp only at H
            have A24 := sd_ A240
            clear A240
            have H' := sd_ H
            clear H
            obtain ⟨hcz25_0, hcz25_1, hcz25_2, hcz25_3, hfz25_0, hfz25_1, hfz25_2, hfz25_3⟩ := bf4_ BK479.out
            go_wp2_with (first | (go_at_call 71; (with_reducible refine (impl_System_below.calls a0_0 _ _ l0_1 _ _ l0_2 _ _ l0_3 a1 x9_3 true _ (kc_ HR0_1.out HB.out) HC0_1.out (kc_ HR0_2.out HB.out) HC0_2.out (kc_ HR0_3.out HB.out) HC0_3.out A20.out).mono ?_); rintro e w26 ⟨rfl, hb⟩; replace BK479 := sd_ (bb_ BK479.out hb); replace HB := sd_ (below_step (bw1_ HB.out GE479.out) hb); (try clear hb); obtain ⟨hcz27_0, hcz27_1, hcz27_2, hcz27_3, hfz27_0, hfz27_1, hfz27_2, hfz27_3⟩ := bf4_ BK479.out) | (go_at_call 71; (with_reducible refine (impl_System_below.calls a0_0 _ _ l0_1 _ _ l0_2 _ _ l0_3 a2 x9_3 true _ (kc_ HR0_1.out HB.out) HC0_1.out (kc_ HR0_2.out HB.out) HC0_2.out (kc_ HR0_3.out HB.out) HC0_3.out A22.out).mono ?_); rintro e w28 ⟨rfl, hb⟩; replace BK479 := sd_ (bb_ BK479.out hb); replace HB := sd_ (below_step (bw1_ HB.out GE479.out) hb); (try clear hb); obtain ⟨hcz29_0, hcz29_1, hcz29_2, hcz29_3, hfz29_0, hfz29_1, hfz29_2, hfz29_3⟩ := bf4_ BK479.out) | (go_at_call 71; (with_reducible refine (impl_System_below.calls a0_0 _ _ l0_1 _ _ l0_2 _ _ l0_3 x7_1 x9_3 t484 _ (kc_ HR0_1.out HB.out) HC0_1.out (kc_ HR0_2.out HB.out) HC0_2.out (kc_ HR0_3.out HB.out) HC0_3.out A24.out).mono ?_); rintro e w30 ⟨rfl, hb⟩; replace BK479 := sd_ (bb_ BK479.out hb); replace HB := sd_ (below_step (bw1_ HB.out GE479.out) hb); (try clear hb)))
            go_roundg k3
            case measure => have := HK1.out; have := HJ5.out; have := HK3.out; omega
            case rel => exact ⟨(t484), (wrap64 (x9_3 + 1)), sm_, sm_, H', ⟨by have := HK1.out; have := HJ5.out; have := HK3.out; omega⟩, ⟨by exact bz_ BK479.out⟩, ⟨bw1_ HB.out GE479.out⟩⟩
           replace c23 := Bool.eq_false_iff.mpr c23
           subst c23
           have H1 : (impl_System_join.l1 k3 a1 a2 x7_1 true (wrap64 (x9_3 + 1)) a0_0 l0_1 l0_2 l0_3) = some r := by rw [if_neg (show ¬ (false = true) by decide)] at H; exact H
           clear H
           have H := H1
           clear H1
           have H' := sd_ H
           clear H
           obtain ⟨hcz31_0, hcz31_1, hcz31_2, hcz31_3, hfz31_0, hfz31_1, hfz31_2, hfz31_3⟩ := bf4_ BK479.out
           go_wp2_with (first | (go_at_call 71; (with_reducible refine (impl_System_below.calls a0_0 _ _ l0_1 _ _ l0_2 _ _ l0_3 a1 x9_3 true _ (kc_ HR0_1.out HB.out) HC0_1.out (kc_ HR0_2.out HB.out) HC0_2.out (kc_ HR0_3.out HB.out) HC0_3.out A20.out).mono ?_); rintro e w32 ⟨rfl, hb⟩; replace BK479 := sd_ (bb_ BK479.out hb); replace HB := sd_ (below_step (bw1_ HB.out GE479.out) hb); (try clear hb); obtain ⟨hcz33_0, hcz33_1, hcz33_2, hcz33_3, hfz33_0, hfz33_1, hfz33_2, hfz33_3⟩ := bf4_ BK479.out) | (go_at_call 71; (with_reducible refine (impl_System_below.calls a0_0 _ _ l0_1 _ _ l0_2 _ _ l0_3 a2 x9_3 false _ (kc_ HR0_1.out HB.out) HC0_1.out (kc_ HR0_2.out HB.out) HC0_2.out (kc_ HR0_3.out HB.out) HC0_3.out A22.out).mono ?_); rintro e w34 ⟨rfl, hb⟩; replace BK479 := sd_ (bb_ BK479.out hb); replace HB := sd_ (below_step (bw1_ HB.out GE479.out) hb); (try clear hb)))
           go_roundg k3
           case measure => have := HK1.out; have := HJ5.out; have := HK3.out; omega
           case rel => exact ⟨(true), (wrap64 (x9_3 + 1)), sm_, sm_, H', ⟨by have := HK1.out; have := HJ5.out; have := HK3.out; omega⟩, ⟨by exact bz_ BK479.out⟩, ⟨bw1_ HB.out GE479.out⟩⟩
          replace c21 := Bool.eq_false_iff.mpr c21
          subst c21
          have H1 : (impl_System_join.l1 k3 a1 a2 x7_1 true (wrap64 (x9_3 + 1)) a0_0 l0_1 l0_2 l0_3) = some r := by rw [if_neg (show ¬ (false = true) by decide)] at H; exact H
          clear H
          have H := H1
          clear H1
          have H' := sd_ H
          clear H
          obtain ⟨hcz35_0, hcz35_1, hcz35_2, hcz35_3, hfz35_0, hfz35_1, hfz35_2, hfz35_3⟩ := bf4_ BK479.out
          go_wp2_with (first | (go_at_call 71; (with_reducible refine (impl_System_below.calls a0_0 _ _ l0_1 _ _ l0_2 _ _ l0_3 a1 x9_3 false _ (kc_ HR0_1.out HB.out) HC0_1.out (kc_ HR0_2.out HB.out) HC0_2.out (kc_ HR0_3.out HB.out) HC0_3.out A20.out).mono ?_); rintro e w36 ⟨rfl, hb⟩; replace BK479 := sd_ (bb_ BK479.out hb); replace HB := sd_ (below_step (bw1_ HB.out GE479.out) hb); (try clear hb)))
          go_roundg k3
          case measure => have := HK1.out; have := HJ5.out; have := HK3.out; omega
          case rel => exact ⟨(true), (wrap64 (x9_3 + 1)), sm_, sm_, H', ⟨by have := HK1.out; have := HJ5.out; have := HK3.out; omega⟩, ⟨by exact bz_ BK479.out⟩, ⟨bw1_ HB.out GE479.out⟩⟩
         replace c19 := Bool.eq_false_iff.mpr c19
         subst c19
         have H1 : (impl_System_join.l1 k3 a1 a2 x7_1 false (wrap64 (x9_3 + 1)) a0_0 l0_1 l0_2 l0_3) = some r := by rw [if_neg (show ¬ (false = true) by decide)] at H; exact H
         clear H
         have H := H1
         clear H1
         have H' := sd_ H
         clear H
         obtain ⟨hcz37_0, hcz37_1, hcz37_2, hcz37_3, hfz37_0, hfz37_1, hfz37_2, hfz37_3⟩ := bf4_ BK479.out
         go_wp2
         go_roundg k3
         case measure => have := HK1.out; have := HJ5.out; have := HK3.out; omega
         case rel => exact ⟨(false), (wrap64 (x9_3 + 1)), sm_, sm_, H', ⟨by have := HK1.out; have := HJ5.out; have := HK3.out; omega⟩, ⟨by exact bz_ BK479.out⟩, ⟨bw1_ HB.out GE479.out⟩⟩
        rw [if_neg c18] at H
        have c18b0 : decide (x9_3 < a0_0) = false := decide_eq_false c18
        clear c18
        by_cases c38 : x8_3 = true
        ·subst c38
         have H1 : (some x7_1) = some r := by rw [if_pos rfl] at H; exact H
         clear H
         have H := H1
         clear H1
         obtain rfl := Option.some.inj H
         obtain ⟨hcz39_0, hcz39_1, hcz39_2, hcz39_3, hfz39_0, hfz39_1, hfz39_2, hfz39_3⟩ := bf4_ BK479.out
         go_wp2
         go_ret
         exact ⟨an_, bw1_ HB.out GE479.out⟩
        replace c38 := Bool.eq_false_iff.mpr c38
        subst c38
        have H1 : (impl_System_join.l0 k3 a1 a2 (wrap64 (x7_1 + 1)) a0_0 l0_1 l0_2 l0_3) = some r := by rw [if_neg (show ¬ (false = true) by decide)] at H; exact H
        clear H
        have H := H1
        clear H1
        have H' := sd_ H
        clear H
        obtain ⟨hcz40_0, hcz40_1, hcz40_2, hcz40_3, hfz40_0, hfz40_1, hfz40_2, hfz40_3⟩ := bf4_ BK479.out
        go_wp2
        go_roundg k3
        case measure => have := HK1.out; have := HJ5.out; have := HK3.out; omega
        case rel => exact ⟨(wrap64 (x7_1 + 1)), sm_, H', ⟨by have := HK1.out; have := HJ5.out; have := HK3.out; omega⟩, ⟨by exact bz_ BK479.out⟩, ⟨bw1_ HB.out GE479.out⟩⟩
   rw [if_neg c5] at H
   have c5b0 : decide (x7_1 < a0_0) = false := decide_eq_false c5
   clear c5
   obtain rfl := Option.some.inj H
   obtain ⟨hcz41_0, hcz41_1, hcz41_2, hcz41_3, hfz41_0, hfz41_1, hfz41_2, hfz41_3⟩ := bf4_ BK479.out
   go_wp2
   go_ret
   exact ⟨an_, bw1_ HB.out GE479.out⟩


/-! ### spec_l1In: function 80 -/
def spec_l1In.f (a0 : Int) (a1 : Int) (a2 : Int) : Option (Bool) := if a0 ≥ a1 then (some (decide (a0 ≤ a2))) else (some false)
set_option maxHeartbeats 8000000 in
set_option maxRecDepth 100000 in
theorem spec_l1In.calls (a0 : Int) (a1 : Int) (a2 : Int) (r : Bool) (w : World) (h : spec_l1In.f a0 a1 a2 = some r) :
  Calls Try.prog 80 #[.int .i64 a0, .int .i64 a1, .int .i64 a2] w fun e w' => e = .returned (.bool r) ∧ Drawn0 w w' := by
 have H : (if a0 ≥ a1 then (some (decide (a0 ≤ a2))) else (some false)) = some r := h
 clear h
 by_cases c4 : a0 ≥ a1
 ·rw [if_pos c4] at H
  have c4b0 : decide (a1 ≤ a0) = true := decide_eq_true c4
  clear c4
  obtain rfl := Option.some.inj H
  go_enter Try.func80, Try.ntmps80
  go_wp2
  go_ret
  exact ⟨by first | rfl | (simp; done) | (simp [*]; done), by repeat (first | exact Drawn0.refl _ | apply Drawn0.step)⟩
 rw [if_neg c4] at H
 have c4b0 : decide (a1 ≤ a0) = false := decide_eq_false c4
 clear c4
 obtain rfl := Option.some.inj H
 go_enter Try.func80, Try.ntmps80
 go_wp2
 go_ret
 exact ⟨by first | rfl | (simp; done) | (simp [*]; done), by repeat (first | exact Drawn0.refl _ | apply Drawn0.step)⟩


/-! ### spec_l1Pair: function 81 -/
def spec_l1Pair.f (a0 : Int) (a1 : Int) (a2 : Int) : Option (Int) := if (wrap64 ((wrap64 (a1 * a0)) + a2)) = 0 then (some 0) else (if (wrap64 ((wrap64 (a1 * a0)) + a2)) = (wrap64 (a0 + 1)) then (some 1) else (if (wrap64 ((wrap64 (a1 * a0)) + a2)) < (wrap64 (a0 + 1)) then (some (wrap64 ((wrap64 ((wrap64 (a1 * a0)) + a2)) + 1))) else (some (wrap64 ((wrap64 (a1 * a0)) + a2)))))
set_option maxHeartbeats 8000000 in
set_option maxRecDepth 100000 in
theorem spec_l1Pair.calls (a0 : Int) (a1 : Int) (a2 : Int) (r : Int) (w : World) (h : spec_l1Pair.f a0 a1 a2 = some r) :
  Calls Try.prog 81 #[.int .i64 a0, .int .i64 a1, .int .i64 a2] w fun e w' => e = .returned (.int .i64 r) ∧ Drawn0 w w' := by
 have H : (if (wrap64 ((wrap64 (a1 * a0)) + a2)) = 0 then (some 0) else (if (wrap64 ((wrap64 (a1 * a0)) + a2)) = (wrap64 (a0 + 1)) then (some 1) else (if (wrap64 ((wrap64 (a1 * a0)) + a2)) < (wrap64 (a0 + 1)) then (some (wrap64 ((wrap64 ((wrap64 (a1 * a0)) + a2)) + 1))) else (some (wrap64 ((wrap64 (a1 * a0)) + a2)))))) = some r := h
 clear h
 by_cases c4 : (wrap64 ((wrap64 (a1 * a0)) + a2)) = 0
 ·rw [if_pos c4] at H
  have c4b0 : ((wrap64 ((wrap64 (a1 * a0)) + a2)) == 0) = true := beq_iff_eq.mpr c4
  have c4b1 : ((wrap64 ((wrap64 (a1 * a0)) + a2)) != 0) = false := bne_eq_false_iff_eq.mpr c4
  clear c4
  obtain rfl := Option.some.inj H
  go_enter Try.func81, Try.ntmps81
  go_wp2
  go_ret
  exact ⟨by first | rfl | (simp; done) | (simp [*]; done), by repeat (first | exact Drawn0.refl _ | apply Drawn0.step)⟩
 rw [if_neg c4] at H
 have c4b0 : ((wrap64 ((wrap64 (a1 * a0)) + a2)) == 0) = false := beq_eq_false_iff_ne.mpr c4
 have c4b1 : ((wrap64 ((wrap64 (a1 * a0)) + a2)) != 0) = true := bne_iff_ne.mpr c4
 by_cases c5 : (wrap64 ((wrap64 (a1 * a0)) + a2)) = (wrap64 (a0 + 1))
 ·rw [if_pos c5] at H
  have c5b0 : ((wrap64 ((wrap64 (a1 * a0)) + a2)) == (wrap64 (a0 + 1))) = true := beq_iff_eq.mpr c5
  have c5b1 : ((wrap64 ((wrap64 (a1 * a0)) + a2)) != (wrap64 (a0 + 1))) = false := bne_eq_false_iff_eq.mpr c5
  clear c5
  obtain rfl := Option.some.inj H
  go_enter Try.func81, Try.ntmps81
  go_wp2
  go_ret
  exact ⟨by first | rfl | (simp; done) | (simp [*]; done), by repeat (first | exact Drawn0.refl _ | apply Drawn0.step)⟩
 rw [if_neg c5] at H
 have c5b0 : ((wrap64 ((wrap64 (a1 * a0)) + a2)) == (wrap64 (a0 + 1))) = false := beq_eq_false_iff_ne.mpr c5
 have c5b1 : ((wrap64 ((wrap64 (a1 * a0)) + a2)) != (wrap64 (a0 + 1))) = true := bne_iff_ne.mpr c5
 by_cases c6 : (wrap64 ((wrap64 (a1 * a0)) + a2)) < (wrap64 (a0 + 1))
 ·rw [if_pos c6] at H
  have c6b0 : decide ((wrap64 ((wrap64 (a1 * a0)) + a2)) < (wrap64 (a0 + 1))) = true := decide_eq_true c6
  clear c6
  obtain rfl := Option.some.inj H
  go_enter Try.func81, Try.ntmps81
  go_wp2
  go_ret
  exact ⟨by first | rfl | (simp; done) | (simp [*]; done), by repeat (first | exact Drawn0.refl _ | apply Drawn0.step)⟩
 rw [if_neg c6] at H
 have c6b0 : decide ((wrap64 ((wrap64 (a1 * a0)) + a2)) < (wrap64 (a0 + 1))) = false := decide_eq_false c6
 clear c6
 obtain rfl := Option.some.inj H
 go_enter Try.func81, Try.ntmps81
 go_wp2
 go_ret
 exact ⟨by first | rfl | (simp; done) | (simp [*]; done), by repeat (first | exact Drawn0.refl _ | apply Drawn0.step)⟩


/-! ### spec_l1First: function 86 -/
def spec_l1First.f (a0 : Int) (a1 : Int) : Option (Int) := if a1 = 0 then (some 0) else (if a1 = 1 then (some 1) else (if a1 ≤ (wrap64 (a0 + 1)) then (if a0 = 0 then (none) else (some (wrap64 (Int.tdiv (wrap64 (a1 - 1)) a0)))) else (if a0 = 0 then (none) else (some (wrap64 (Int.tdiv a1 a0))))))
set_option maxHeartbeats 8000000 in
set_option maxRecDepth 100000 in
theorem spec_l1First.calls (a0 : Int) (a1 : Int) (r : Int) (w : World) (h : spec_l1First.f a0 a1 = some r) :
  Calls Try.prog 86 #[.int .i64 a0, .int .i64 a1] w fun e w' => e = .returned (.int .i64 r) ∧ Drawn0 w w' := by
 have H : (if a1 = 0 then (some 0) else (if a1 = 1 then (some 1) else (if a1 ≤ (wrap64 (a0 + 1)) then (if a0 = 0 then (none) else (some (wrap64 (Int.tdiv (wrap64 (a1 - 1)) a0)))) else (if a0 = 0 then (none) else (some (wrap64 (Int.tdiv a1 a0))))))) = some r := h
 clear h
 by_cases c3 : a1 = 0
 ·rw [if_pos c3] at H
  have c3b0 : (a1 == 0) = true := beq_iff_eq.mpr c3
  have c3b1 : (a1 != 0) = false := bne_eq_false_iff_eq.mpr c3
  clear c3
  obtain rfl := Option.some.inj H
  go_enter Try.func86, Try.ntmps86
  go_wp2
  go_ret
  exact ⟨by first | rfl | (simp; done) | (simp [*]; done), by repeat (first | exact Drawn0.refl _ | apply Drawn0.step)⟩
 rw [if_neg c3] at H
 have c3b0 : (a1 == 0) = false := beq_eq_false_iff_ne.mpr c3
 have c3b1 : (a1 != 0) = true := bne_iff_ne.mpr c3
 by_cases c4 : a1 = 1
 ·rw [if_pos c4] at H
  have c4b0 : (a1 == 1) = true := beq_iff_eq.mpr c4
  have c4b1 : (a1 != 1) = false := bne_eq_false_iff_eq.mpr c4
  clear c4
  obtain rfl := Option.some.inj H
  go_enter Try.func86, Try.ntmps86
  go_wp2
  go_ret
  exact ⟨by first | rfl | (simp; done) | (simp [*]; done), by repeat (first | exact Drawn0.refl _ | apply Drawn0.step)⟩
 rw [if_neg c4] at H
 have c4b0 : (a1 == 1) = false := beq_eq_false_iff_ne.mpr c4
 have c4b1 : (a1 != 1) = true := bne_iff_ne.mpr c4
 by_cases c5 : a1 ≤ (wrap64 (a0 + 1))
 ·rw [if_pos c5] at H
  have c5b0 : decide (a1 ≤ (wrap64 (a0 + 1))) = true := decide_eq_true c5
  clear c5
  by_cases c6 : a0 = 0
  ·rw [if_pos c6] at H
   exact absurd H (by simp)
  rw [if_neg c6] at H
  have c6b0 : (a0 == 0) = false := beq_eq_false_iff_ne.mpr c6
  have c6b1 : (a0 != 0) = true := bne_iff_ne.mpr c6
  obtain rfl := Option.some.inj H
  go_enter Try.func86, Try.ntmps86
  go_wp2
  go_ret
  exact ⟨by first | rfl | (simp; done) | (simp [*]; done), by repeat (first | exact Drawn0.refl _ | apply Drawn0.step)⟩
 rw [if_neg c5] at H
 have c5b0 : decide (a1 ≤ (wrap64 (a0 + 1))) = false := decide_eq_false c5
 clear c5
 by_cases c7 : a0 = 0
 ·rw [if_pos c7] at H
  exact absurd H (by simp)
 rw [if_neg c7] at H
 have c7b0 : (a0 == 0) = false := beq_eq_false_iff_ne.mpr c7
 have c7b1 : (a0 != 0) = true := bne_iff_ne.mpr c7
 obtain rfl := Option.some.inj H
 go_enter Try.func86, Try.ntmps86
 go_wp2
 go_ret
 exact ⟨by first | rfl | (simp; done) | (simp [*]; done), by repeat (first | exact Drawn0.refl _ | apply Drawn0.step)⟩


/-! ### spec_l1Second: function 87 -/
def spec_l1Second.f (a0 : Int) (a1 : Int) : Option (Int) := if a1 < 2 then (some a1) else (if a1 ≤ (wrap64 (a0 + 1)) then (if a0 = 0 then (none) else (some (Int.tmod (wrap64 (a1 - 1)) a0))) else (if a0 = 0 then (none) else (some (Int.tmod a1 a0))))
set_option maxHeartbeats 8000000 in
set_option maxRecDepth 100000 in
theorem spec_l1Second.calls (a0 : Int) (a1 : Int) (r : Int) (w : World) (h : spec_l1Second.f a0 a1 = some r) :
  Calls Try.prog 87 #[.int .i64 a0, .int .i64 a1] w fun e w' => e = .returned (.int .i64 r) ∧ Drawn0 w w' := by
 have H : (if a1 < 2 then (some a1) else (if a1 ≤ (wrap64 (a0 + 1)) then (if a0 = 0 then (none) else (some (Int.tmod (wrap64 (a1 - 1)) a0))) else (if a0 = 0 then (none) else (some (Int.tmod a1 a0))))) = some r := h
 clear h
 by_cases c3 : a1 < 2
 ·rw [if_pos c3] at H
  have c3b0 : decide (a1 < 2) = true := decide_eq_true c3
  clear c3
  obtain rfl := Option.some.inj H
  go_enter Try.func87, Try.ntmps87
  go_wp2
  go_ret
  exact ⟨by first | rfl | (simp; done) | (simp [*]; done), by repeat (first | exact Drawn0.refl _ | apply Drawn0.step)⟩
 rw [if_neg c3] at H
 have c3b0 : decide (a1 < 2) = false := decide_eq_false c3
 clear c3
 by_cases c4 : a1 ≤ (wrap64 (a0 + 1))
 ·rw [if_pos c4] at H
  have c4b0 : decide (a1 ≤ (wrap64 (a0 + 1))) = true := decide_eq_true c4
  clear c4
  by_cases c5 : a0 = 0
  ·rw [if_pos c5] at H
   exact absurd H (by simp)
  rw [if_neg c5] at H
  have c5b0 : (a0 == 0) = false := beq_eq_false_iff_ne.mpr c5
  have c5b1 : (a0 != 0) = true := bne_iff_ne.mpr c5
  obtain rfl := Option.some.inj H
  go_enter Try.func87, Try.ntmps87
  go_wp2
  go_ret
  exact ⟨by first | rfl | (simp; done) | (simp [*]; done), by repeat (first | exact Drawn0.refl _ | apply Drawn0.step)⟩
 rw [if_neg c4] at H
 have c4b0 : decide (a1 ≤ (wrap64 (a0 + 1))) = false := decide_eq_false c4
 clear c4
 by_cases c6 : a0 = 0
 ·rw [if_pos c6] at H
  exact absurd H (by simp)
 rw [if_neg c6] at H
 have c6b0 : (a0 == 0) = false := beq_eq_false_iff_ne.mpr c6
 have c6b1 : (a0 != 0) = true := bne_iff_ne.mpr c6
 obtain rfl := Option.some.inj H
 go_enter Try.func87, Try.ntmps87
 go_wp2
 go_ret
 exact ⟨by first | rfl | (simp; done) | (simp [*]; done), by repeat (first | exact Drawn0.refl _ | apply Drawn0.step)⟩


/-! ### spec_l1Add: function 88 -/
def spec_l1Add.f (a0_0 : Int) (l0_1 : List Int) (l0_2 : List Int) (l0_3 : List Bool) (a1 : Int) (a2 : Int) : Option (Int) := if 0 ≤ (wrap64 ((wrap64 (a1 * a0_0)) + a2)) then (if (wrap64 ((wrap64 (a1 * a0_0)) + a2)) < (l0_1.length : Int) then (some (rd l0_1 (wrap64 ((wrap64 (a1 * a0_0)) + a2)))) else (none)) else (none)
set_option maxHeartbeats 8000000 in
set_option maxRecDepth 100000 in
theorem spec_l1Add.calls (a0_0 : Int) (A0_1 : Option Addr) (c0_1 : Nat) (l0_1 : List Int) (A0_2 : Option Addr) (c0_2 : Nat) (l0_2 : List Int) (A0_3 : Option Addr) (c0_3 : Nat) (l0_3 : List Bool) (a1 : Int) (a2 : Int) (r : Int) (w : World) (hr0_1 : Kd.C (Kd.int .i64) w A0_1 l0_1.length l0_1) (hc0_1 : l0_1.length ≤ c0_1) (hr0_2 : Kd.C (Kd.int .i64) w A0_2 l0_2.length l0_2) (hc0_2 : l0_2.length ≤ c0_2) (hr0_3 : Kd.C Kd.bool w A0_3 l0_3.length l0_3) (hc0_3 : l0_3.length ≤ c0_3) (h : spec_l1Add.f a0_0 l0_1 l0_2 l0_3 a1 a2 = some r) :
  Calls Try.prog 88 #[.agg #[.int .i64 a0_0, .slice A0_1 l0_1.length c0_1, .slice A0_2 l0_2.length c0_2, .slice A0_3 l0_3.length c0_3], .int .i64 a1, .int .i64 a2] w fun e w' => e = .returned (.int .i64 r) ∧ Below w.heap.size w w' := by
 have hu27 := Try.underlying27
 have HR0_1 := sd_ hr0_1
 have HC0_1 := sd_ hc0_1
 clear hr0_1 hc0_1
 have HR0_2 := sd_ hr0_2
 have HC0_2 := sd_ hc0_2
 clear hr0_2 hc0_2
 have HR0_3 := sd_ hr0_3
 have HC0_3 := sd_ hc0_3
 clear hr0_3 hc0_3
 have HB := sd_ (Below.refl w.heap.size w)
 have H : (if 0 ≤ (wrap64 ((wrap64 (a1 * a0_0)) + a2)) then (if (wrap64 ((wrap64 (a1 * a0_0)) + a2)) < (l0_1.length : Int) then (some (rd l0_1 (wrap64 ((wrap64 (a1 * a0_0)) + a2)))) else (none)) else (none)) = some r := h
 clear h
 obtain ⟨ji4, hji4⟩ : ∃ j_ : Int, (wrap64 ((wrap64 (a1 * a0_0)) + a2)) = j_ := ⟨_, rfl⟩
 replace H : (if 0 ≤ (ji4) then (if (ji4) < (l0_1.length : Int) then (some (rd l0_1 (ji4))) else (none)) else (none)) = some r := by first | (rw [hji4] at H; exact H) | (simp only [hji4] at H ⊢; exact H)
 have hji4w : (IntKind.i64.wrap ((wrap64 (a1 * a0_0)) + a2)) = ji4 := (i64_w _).trans hji4
 by_cases c5 : 0 ≤ (ji4)
 ·rw [if_pos c5] at H
  have c5b0 : decide (0 ≤ (ji4)) = true := decide_eq_true c5
  clear c5
  by_cases c6 : (ji4) < (l0_1.length : Int)
  ·rw [if_pos c6] at H
   have c6b0 : decide ((ji4) < (l0_1.length : Int)) = true := decide_eq_true c6
   clear c6
   obtain rfl := Option.some.inj H
   go_enter Try.func88, Try.ntmps88
   go_wp2_with (first | ((with_reducible refine gate_dst (N := 3) rfl ?_); refine bx_ (N := 3) (cs := #[.int .i64 a0_0, .slice A0_1 l0_1.length c0_1, .slice A0_2 l0_2.length c0_2, .slice A0_3 l0_3.length c0_3]) (t := 27) ?_; intro gb146 hg w7 hbox hb; have BK146 := sd_ (hbox); have GW146 := sd_ (gs_ hg (bw0_ HB.out)); have GE146 := sd_ (gs_ hg (bw0_ HB.out)); replace HB := sd_ (below_step (bw0_ HB.out) hb); clear hb hbox hg; obtain ⟨hcz8_0, hcz8_1, hcz8_2, hcz8_3, hfz8_0, hfz8_1, hfz8_2, hfz8_3⟩ := bf4_ BK146.out; have p147 : 0 ≤ ((ji4) : Int) := dt_; have q147 : (ji4) < (l0_1.length : Int) := dt_; obtain ⟨ad147, e147, hx147_0⟩ := Kd.at_int HR0_1.out (ji4) p147 q147; cases e147; replace hx147_0 := (HB.out.cell (World.block_lt_of_cell? w _ hx147_0)).trans hx147_0; replace p147 := eq_true p147; replace q147 := eq_true q147))
   go_ret
   exact ⟨by first | rfl | (simp [errW_none, errW_some] <;> rfl) | (simp only [← hji4]; first | rfl | (simp [errW_none, errW_some] <;> rfl)) | (simp [*, errW_none, errW_some] <;> rfl), bw1_ HB.out GE146.out⟩
  rw [if_neg c6] at H
  exact absurd H (by simp)
 rw [if_neg c5] at H
 exact absurd H (by simp)


/-! ### spec_l1Mul: function 89 -/
def spec_l1Mul.f (a0_0 : Int) (l0_1 : List Int) (l0_2 : List Int) (l0_3 : List Bool) (a1 : Int) (a2 : Int) : Option (Int) := if 0 ≤ (wrap64 ((wrap64 (a1 * a0_0)) + a2)) then (if (wrap64 ((wrap64 (a1 * a0_0)) + a2)) < (l0_2.length : Int) then (some (rd l0_2 (wrap64 ((wrap64 (a1 * a0_0)) + a2)))) else (none)) else (none)
set_option maxHeartbeats 8000000 in
set_option maxRecDepth 100000 in
theorem spec_l1Mul.calls (a0_0 : Int) (A0_1 : Option Addr) (c0_1 : Nat) (l0_1 : List Int) (A0_2 : Option Addr) (c0_2 : Nat) (l0_2 : List Int) (A0_3 : Option Addr) (c0_3 : Nat) (l0_3 : List Bool) (a1 : Int) (a2 : Int) (r : Int) (w : World) (hr0_1 : Kd.C (Kd.int .i64) w A0_1 l0_1.length l0_1) (hc0_1 : l0_1.length ≤ c0_1) (hr0_2 : Kd.C (Kd.int .i64) w A0_2 l0_2.length l0_2) (hc0_2 : l0_2.length ≤ c0_2) (hr0_3 : Kd.C Kd.bool w A0_3 l0_3.length l0_3) (hc0_3 : l0_3.length ≤ c0_3) (h : spec_l1Mul.f a0_0 l0_1 l0_2 l0_3 a1 a2 = some r) :
  Calls Try.prog 89 #[.agg #[.int .i64 a0_0, .slice A0_1 l0_1.length c0_1, .slice A0_2 l0_2.length c0_2, .slice A0_3 l0_3.length c0_3], .int .i64 a1, .int .i64 a2] w fun e w' => e = .returned (.int .i64 r) ∧ Below w.heap.size w w' := by
 have hu27 := Try.underlying27
 have HR0_1 := sd_ hr0_1
 have HC0_1 := sd_ hc0_1
 clear hr0_1 hc0_1
 have HR0_2 := sd_ hr0_2
 have HC0_2 := sd_ hc0_2
 clear hr0_2 hc0_2
 have HR0_3 := sd_ hr0_3
 have HC0_3 := sd_ hc0_3
 clear hr0_3 hc0_3
 have HB := sd_ (Below.refl w.heap.size w)
 have H : (if 0 ≤ (wrap64 ((wrap64 (a1 * a0_0)) + a2)) then (if (wrap64 ((wrap64 (a1 * a0_0)) + a2)) < (l0_2.length : Int) then (some (rd l0_2 (wrap64 ((wrap64 (a1 * a0_0)) + a2)))) else (none)) else (none)) = some r := h
 clear h
 obtain ⟨ji4, hji4⟩ : ∃ j_ : Int, (wrap64 ((wrap64 (a1 * a0_0)) + a2)) = j_ := ⟨_, rfl⟩
 replace H : (if 0 ≤ (ji4) then (if (ji4) < (l0_2.length : Int) then (some (rd l0_2 (ji4))) else (none)) else (none)) = some r := by first | (rw [hji4] at H; exact H) | (simp only [hji4] at H ⊢; exact H)
 have hji4w : (IntKind.i64.wrap ((wrap64 (a1 * a0_0)) + a2)) = ji4 := (i64_w _).trans hji4
 by_cases c5 : 0 ≤ (ji4)
 ·rw [if_pos c5] at H
  have c5b0 : decide (0 ≤ (ji4)) = true := decide_eq_true c5
  clear c5
  by_cases c6 : (ji4) < (l0_2.length : Int)
  ·rw [if_pos c6] at H
   have c6b0 : decide ((ji4) < (l0_2.length : Int)) = true := decide_eq_true c6
   clear c6
   obtain rfl := Option.some.inj H
   go_enter Try.func89, Try.ntmps89
   go_wp2_with (first | ((with_reducible refine gate_dst (N := 3) rfl ?_); refine bx_ (N := 3) (cs := #[.int .i64 a0_0, .slice A0_1 l0_1.length c0_1, .slice A0_2 l0_2.length c0_2, .slice A0_3 l0_3.length c0_3]) (t := 27) ?_; intro gb148 hg w7 hbox hb; have BK148 := sd_ (hbox); have GW148 := sd_ (gs_ hg (bw0_ HB.out)); have GE148 := sd_ (gs_ hg (bw0_ HB.out)); replace HB := sd_ (below_step (bw0_ HB.out) hb); clear hb hbox hg; obtain ⟨hcz8_0, hcz8_1, hcz8_2, hcz8_3, hfz8_0, hfz8_1, hfz8_2, hfz8_3⟩ := bf4_ BK148.out; have p149 : 0 ≤ ((ji4) : Int) := dt_; have q149 : (ji4) < (l0_2.length : Int) := dt_; obtain ⟨ad149, e149, hx149_0⟩ := Kd.at_int HR0_2.out (ji4) p149 q149; cases e149; replace hx149_0 := (HB.out.cell (World.block_lt_of_cell? w _ hx149_0)).trans hx149_0; replace p149 := eq_true p149; replace q149 := eq_true q149))
   go_ret
   exact ⟨by first | rfl | (simp [errW_none, errW_some] <;> rfl) | (simp only [← hji4]; first | rfl | (simp [errW_none, errW_some] <;> rfl)) | (simp [*, errW_none, errW_some] <;> rfl), bw1_ HB.out GE148.out⟩
  rw [if_neg c6] at H
  exact absurd H (by simp)
 rw [if_neg c5] at H
 exact absurd H (by simp)


/-! ### spec_l1Le: function 90 -/
def spec_l1Le.f (a0_0 : Int) (l0_1 : List Int) (l0_2 : List Int) (l0_3 : List Bool) (a1 : Int) (a2 : Int) : Option (Bool) := if 0 ≤ (wrap64 ((wrap64 (a1 * a0_0)) + a2)) then (if (wrap64 ((wrap64 (a1 * a0_0)) + a2)) < (l0_3.length : Int) then (some (rdOf false l0_3 (wrap64 ((wrap64 (a1 * a0_0)) + a2)))) else (none)) else (none)
set_option maxHeartbeats 8000000 in
set_option maxRecDepth 100000 in
theorem spec_l1Le.calls (a0_0 : Int) (A0_1 : Option Addr) (c0_1 : Nat) (l0_1 : List Int) (A0_2 : Option Addr) (c0_2 : Nat) (l0_2 : List Int) (A0_3 : Option Addr) (c0_3 : Nat) (l0_3 : List Bool) (a1 : Int) (a2 : Int) (r : Bool) (w : World) (hr0_1 : Kd.C (Kd.int .i64) w A0_1 l0_1.length l0_1) (hc0_1 : l0_1.length ≤ c0_1) (hr0_2 : Kd.C (Kd.int .i64) w A0_2 l0_2.length l0_2) (hc0_2 : l0_2.length ≤ c0_2) (hr0_3 : Kd.C Kd.bool w A0_3 l0_3.length l0_3) (hc0_3 : l0_3.length ≤ c0_3) (h : spec_l1Le.f a0_0 l0_1 l0_2 l0_3 a1 a2 = some r) :
  Calls Try.prog 90 #[.agg #[.int .i64 a0_0, .slice A0_1 l0_1.length c0_1, .slice A0_2 l0_2.length c0_2, .slice A0_3 l0_3.length c0_3], .int .i64 a1, .int .i64 a2] w fun e w' => e = .returned (.bool r) ∧ Below w.heap.size w w' := by
 have hu27 := Try.underlying27
 have HR0_1 := sd_ hr0_1
 have HC0_1 := sd_ hc0_1
 clear hr0_1 hc0_1
 have HR0_2 := sd_ hr0_2
 have HC0_2 := sd_ hc0_2
 clear hr0_2 hc0_2
 have HR0_3 := sd_ hr0_3
 have HC0_3 := sd_ hc0_3
 clear hr0_3 hc0_3
 have HB := sd_ (Below.refl w.heap.size w)
 have H : (if 0 ≤ (wrap64 ((wrap64 (a1 * a0_0)) + a2)) then (if (wrap64 ((wrap64 (a1 * a0_0)) + a2)) < (l0_3.length : Int) then (some (rdOf false l0_3 (wrap64 ((wrap64 (a1 * a0_0)) + a2)))) else (none)) else (none)) = some r := h
 clear h
 obtain ⟨ji4, hji4⟩ : ∃ j_ : Int, (wrap64 ((wrap64 (a1 * a0_0)) + a2)) = j_ := ⟨_, rfl⟩
 replace H : (if 0 ≤ (ji4) then (if (ji4) < (l0_3.length : Int) then (some (rdOf false l0_3 (ji4))) else (none)) else (none)) = some r := by first | (rw [hji4] at H; exact H) | (simp only [hji4] at H ⊢; exact H)
 have hji4w : (IntKind.i64.wrap ((wrap64 (a1 * a0_0)) + a2)) = ji4 := (i64_w _).trans hji4
 by_cases c5 : 0 ≤ (ji4)
 ·rw [if_pos c5] at H
  have c5b0 : decide (0 ≤ (ji4)) = true := decide_eq_true c5
  clear c5
  by_cases c6 : (ji4) < (l0_3.length : Int)
  ·rw [if_pos c6] at H
   have c6b0 : decide ((ji4) < (l0_3.length : Int)) = true := decide_eq_true c6
   clear c6
   obtain rfl := Option.some.inj H
   go_enter Try.func90, Try.ntmps90
   go_wp2_with (first | ((with_reducible refine gate_dst (N := 3) rfl ?_); refine bx_ (N := 3) (cs := #[.int .i64 a0_0, .slice A0_1 l0_1.length c0_1, .slice A0_2 l0_2.length c0_2, .slice A0_3 l0_3.length c0_3]) (t := 27) ?_; intro gb150 hg w7 hbox hb; have BK150 := sd_ (hbox); have GW150 := sd_ (gs_ hg (bw0_ HB.out)); have GE150 := sd_ (gs_ hg (bw0_ HB.out)); replace HB := sd_ (below_step (bw0_ HB.out) hb); clear hb hbox hg; obtain ⟨hcz8_0, hcz8_1, hcz8_2, hcz8_3, hfz8_0, hfz8_1, hfz8_2, hfz8_3⟩ := bf4_ BK150.out; have p151 : 0 ≤ ((ji4) : Int) := dt_; have q151 : (ji4) < (l0_3.length : Int) := dt_; obtain ⟨ad151, e151, hx151_0⟩ := Kd.at_bool HR0_3.out (ji4) p151 q151; cases e151; replace hx151_0 := (HB.out.cell (World.block_lt_of_cell? w _ hx151_0)).trans hx151_0; replace p151 := eq_true p151; replace q151 := eq_true q151))
   go_ret
   exact ⟨by first | rfl | (simp [errW_none, errW_some] <;> rfl) | (simp only [← hji4]; first | rfl | (simp [errW_none, errW_some] <;> rfl)) | (simp [*, errW_none, errW_some] <;> rfl), bw1_ HB.out GE150.out⟩
  rw [if_neg c6] at H
  exact absurd H (by simp)
 rw [if_neg c5] at H
 exact absurd H (by simp)


/-- A state of type 96 at block g of W; what its slices lead to came in by w0. -/
def IsS96 (w0 W : World) (g : Nat) (f0 : List Int) (f1 : Int) (f2 : Int) : Prop := ∃ A0 c0, W.heap[g]? = some (.cells #[.slice A0 f0.length c0, .int .i64 f1, .int .i64 f2] 96 (0, 0)) ∧ w0.heap.size ≤ g ∧ Kd.C (Kd.int .u8) w0 A0 f0.length f0
theorem IsS96.grown {w0 W : World} {g : Nat} {f0 : List Int} {f1 : Int} {f2 : Int} {W1 : World} {row : Option Nat} (h : IsS96 w0 W g f0 f1 f2) (hw : W.grownBy W1 row) (hne : some g ≠ row) : IsS96 w0 W1 g f0 f1 f2 := by
 obtain ⟨A0, c0, hb, hg, hr0⟩ := h
 exact ⟨A0, c0, blk_grown hb hw hne, hg, hr0⟩
theorem IsS96.own_neN {w0 W : World} {g : Nat} {f0 : List Int} {f1 : Int} {f2 : Int} {α : Type} {d : Kd α} {e : Nat} {base : Nat} {ok : Nat → Prop} {v : Value} {xs : List α} (h : IsS96 w0 W g f0 f1 f2) (ho : Kd.N d e W base ok v xs) (ht : e ≠ 96) : some g ≠ v.ownBlock := by
 obtain ⟨A0, c0, hb, hg, hr0⟩ := h
 exact Kd.N_ne ho hb ht
theorem IsS96.fresh {w0 W : World} {g : Nat} {f0 : List Int} {f1 : Int} {f2 : Int} (h : IsS96 w0 W g f0 f1 f2) : ∀ k, W.heap.size ≤ k → k ≠ g := by
 obtain ⟨A0, c0, hb, hg, hr0⟩ := h
 exact Kd.freshB hb
theorem IsS96.kept {w0 W : World} {g : Nat} {f0 : List Int} {f1 : Int} {f2 : Int} {W1 : World} {S : Nat → Prop} (h : IsS96 w0 W g f0 f1 f2) (hk : Kept W W1 S) (hne : ¬ S g) : IsS96 w0 W1 g f0 f1 f2 := by
 obtain ⟨A0, c0, hb, hg, hr0⟩ := h
 exact ⟨A0, c0, blk_kept hb hk hne, hg, hr0⟩
theorem IsS96.below {w0 W : World} {g : Nat} {f0 : List Int} {f1 : Int} {f2 : Int} {W1 : World} (h : IsS96 w0 W g f0 f1 f2) (hw : Below W.heap.size W W1) : IsS96 w0 W1 g f0 f1 f2 := h.grown (grown_of_below hw none) (by simp)
theorem IsS96.alloc {w0 W : World} {g : Nat} {f0 : List Int} {f1 : Int} {f2 : Int} (h : IsS96 w0 W g f0 f1 f2) (o : Obj) : IsS96 w0 (W.alloc o) g f0 f1 f2 := h.below (below_alloc (Below.refl _ _) o)
theorem IsS96.drewN {w0 W : World} {g : Nat} {f0 : List Int} {f1 : Int} {f2 : Int} (h : IsS96 w0 W g f0 f1 f2) (m : Nat) : IsS96 w0 (W.drewN m) g f0 f1 f2 := h
theorem IsS96.drew {w0 W : World} {g : Nat} {f0 : List Int} {f1 : Int} {f2 : Int} (h : IsS96 w0 W g f0 f1 f2) : IsS96 w0 W.drew g f0 f1 f2 := h
theorem IsS96.at_ {w0 W : World} {g : Nat} {f0 : List Int} {f1 : Int} {f2 : Int} {w' : World} {m : Nat} (hq : W.drewN m = w') (h : IsS96 w0 W g f0 f1 f2) : IsS96 w0 w' g f0 f1 f2 := by subst hq; exact IsS96.drewN h m
theorem IsS96.apart {w0 W : World} {g : Nat} {f0 : List Int} {f1 : Int} {f2 : Int} {α : Type} {d : Kd α} {e : Nat} {base : Nat} {ok : Nat → Prop} {v : Value} {xs : List α} (h : IsS96 w0 W g f0 f1 f2) (ho : d.R e W base ok v xs) (ht : ∀ q, q ∈ e :: d.E → q ≠ 96) : d.R e W base (fun k => ok k ∧ k ≠ g) v xs := by
 obtain ⟨A0, c0, hb, hg, hr0⟩ := h
 exact Kd.R_types ho hb ht
theorem IsS96.own_ne {w0 W : World} {g : Nat} {f0 : List Int} {f1 : Int} {f2 : Int} {α : Type} {d : Kd α} {e : Nat} {base : Nat} {ok : Nat → Prop} {v : Value} {xs : List α} (h : IsS96 w0 W g f0 f1 f2) (ho : d.R e W base ok v xs) (ht : e ≠ 96) : some g ≠ v.ownBlock := by
 obtain ⟨A0, c0, hb, hg, hr0⟩ := h
 exact Kd.R_ne ho hb ht
theorem IsS96.apartQ {w0 W : World} {g : Nat} {f0 : List Int} {f1 : Int} {f2 : Int} {α : Type} {d : Kd α} {e : Nat} {base : Nat} {ok : Nat → Prop} {v : Value} {xs : List α} (h : IsS96 w0 W g f0 f1 f2) (ho : d.Q e W base ok v xs) (ht : ∀ q, q ∈ e :: d.E → q ≠ 96) : d.Q e W base (fun k => ok k ∧ k ≠ g) v xs := by
 obtain ⟨A0, c0, hb, hg, hr0⟩ := h
 exact Kd.Q_types ho hb ht
theorem IsS96.own_neQ {w0 W : World} {g : Nat} {f0 : List Int} {f1 : Int} {f2 : Int} {α : Type} {d : Kd α} {e : Nat} {base : Nat} {ok : Nat → Prop} {v : Value} {xs : List α} (h : IsS96 w0 W g f0 f1 f2) (ho : d.Q e W base ok v xs) (ht : e ≠ 96) : some g ≠ v.ownBlock := by
 obtain ⟨A0, c0, hb, hg, hr0⟩ := h
 exact Kd.Q_ne ho hb ht
theorem IsS96.apartS {w0 W : World} {g : Nat} {f0 : List Int} {f1 : Int} {f2 : Int} {α : Type} {d : Kd α} {e : Nat} {base : Nat} {ok : Nat → Prop} {v : Value} {xs : List α} (h : IsS96 w0 W g f0 f1 f2) (ho : d.S e W base ok v xs) (ht : ∀ q, q ∈ e :: d.E → q ≠ 96) : d.S e W base (fun k => ok k ∧ k ≠ g) v xs := by
 obtain ⟨A0, c0, hb, hg, hr0⟩ := h
 exact Kd.S_types ho hb ht
theorem IsS96.own_neS {w0 W : World} {g : Nat} {f0 : List Int} {f1 : Int} {f2 : Int} {α : Type} {d : Kd α} {e : Nat} {base : Nat} {ok : Nat → Prop} {v : Value} {xs : List α} (h : IsS96 w0 W g f0 f1 f2) (ho : d.S e W base ok v xs) (ht : e ≠ 96) : some g ≠ v.ownBlock := by
 obtain ⟨A0, c0, hb, hg, hr0⟩ := h
 exact Kd.S_ne ho hb ht
theorem IsS96.lt {w0 W : World} {g : Nat} {f0 : List Int} {f1 : Int} {f2 : Int} (h : IsS96 w0 W g f0 f1 f2) : g < W.heap.size := by
 obtain ⟨A0, c0, hb, hg, hr0⟩ := h
 exact blk_lt hb
theorem IsS96.ge {w0 W : World} {g : Nat} {f0 : List Int} {f1 : Int} {f2 : Int} (h : IsS96 w0 W g f0 f1 f2) : w0.heap.size ≤ g := by
 obtain ⟨A0, c0, hb, hg, hr0⟩ := h
 exact hg
theorem IsS96.ne_blk {w0 W : World} {g : Nat} {f0 : List Int} {f1 : Int} {f2 : Int} {a : Nat} {cs : Array Value} {t : TypeId} {fr : Nat × Nat} (h : IsS96 w0 W g f0 f1 f2) (hb2 : W.heap[a]? = some (.cells cs t fr)) (ht : t ≠ 96) : g ≠ a := by
 obtain ⟨A0, c0, hb, hg, hr0⟩ := h
 rintro rfl
 rw [hb] at hb2
 injection hb2 with hb2
 injection hb2 with _ ht2
 exact ht ht2.symm
theorem IsS96.far {w0 W : World} {g : Nat} {f0 : List Int} {f1 : Int} {f2 : Int} {p : Addr} (h : IsS96 w0 W g f0 f1 f2) (hne : g ≠ p.block) (u : Value) : IsS96 w0 (W.setCell p u) g f0 f1 f2 := by
 obtain ⟨A0, c0, hb, hg, hr0⟩ := h
 exact ⟨A0, c0, blk_far hb hne u, hg, hr0⟩
theorem cellS96_0 {W : World} {g : Nat} {A0 : Option Addr} {c0 : Nat} {f0 : List Int} {f1 : Int} {f2 : Int} (h : W.heap[g]? = some (.cells #[.slice A0 f0.length c0, .int .i64 f1, .int .i64 f2] 96 (0, 0))) : W.cell? ⟨g, 0, none⟩ = some (.slice A0 f0.length c0) := (blk_cell h 0).trans rfl
theorem cellS96_1 {W : World} {g : Nat} {A0 : Option Addr} {c0 : Nat} {f0 : List Int} {f1 : Int} {f2 : Int} (h : W.heap[g]? = some (.cells #[.slice A0 f0.length c0, .int .i64 f1, .int .i64 f2] 96 (0, 0))) : W.cell? ⟨g, 1, none⟩ = some (.int .i64 f1) := (blk_cell h 1).trans rfl
theorem IsS96.set_1 {w0 W : World} {g : Nat} {f0 : List Int} {f1 : Int} {f2 : Int} (h : IsS96 w0 W g f0 f1 f2) (x : Int) : IsS96 w0 (W.setCell ⟨g, 1, none⟩ (.int .i64 x)) g f0 x f2 := by
 obtain ⟨A0, c0, hb, hg, hr0⟩ := h
 exact ⟨A0, c0, by simpa using blk_set hb 1 (.int .i64 x), hg, hr0⟩
theorem cellS96_2 {W : World} {g : Nat} {A0 : Option Addr} {c0 : Nat} {f0 : List Int} {f1 : Int} {f2 : Int} (h : W.heap[g]? = some (.cells #[.slice A0 f0.length c0, .int .i64 f1, .int .i64 f2] 96 (0, 0))) : W.cell? ⟨g, 2, none⟩ = some (.int .i64 f2) := (blk_cell h 2).trans rfl
theorem IsS96.set_2 {w0 W : World} {g : Nat} {f0 : List Int} {f1 : Int} {f2 : Int} (h : IsS96 w0 W g f0 f1 f2) (x : Int) : IsS96 w0 (W.setCell ⟨g, 2, none⟩ (.int .i64 x)) g f0 f1 x := by
 obtain ⟨A0, c0, hb, hg, hr0⟩ := h
 exact ⟨A0, c0, by simpa using blk_set hb 2 (.int .i64 x), hg, hr0⟩
theorem IsS96.new (w0 W : World) (A0 : Option Addr) (c0 : Nat) (f0 : List Int) (f1 : Int) (f2 : Int) (hB : Below w0.heap.size w0 W) (hr0 : Kd.C (Kd.int .u8) w0 A0 f0.length f0) : IsS96 w0 (W.alloc (.cells #[.slice A0 f0.length c0, .int .i64 f1, .int .i64 f2] 96)) W.heap.size f0 f1 f2 := ⟨A0, c0, by simpa using heap_alloc_new W _, hB.size, hr0⟩

/-! ### spec_l1New: function 95 -/
def spec_l1New.l0 : Nat → List Int → Int → Int → Option (List Int × Int × Int)
 | 0, _, _, _ => none
 | k + 1, x0, x3, x4 => if x4 < (x0.length : Int) then (if x4 < 4000 then (if 0 ≤ x4 then (spec_l1New.l0 k x0 (Go.bits .and .i64 (wrap64 ((wrap64 ((wrap64 (x3 * 151)) + (wrap64 (rd x0 x4)))) + 7)) 1073741823) (wrap64 (x4 + 1))) else (none)) else (some (x0, 0, x3))) else (some (x0, 0, x3))
def spec_l1New.f (k : Nat) (l0 : List Int) : Option (List Int × Int × Int) := spec_l1New.l0 k l0 (wrap64 (242117 + (l0.length : Int))) 0
set_option maxHeartbeats 8000000 in
set_option maxRecDepth 100000 in
theorem spec_l1New.calls (k : Nat) (A0 : Option Addr) (c0 : Nat) (l0 : List Int) (r1 : List Int) (r2 : Int) (r3 : Int) (w0 w : World) (hB : Below w0.heap.size w0 w) (hr0 : Kd.C (Kd.int .u8) w0 A0 l0.length l0) (hc0 : l0.length ≤ c0) (h : spec_l1New.f k l0 = some (r1, r2, r3)) :
  Calls Try.prog 95 #[.slice A0 l0.length c0] w fun e w' => ∃ g_ : Nat, e = .returned (.pointer (some ⟨g_, 0, none⟩)) ∧ IsS96 w0 w' g_ r1 r2 r3 ∧ Below w0.heap.size w0 w' ∧ Below w.heap.size w w' := by
 have hu96 := Try.underlying96
 have HR0 := sd_ hr0
 have HC0 := sd_ hc0
 clear hr0 hc0
 have HBW := sd_ (Below.refl w.heap.size w)
 have HW0 := sd_ hB.size
 have HB := sd_ hB
 clear hB
 have H : (spec_l1New.l0 k l0 (wrap64 (242117 + (l0.length : Int))) 0) = some (r1, r2, r3) := h
 clear h
 have H' := sd_ H
 clear H
 go_enter Try.func95, Try.ntmps95
 go_wp2
 go_loopg [3, 4] k (fun kq v3 v4 w' => ∃ (x3_1 : Int) (x4_1 : Int), v3 = .int .i64 x3_1 ∧ v4 = .int .i64 x4_1 ∧ Aside0 (spec_l1New.l0 kq l0 x3_1 x4_1 = some (r1, r2, r3)) ∧ Aside0 (kq ≤ k) ∧ Aside0 (Below w0.heap.size w0 w') ∧ Aside0 (Below w.heap.size w w'))
 case atStart => exact ⟨(wrap64 (242117 + (l0.length : Int))), (0), sm_, sm_, H', ⟨Nat.le_refl _⟩, ⟨bw0_ HB.out⟩, ⟨bw0_ HBW.out⟩⟩
 case round =>
  clear H'
  obtain ⟨x3_1, x4_1, rfl, rfl, HA, HK1, HB, HBW⟩ := hrel
  cases gk with
  | zero => exact absurd HA.out (by simp [spec_l1New.l0])
  | succ k1 =>
   have H := HA.out
   clear HA
   simp only [spec_l1New.l0] at H
   by_cases c2 : x4_1 < (l0.length : Int)
   ·rw [if_pos c2] at H
    have c2b0 : decide (x4_1 < (l0.length : Int)) = true := decide_eq_true c2
    clear c2
    by_cases c3 : x4_1 < 4000
    ·rw [if_pos c3] at H
     have c3b0 : decide (x4_1 < 4000) = true := decide_eq_true c3
     clear c3
     by_cases c4 : 0 ≤ x4_1
     ·rw [if_pos c4] at H
      have c4b0 : decide (0 ≤ x4_1) = true := decide_eq_true c4
      clear c4
      have H' := sd_ H
      clear H
      have p137 : 0 ≤ (x4_1 : Int) := dt_
      have q137 : x4_1 < (l0.length : Int) := dt_
      obtain ⟨ad137, e137, hx137_0⟩ := Kd.at_int HR0.out x4_1 p137 q137
      cases e137
      replace hx137_0 := pw_cell_below HB.out hx137_0
      replace p137 := eq_true p137
      replace q137 := eq_true q137
      go_wp2
      go_roundg k1
      case measure => have := HK1.out; omega
      case rel => exact ⟨(Go.bits .and .i64 (wrap64 ((wrap64 ((wrap64 (x3_1 * 151)) + (wrap64 (rd l0 x4_1)))) + 7)) 1073741823), (wrap64 (x4_1 + 1)), sm_, sm_, H', ⟨by have := HK1.out; omega⟩, ⟨bw0_ HB.out⟩, ⟨bw0_ HBW.out⟩⟩
     rw [if_neg c4] at H
     exact absurd H (by simp)
    rw [if_neg c3] at H
    have c3b0 : decide (x4_1 < 4000) = false := decide_eq_false c3
    clear c3
    simp only [Option.some.injEq, Prod.mk.injEq] at H
    obtain ⟨rfl, rfl, rfl⟩ := H
    go_wp2_with (first | ((with_reducible refine gate_dst (N := 31) rfl ?_); refine bx_ (N := 31) (cs := #[.slice A0 l0.length c0, .int .i64 0, .int .i64 x3_1]) (t := 96) ?_; intro gb138 hg w5 hbox hb; replace HB := sd_ (below_step (bw0_ HB.out) hb); have BK138 := sd_ (hbox); have GW138 := sd_ (gs_ hg (bw0_ HBW.out)); have GE138 := sd_ ((Nat.le_trans HW0.out (by rw [hg]; exact (below_size (bw0_ HBW.out)) : w.heap.size ≤ gb138) : w0.heap.size ≤ gb138)); replace HBW := sd_ (below_step HBW.out hb); clear hb hbox hg))
    go_ret
    exact ⟨_, rfl, (show IsS96 w0 _ gb138 l0 0 x3_1 from ⟨_, _, by exact bz_ BK138.out, GE138.out, HR0.out⟩), bw1_ HB.out GE138.out, bw1_ HBW.out GW138.out⟩
   rw [if_neg c2] at H
   have c2b0 : decide (x4_1 < (l0.length : Int)) = false := decide_eq_false c2
   clear c2
   simp only [Option.some.injEq, Prod.mk.injEq] at H
   obtain ⟨rfl, rfl, rfl⟩ := H
   go_wp2_with (first | ((with_reducible refine gate_dst (N := 31) rfl ?_); refine bx_ (N := 31) (cs := #[.slice A0 l0.length c0, .int .i64 0, .int .i64 x3_1]) (t := 96) ?_; intro gb139 hg w6 hbox hb; replace HB := sd_ (below_step (bw0_ HB.out) hb); have BK139 := sd_ (hbox); have GW139 := sd_ (gs_ hg (bw0_ HBW.out)); have GE139 := sd_ ((Nat.le_trans HW0.out (by rw [hg]; exact (below_size (bw0_ HBW.out)) : w.heap.size ≤ gb139) : w0.heap.size ≤ gb139)); replace HBW := sd_ (below_step HBW.out hb); clear hb hbox hg))
   go_ret
   exact ⟨_, rfl, (show IsS96 w0 _ gb139 l0 0 x3_1 from ⟨_, _, by exact bz_ BK139.out, GE139.out, HR0.out⟩), bw1_ HB.out GE139.out, bw1_ HBW.out GW139.out⟩

end Go.Proofs.Ytcdmnofomoadlaa.P
end
