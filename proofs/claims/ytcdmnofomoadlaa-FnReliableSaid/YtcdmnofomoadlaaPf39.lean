-- Printed by this session's own program (wip/tools/mkprint.py) out of the translation. Not trusted: Lean checks it.
import Derived.Test.YtcdmnofomoadlaaM1
import Derived.Test.YtcdmnofomoadlaaPf31
/-! short words -/
namespace Go.Proofs.Ytcdmnofomoadlaa.P
open Go.RowKit Go.Proofs.YtcdmnofomoadlaaW.PrintWords Go.Proofs.YtcdmnofomoadlaaW.PrintLast Go.Proofs.YtcdmnofomoadlaaW.PrintMore
attribute [local go_sem] max2_int min2_int max_two min_two max_three min_three max_four min_four   -- for this text's walks alone
set_option linter.unusedVariables false
set_option linter.unusedSimpArgs false

/-! ### impl_IsReliable: function 39 -/
mutual
def impl_IsReliable.l0 : Nat → Int → Int → List Int → List Int → List Bool → Option (Bool)
 | 0, _, _, _, _, _ => none
 | k + 1, x3, x540000, x540001, x540002, x540003 => if x3 < x540000 then (if x3 = 0 then (impl_IsReliable.j1 k x3 false x540000 x540001 x540002 x540003) else ((impl_System_below.f x540000 x540001 x540002 x540003 x3 0).bind fun t541 => (impl_IsReliable.j1 k x3 t541 x540000 x540001 x540002 x540003))) else (some true)
def impl_IsReliable.j1 : Nat → Int → Bool → Int → List Int → List Int → List Bool → Option (Bool)
 | 0, _, _, _, _, _, _ => none
 | k + 1, x3, x20, x540000, x540001, x540002, x540003 => if x20 = true then (some false) else (impl_IsReliable.l1 k x3 0 x540000 x540001 x540002 x540003)
def impl_IsReliable.l1 : Nat → Int → Int → Int → List Int → List Int → List Bool → Option (Bool)
 | 0, _, _, _, _, _, _ => none
 | k + 1, x3, x4, x540000, x540001, x540002, x540003 => if x4 < x540000 then ((impl_System_plus.f x540000 x540001 x540002 x540003 x3 x4).bind fun t542 => (if t542 = 0 then (if x3 = 0 then (if x4 = 0 then ((impl_System_times.f x540000 x540001 x540002 x540003 x3 x4).bind fun t543 => (if t543 = 0 then (impl_IsReliable.l1 k x3 (wrap64 (x4 + 1)) x540000 x540001 x540002 x540003) else (impl_IsReliable.l1 k x3 (wrap64 (x4 + 1)) x540000 x540001 x540002 x540003))) else (some false)) else (some false)) else ((impl_System_times.f x540000 x540001 x540002 x540003 x3 x4).bind fun t544 => (if t544 = 0 then (if x3 = 0 then (impl_IsReliable.l1 k x3 (wrap64 (x4 + 1)) x540000 x540001 x540002 x540003) else (if x4 = 0 then (impl_IsReliable.l1 k x3 (wrap64 (x4 + 1)) x540000 x540001 x540002 x540003) else (some false))) else (impl_IsReliable.l1 k x3 (wrap64 (x4 + 1)) x540000 x540001 x540002 x540003))))) else (impl_IsReliable.l0 k (wrap64 (x3 + 1)) x540000 x540001 x540002 x540003)
end
def impl_IsReliable.f (k : Nat) (a0_0 : Int) (l0_1 : List Int) (l0_2 : List Int) (l0_3 : List Bool) : Option (Bool) := (impl_IsSystem.f k a0_0 l0_1 l0_2 l0_3).bind fun t540 => (if t540 = true then (impl_IsReliable.l0 k 0 a0_0 l0_1 l0_2 l0_3) else (some false))
set_option maxHeartbeats 8000000 in
set_option maxRecDepth 100000 in
theorem impl_IsReliable.calls (k : Nat) (a0_0 : Int) (A0_1 : Option Addr) (c0_1 : Nat) (l0_1 : List Int) (A0_2 : Option Addr) (c0_2 : Nat) (l0_2 : List Int) (A0_3 : Option Addr) (c0_3 : Nat) (l0_3 : List Bool) (r : Bool) (w : World) (hr0_1 : Kd.C (Kd.int .i64) w A0_1 l0_1.length l0_1) (hc0_1 : l0_1.length ≤ c0_1) (hr0_2 : Kd.C (Kd.int .i64) w A0_2 l0_2.length l0_2) (hc0_2 : l0_2.length ≤ c0_2) (hr0_3 : Kd.C Kd.bool w A0_3 l0_3.length l0_3) (hc0_3 : l0_3.length ≤ c0_3) (h : impl_IsReliable.f k a0_0 l0_1 l0_2 l0_3 = some r) :
  Calls Try.prog 39 #[.agg #[.int .i64 a0_0, .slice A0_1 l0_1.length c0_1, .slice A0_2 l0_2.length c0_2, .slice A0_3 l0_3.length c0_3]] w fun e w' => e = .returned (.bool r) ∧ Below w.heap.size w w' := by
 have hu27 := Try.underlying27
 have HR0_1 := sd_ hr0_1
 have HC0_1 := sd_ hc0_1
 clear hr0_1 hc0_1
 have HR0_2 := sd_ hr0_2
 have HC0_2 := sd_ hc0_2
 clear hr0_2 hc0_2
 have HR0_3 := sd_ hr0_3
 have HC0_3 := sd_ hc0_3
 clear hr0_3 hc0_3
 have HB := sd_ (Below.refl w.heap.size w)
 have H : ((impl_IsSystem.f k a0_0 l0_1 l0_2 l0_3).bind fun t540 => (if t540 = true then (impl_IsReliable.l0 k 0 a0_0 l0_1 l0_2 l0_3) else (some false))) = some r := h
 clear h
 replace H := Option.bind_eq_some_iff.mp H
 obtain ⟨t540, A20, H⟩ := H
 try dsimp only at H
 have A2 := sd_ A20
 clear A20
 have HP3 := sd_ H
 clear H
 go_enter Try.func39, Try.ntmps39
 go_upto_if 7 with (first | ((with_reducible refine gate_dst (N := 1) rfl ?_); refine bx_ (N := 1) (cs := #[.int .i64 a0_0, .slice A0_1 l0_1.length c0_1, .slice A0_2 l0_2.length c0_2, .slice A0_3 l0_3.length c0_3]) (t := 27) ?_; intro gb539 hg w4 hbox hb; have BK539 := sd_ (hbox); have GW539 := sd_ (gs_ hg (bw0_ HB.out)); have GE539 := sd_ (gs_ hg (bw0_ HB.out)); replace HB := sd_ (below_step (bw0_ HB.out) hb); clear hb hbox hg; obtain ⟨hcz5_0, hcz5_1, hcz5_2, hcz5_3, hfz5_0, hfz5_1, hfz5_2, hfz5_3⟩ := bf4_ BK539.out) | ((with_reducible refine gate_callee (f := 31) rfl ?_); refine goesL_ (some 6) rfl rfl Try.func31 (by kernel_rfl) rfl #[.agg #[.int .i64 a0_0, .slice A0_1 l0_1.length c0_1, .slice A0_2 l0_2.length c0_2, .slice A0_3 l0_3.length c0_3]] rfl la_ ?_; (with_reducible refine (impl_IsSystem.calls k a0_0 _ _ l0_1 _ _ l0_2 _ _ l0_3 t540 _ (kc_ HR0_1.out HB.out) HC0_1.out (kc_ HR0_2.out HB.out) HC0_2.out (kc_ HR0_3.out HB.out) HC0_3.out A2.out).mono ?_); rintro e w6 ⟨rfl, hb⟩; refine ⟨_, rfl, ?_⟩; replace BK539 := sd_ (bb_ BK539.out hb); replace HB := sd_ (below_step (bw1_ HB.out GE539.out) hb); (try clear hb)))
 have H := HP3.out
 clear HP3
 by_cases c7 : t540 = true
 ·subst c7
  have H1 : (impl_IsReliable.l0 k 0 a0_0 l0_1 l0_2 l0_3) = some r := by rw [if_pos rfl] at H; exact H
  clear H
  have H := H1
  clear H1
  have H' := sd_ H
  clear H
  go_wp2
  go_loopg [3] k (fun kq v3 w' => ∃ (x3_1 : Int), v3 = .int .i64 x3_1 ∧ Aside0 (impl_IsReliable.l0 kq x3_1 a0_0 l0_1 l0_2 l0_3 = some r) ∧ Aside0 (kq ≤ k) ∧ Aside0 (w'.heap[gb539]? = some (.cells #[.int .i64 a0_0, (.slice A0_1 l0_1.length c0_1), (.slice A0_2 l0_2.length c0_2), (.slice A0_3 l0_3.length c0_3)] 27 (0, 0))) ∧ Aside0 (Below w.heap.size w w'))
  case atStart => exact ⟨(0), sm_, H', ⟨Nat.le_refl _⟩, ⟨by exact bz_ BK539.out⟩, ⟨bw1_ HB.out GE539.out⟩⟩
  case round =>
   clear H'
   try clear p2
   try clear c3
   try clear c7
   try clear hcz5_0
   try clear hcz5_1
   try clear hcz5_2
   try clear hcz5_3
   try clear hfz5_0
   try clear hfz5_1
   try clear hfz5_2
   try clear hfz5_3
   obtain ⟨x3_1, rfl, HA, HK1, BK539, HB⟩ := hrel
   cases gk with
   | zero => exact absurd HA.out (by simp [impl_IsReliable.l0])
   | succ k1 =>
    have H := HA.out
    clear HA
    simp only [impl_IsReliable.l0] at H
    by_cases c8 : x3_1 < a0_0
    ·rw [if_pos c8] at H
     have c8b0 : decide (x3_1 < a0_0) = true := decide_eq_true c8
     clear c8
     (first | rw [c8b0] | (simp only [i64_w, i32_w]; rw [c8b0]) | skip)
     have HC9 := sd_ H
     clear H
     obtain ⟨hcz10_0, hcz10_1, hcz10_2, hcz10_3, hfz10_0, hfz10_1, hfz10_2, hfz10_3⟩ := bf4_ BK539.out
     go_upto_region 6 with (fail)
     go_cut [20] (fun v20 wc => ∃ (kq : Nat) (x20_8 : Bool), v20 = .bool x20_8 ∧ Aside0 (impl_IsReliable.j1 kq x3_1 x20_8 a0_0 l0_1 l0_2 l0_3 = some r) ∧ Aside0 (kq ≤ k1) ∧ Aside0 (wc.heap[gb539]? = some (.cells #[.int .i64 a0_0, (.slice A0_1 l0_1.length c0_1), (.slice A0_2 l0_2.length c0_2), (.slice A0_3 l0_3.length c0_3)] 27 (0, 0))) ∧ Aside0 (Below w.heap.size w wc))
     case first =>
      have H := HC9.out
      clear HC9
      by_cases c11 : x3_1 = 0
      ·rw [if_pos c11] at H
       have c11b0 : (x3_1 == 0) = true := beq_iff_eq.mpr c11
       have c11b1 : (x3_1 != 0) = false := bne_eq_false_iff_eq.mpr c11
       clear c11
       (first | rw [c11b0] | (simp only [i64_w, i32_w]; rw [c11b0]) | skip)
       have H' := sd_ H
       clear H
       go_wp2
       go_meet
       case rel => exact ⟨_, (false), sm_, H', ⟨by have := HK1.out; first | omega | exact Nat.le_refl _⟩, ⟨by exact bz_ BK539.out⟩, ⟨bw1_ HB.out GE539.out⟩⟩
      rw [if_neg c11] at H
      have c11b0 : (x3_1 == 0) = false := beq_eq_false_iff_ne.mpr c11
      have c11b1 : (x3_1 != 0) = true := bne_iff_ne.mpr c11
      (first | rw [c11b0] | (simp only [i64_w, i32_w]; rw [c11b0]) | skip)
      replace H := Option.bind_eq_some_iff.mp H
      obtain ⟨t541, A120, H⟩ := H
      try dsimp only at H
      have A12 := sd_ A120
      clear A120
      have H' := sd_ H
      clear H
      obtain ⟨hcz13_0, hcz13_1, hcz13_2, hcz13_3, hfz13_0, hfz13_1, hfz13_2, hfz13_3⟩ := bf4_ BK539.out
      go_wp2_with (first | (go_at_call 71; (with_reducible refine (impl_System_below.calls a0_0 _ _ l0_1 _ _ l0_2 _ _ l0_3 x3_1 0 t541 _ (kc_ HR0_1.out HB.out) HC0_1.out (kc_ HR0_2.out HB.out) HC0_2.out (kc_ HR0_3.out HB.out) HC0_3.out A12.out).mono ?_); rintro e w14 ⟨rfl, hb⟩; replace BK539 := sd_ (bb_ BK539.out hb); replace HB := sd_ (below_step (bw1_ HB.out GE539.out) hb); (try clear hb)))
      go_meet
      case rel => exact ⟨_, (t541), sm_, H', ⟨by have := HK1.out; first | omega | exact Nat.le_refl _⟩, ⟨by exact bz_ BK539.out⟩, ⟨bw1_ HB.out GE539.out⟩⟩
     case rest =>
      clear HC9
      try clear p2
      try clear c3
      try clear c7
      try clear c8
      try clear c8b0
      try clear hcz10_0
      try clear hcz10_1
      try clear hcz10_2
      try clear hcz10_3
      try clear hcz5_0
      try clear hcz5_1
      try clear hcz5_2
      try clear hcz5_3
      try clear hfz10_0
      try clear hfz10_1
      try clear hfz10_2
      try clear hfz10_3
      try clear hfz5_0
      try clear hfz5_1
      try clear hfz5_2
      try clear hfz5_3
      try clear p2
      obtain ⟨kq, x20_8, rfl, HA, HJ8, BK539, HB⟩ := hcut
      cases kq with
      | zero => exact absurd HA.out (by simp [impl_IsReliable.j1])
      | succ kj8 =>
       have H := HA.out
       clear HA
       simp only [impl_IsReliable.j1] at H
       by_cases c15 : x20_8 = true
       ·subst c15
        have H1 : (some false) = some r := by rw [if_pos rfl] at H; exact H
        clear H
        have H := H1
        clear H1
        obtain rfl := Option.some.inj H
        go_wp2
        go_ret
        exact ⟨an_, bw1_ HB.out GE539.out⟩
       replace c15 := Bool.eq_false_iff.mpr c15
       subst c15
       have H1 : (impl_IsReliable.l1 kj8 x3_1 0 a0_0 l0_1 l0_2 l0_3) = some r := by rw [if_neg (show ¬ (false = true) by decide)] at H; exact H
       clear H
       have H := H1
       clear H1
       have H' := sd_ H
       clear H
       go_wp2
       go_loopg [4] kj8 (fun kq v4 w' => ∃ (x4_3 : Int), v4 = .int .i64 x4_3 ∧ Aside0 (impl_IsReliable.l1 kq x3_1 x4_3 a0_0 l0_1 l0_2 l0_3 = some r) ∧ Aside0 (kq ≤ kj8) ∧ Aside0 (w'.heap[gb539]? = some (.cells #[.int .i64 a0_0, (.slice A0_1 l0_1.length c0_1), (.slice A0_2 l0_2.length c0_2), (.slice A0_3 l0_3.length c0_3)] 27 (0, 0))) ∧ Aside0 (Below w.heap.size w w'))
       case atStart => exact ⟨(0), sm_, H', ⟨Nat.le_refl _⟩, ⟨by exact bz_ BK539.out⟩, ⟨bw1_ HB.out GE539.out⟩⟩
       case round =>
        clear H'
        try clear c1
        try clear p2
        try clear c3
        try clear c7
        try clear c8
        try clear c8b0
        try clear c15
        try clear hcz10_0
        try clear hcz10_1
        try clear hcz10_2
        try clear hcz10_3
        try clear hcz5_0
        try clear hcz5_1
        try clear hcz5_2
        try clear hcz5_3
        try clear hfz10_0
        try clear hfz10_1
        try clear hfz10_2
        try clear hfz10_3
        try clear hfz5_0
        try clear hfz5_1
        try clear hfz5_2
        try clear hfz5_3
        try clear p2
        obtain ⟨x4_3, rfl, HA, HK3, BK539, HB⟩ := hrel
        cases gk with
        | zero => exact absurd HA.out (by simp [impl_IsReliable.l1])
        | succ k3 =>
         have H := HA.out
         clear HA
         simp only [impl_IsReliable.l1] at H
         by_cases c16 : x4_3 < a0_0
         ·rw [if_pos c16] at H
          have c16b0 : decide (x4_3 < a0_0) = true := decide_eq_true c16
          clear c16
          replace H := Option.bind_eq_some_iff.mp H
          obtain ⟨t542, A170, H⟩ := H
          try dsimp only at H
          have A17 := sd_ A170
          clear A170
          by_cases c18 : t542 = 0
          ·rw [if_pos c18] at H
           have c18b0 : (t542 == 0) = true := beq_iff_eq.mpr c18
           have c18b1 : (t542 != 0) = false := bne_eq_false_iff_eq.mpr c18
           clear c18
           by_cases c19 : x3_1 = 0
           ·rw [if_pos c19] at H
            have c19b0 : (x3_1 == 0) = true := beq_iff_eq.mpr c19
            have c19b1 : (x3_1 != 0) = false := bne_eq_false_iff_eq.mpr c19
            clear c19
            by_cases c20 : x4_3 = 0
            ·rw [if_pos c20] at H
             have c20b0 : (x4_3 == 0) = true := beq_iff_eq.mpr c20
             have c20b1 : (x4_3 != 0) = false := bne_eq_false_iff_eq.mpr c20
             clear c20
             replace H := Option.bind_eq_some_iff.mp H
             obtain ⟨t543, A210, H⟩ := H
             try dsimp only at H
             have A21 := sd_ A210
             clear A210
             by_cases c22 : t543 = 0
             ·rw [if_pos c22] at H
              have c22b0 : (t543 == 0) = true := beq_iff_eq.mpr c22
              have c22b1 : (t543 != 0) = false := bne_eq_false_iff_eq.mpr c22
              clear c22
              have H' := sd_ H
              clear H
              obtain ⟨hcz23_0, hcz23_1, hcz23_2, hcz23_3, hfz23_0, hfz23_1, hfz23_2, hfz23_3⟩ := bf4_ BK539.out
              go_wp2_with (first | ((with_reducible refine gate_callee (f := 67) rfl ?_); refine goesL_ (some 30) rfl rfl Try.func67 (by kernel_rfl) rfl #[.agg #[.int .i64 a0_0, .slice A0_1 l0_1.length c0_1, .slice A0_2 l0_2.length c0_2, .slice A0_3 l0_3.length c0_3], .int .i64 x3_1, .int .i64 x4_3] rfl la_ ?_; (with_reducible refine (impl_System_plus.calls a0_0 _ _ l0_1 _ _ l0_2 _ _ l0_3 x3_1 x4_3 t542 _ (kc_ HR0_1.out HB.out) HC0_1.out (kc_ HR0_2.out HB.out) HC0_2.out (kc_ HR0_3.out HB.out) HC0_3.out A17.out).mono ?_); rintro e w24 ⟨rfl, hb⟩; refine ⟨_, rfl, ?_⟩; replace BK539 := sd_ (bb_ BK539.out hb); replace HB := sd_ (below_step (bw1_ HB.out GE539.out) hb); (try clear hb); obtain ⟨hcz25_0, hcz25_1, hcz25_2, hcz25_3, hfz25_0, hfz25_1, hfz25_2, hfz25_3⟩ := bf4_ BK539.out) | (go_at_call 69; (with_reducible refine (impl_System_times.calls a0_0 _ _ l0_1 _ _ l0_2 _ _ l0_3 x3_1 x4_3 t543 _ (kc_ HR0_1.out HB.out) HC0_1.out (kc_ HR0_2.out HB.out) HC0_2.out (kc_ HR0_3.out HB.out) HC0_3.out A21.out).mono ?_); rintro e w26 ⟨rfl, hb⟩; replace BK539 := sd_ (bb_ BK539.out hb); replace HB := sd_ (below_step (bw1_ HB.out GE539.out) hb); (try clear hb)))
              go_roundg k3
              case measure => have := HK1.out; have := HJ8.out; have := HK3.out; omega
              case rel => exact ⟨(wrap64 (x4_3 + 1)), sm_, H', ⟨by have := HK1.out; have := HJ8.out; have := HK3.out; omega⟩, ⟨by exact bz_ BK539.out⟩, ⟨bw1_ HB.out GE539.out⟩⟩
             rw [if_neg c22] at H
             have c22b0 : (t543 == 0) = false := beq_eq_false_iff_ne.mpr c22
             have c22b1 : (t543 != 0) = true := bne_iff_ne.mpr c22
             have H' := sd_ H
             clear H
             obtain ⟨hcz27_0, hcz27_1, hcz27_2, hcz27_3, hfz27_0, hfz27_1, hfz27_2, hfz27_3⟩ := bf4_ BK539.out
             go_wp2_with (first | ((with_reducible refine gate_callee (f := 67) rfl ?_); refine goesL_ (some 30) rfl rfl Try.func67 (by kernel_rfl) rfl #[.agg #[.int .i64 a0_0, .slice A0_1 l0_1.length c0_1, .slice A0_2 l0_2.length c0_2, .slice A0_3 l0_3.length c0_3], .int .i64 x3_1, .int .i64 x4_3] rfl la_ ?_; (with_reducible refine (impl_System_plus.calls a0_0 _ _ l0_1 _ _ l0_2 _ _ l0_3 x3_1 x4_3 t542 _ (kc_ HR0_1.out HB.out) HC0_1.out (kc_ HR0_2.out HB.out) HC0_2.out (kc_ HR0_3.out HB.out) HC0_3.out A17.out).mono ?_); rintro e w28 ⟨rfl, hb⟩; refine ⟨_, rfl, ?_⟩; replace BK539 := sd_ (bb_ BK539.out hb); replace HB := sd_ (below_step (bw1_ HB.out GE539.out) hb); (try clear hb); obtain ⟨hcz29_0, hcz29_1, hcz29_2, hcz29_3, hfz29_0, hfz29_1, hfz29_2, hfz29_3⟩ := bf4_ BK539.out) | (go_at_call 69; (with_reducible refine (impl_System_times.calls a0_0 _ _ l0_1 _ _ l0_2 _ _ l0_3 x3_1 x4_3 t543 _ (kc_ HR0_1.out HB.out) HC0_1.out (kc_ HR0_2.out HB.out) HC0_2.out (kc_ HR0_3.out HB.out) HC0_3.out A21.out).mono ?_); rintro e w30 ⟨rfl, hb⟩; replace BK539 := sd_ (bb_ BK539.out hb); replace HB := sd_ (below_step (bw1_ HB.out GE539.out) hb); (try clear hb)))
             go_roundg k3
             case measure => have := HK1.out; have := HJ8.out; have := HK3.out; omega
             case rel => exact ⟨(wrap64 (x4_3 + 1)), sm_, H', ⟨by have := HK1.out; have := HJ8.out; have := HK3.out; omega⟩, ⟨by exact bz_ BK539.out⟩, ⟨bw1_ HB.out GE539.out⟩⟩
            rw [if_neg c20] at H
            have c20b0 : (x4_3 == 0) = false := beq_eq_false_iff_ne.mpr c20
            have c20b1 : (x4_3 != 0) = true := bne_iff_ne.mpr c20
            obtain rfl := Option.some.inj H
            obtain ⟨hcz31_0, hcz31_1, hcz31_2, hcz31_3, hfz31_0, hfz31_1, hfz31_2, hfz31_3⟩ := bf4_ BK539.out
            go_wp2_with (first | ((with_reducible refine gate_callee (f := 67) rfl ?_); refine goesL_ (some 30) rfl rfl Try.func67 (by kernel_rfl) rfl #[.agg #[.int .i64 a0_0, .slice A0_1 l0_1.length c0_1, .slice A0_2 l0_2.length c0_2, .slice A0_3 l0_3.length c0_3], .int .i64 x3_1, .int .i64 x4_3] rfl la_ ?_; (with_reducible refine (impl_System_plus.calls a0_0 _ _ l0_1 _ _ l0_2 _ _ l0_3 x3_1 x4_3 t542 _ (kc_ HR0_1.out HB.out) HC0_1.out (kc_ HR0_2.out HB.out) HC0_2.out (kc_ HR0_3.out HB.out) HC0_3.out A17.out).mono ?_); rintro e w32 ⟨rfl, hb⟩; refine ⟨_, rfl, ?_⟩; replace BK539 := sd_ (bb_ BK539.out hb); replace HB := sd_ (below_step (bw1_ HB.out GE539.out) hb); (try clear hb)))
            go_ret
            exact ⟨an_, bw1_ HB.out GE539.out⟩
           rw [if_neg c19] at H
           have c19b0 : (x3_1 == 0) = false := beq_eq_false_iff_ne.mpr c19
           have c19b1 : (x3_1 != 0) = true := bne_iff_ne.mpr c19
           obtain rfl := Option.some.inj H
           obtain ⟨hcz33_0, hcz33_1, hcz33_2, hcz33_3, hfz33_0, hfz33_1, hfz33_2, hfz33_3⟩ := bf4_ BK539.out
           go_wp2_with (first | ((with_reducible refine gate_callee (f := 67) rfl ?_); refine goesL_ (some 30) rfl rfl Try.func67 (by kernel_rfl) rfl #[.agg #[.int .i64 a0_0, .slice A0_1 l0_1.length c0_1, .slice A0_2 l0_2.length c0_2, .slice A0_3 l0_3.length c0_3], .int .i64 x3_1, .int .i64 x4_3] rfl la_ ?_; (with_reducible refine (impl_System_plus.calls a0_0 _ _ l0_1 _ _ l0_2 _ _ l0_3 x3_1 x4_3 t542 _ (kc_ HR0_1.out HB.out) HC0_1.out (kc_ HR0_2.out HB.out) HC0_2.out (kc_ HR0_3.out HB.out) HC0_3.out A17.out).mono ?_); rintro e w34 ⟨rfl, hb⟩; refine ⟨_, rfl, ?_⟩; replace BK539 := sd_ (bb_ BK539.out hb); replace HB := sd_ (below_step (bw1_ HB.out GE539.out) hb); (try clear hb)))
           go_ret
           exact ⟨an_, bw1_ HB.out GE539.out⟩
          rw [if_neg c18] at H
          have c18b0 : (t542 == 0) = false := beq_eq_false_iff_ne.mpr c18
          have c18b1 : (t542 != 0) = true := bne_iff_ne.mpr c18
          replace H := Option.bind_eq_some_iff.mp H
          obtain ⟨t544, A350, H⟩ := H
          try dsimp only at H
          have A35 := sd_ A350
          clear A350
          by_cases c36 : t544 = 0
          ·rw [if_pos c36] at H
           have c36b0 : (t544 == 0) = true := beq_iff_eq.mpr c36
           have c36b1 : (t544 != 0) = false := bne_eq_false_iff_eq.mpr c36
           clear c36
           by_cases c37 : x3_1 = 0
           ·rw [if_pos c37] at H
            have c37b0 : (x3_1 == 0) = true := beq_iff_eq.mpr c37
            have c37b1 : (x3_1 != 0) = false := bne_eq_false_iff_eq.mpr c37
            clear c37
            have H' := sd_ H
            clear H
            obtain ⟨hcz38_0, hcz38_1, hcz38_2, hcz38_3, hfz38_0, hfz38_1, hfz38_2, hfz38_3⟩ := bf4_ BK539.out
            go_wp2_with (first | ((with_reducible refine gate_callee (f := 67) rfl ?_); refine goesL_ (some 30) rfl rfl Try.func67 (by kernel_rfl) rfl #[.agg #[.int .i64 a0_0, .slice A0_1 l0_1.length c0_1, .slice A0_2 l0_2.length c0_2, .slice A0_3 l0_3.length c0_3], .int .i64 x3_1, .int .i64 x4_3] rfl la_ ?_; (with_reducible refine (impl_System_plus.calls a0_0 _ _ l0_1 _ _ l0_2 _ _ l0_3 x3_1 x4_3 t542 _ (kc_ HR0_1.out HB.out) HC0_1.out (kc_ HR0_2.out HB.out) HC0_2.out (kc_ HR0_3.out HB.out) HC0_3.out A17.out).mono ?_); rintro e w39 ⟨rfl, hb⟩; refine ⟨_, rfl, ?_⟩; replace BK539 := sd_ (bb_ BK539.out hb); replace HB := sd_ (below_step (bw1_ HB.out GE539.out) hb); (try clear hb); obtain ⟨hcz40_0, hcz40_1, hcz40_2, hcz40_3, hfz40_0, hfz40_1, hfz40_2, hfz40_3⟩ := bf4_ BK539.out) | (go_at_call 69; (with_reducible refine (impl_System_times.calls a0_0 _ _ l0_1 _ _ l0_2 _ _ l0_3 x3_1 x4_3 t544 _ (kc_ HR0_1.out HB.out) HC0_1.out (kc_ HR0_2.out HB.out) HC0_2.out (kc_ HR0_3.out HB.out) HC0_3.out A35.out).mono ?_); rintro e w41 ⟨rfl, hb⟩; replace BK539 := sd_ (bb_ BK539.out hb); replace HB := sd_ (below_step (bw1_ HB.out GE539.out) hb); (try clear hb)))
            go_roundg k3
            case measure => have := HK1.out; have := HJ8.out; have := HK3.out; omega
            case rel => exact ⟨(wrap64 (x4_3 + 1)), sm_, H', ⟨by have := HK1.out; have := HJ8.out; have := HK3.out; omega⟩, ⟨by exact bz_ BK539.out⟩, ⟨bw1_ HB.out GE539.out⟩⟩
           rw [if_neg c37] at H
           have c37b0 : (x3_1 == 0) = false := beq_eq_false_iff_ne.mpr c37
           have c37b1 : (x3_1 != 0) = true := bne_iff_ne.mpr c37
           have HP42 := sd_ H
           clear H
           obtain ⟨hcz43_0, hcz43_1, hcz43_2, hcz43_3, hfz43_0, hfz43_1, hfz43_2, hfz43_3⟩ := bf4_ BK539.out
           go_upto_if 54 with (first | ((with_reducible refine gate_callee (f := 67) rfl ?_); refine goesL_ (some 30) rfl rfl Try.func67 (by kernel_rfl) rfl #[.agg #[.int .i64 a0_0, .slice A0_1 l0_1.length c0_1, .slice A0_2 l0_2.length c0_2, .slice A0_3 l0_3.length c0_3], .int .i64 x3_1, .int .i64 x4_3] rfl la_ ?_; (with_reducible refine (impl_System_plus.calls a0_0 _ _ l0_1 _ _ l0_2 _ _ l0_3 x3_1 x4_3 t542 _ (kc_ HR0_1.out HB.out) HC0_1.out (kc_ HR0_2.out HB.out) HC0_2.out (kc_ HR0_3.out HB.out) HC0_3.out A17.out).mono ?_); rintro e w44 ⟨rfl, hb⟩; refine ⟨_, rfl, ?_⟩; replace BK539 := sd_ (bb_ BK539.out hb); replace HB := sd_ (below_step (bw1_ HB.out GE539.out) hb); (try clear hb); obtain ⟨hcz45_0, hcz45_1, hcz45_2, hcz45_3, hfz45_0, hfz45_1, hfz45_2, hfz45_3⟩ := bf4_ BK539.out) | (go_at_call 69; (with_reducible refine (impl_System_times.calls a0_0 _ _ l0_1 _ _ l0_2 _ _ l0_3 x3_1 x4_3 t544 _ (kc_ HR0_1.out HB.out) HC0_1.out (kc_ HR0_2.out HB.out) HC0_2.out (kc_ HR0_3.out HB.out) HC0_3.out A35.out).mono ?_); rintro e w46 ⟨rfl, hb⟩; replace BK539 := sd_ (bb_ BK539.out hb); replace HB := sd_ (below_step (bw1_ HB.out GE539.out) hb); (try clear hb)))
           have H := HP42.out
           clear HP42
           by_cases c47 : x4_3 = 0
           ·rw [if_pos c47] at H
            have c47b0 : (x4_3 == 0) = true := beq_iff_eq.mpr c47
            have c47b1 : (x4_3 != 0) = false := bne_eq_false_iff_eq.mpr c47
            clear c47
            (first | rw [c47b0] | (simp only [i64_w, i32_w]; rw [c47b0]) | skip)
            have H' := sd_ H
            clear H
            go_wp2
            go_roundg k3
            case measure => have := HK1.out; have := HJ8.out; have := HK3.out; omega
            case rel => exact ⟨(wrap64 (x4_3 + 1)), sm_, H', ⟨by have := HK1.out; have := HJ8.out; have := HK3.out; omega⟩, ⟨by exact bz_ BK539.out⟩, ⟨bw1_ HB.out GE539.out⟩⟩
           rw [if_neg c47] at H
           have c47b0 : (x4_3 == 0) = false := beq_eq_false_iff_ne.mpr c47
           have c47b1 : (x4_3 != 0) = true := bne_iff_ne.mpr c47
           (first | rw [c47b0] | (simp only [i64_w, i32_w]; rw [c47b0]) | skip)
           obtain rfl := Option.some.inj H
           go_wp2
           go_ret
           exact ⟨an_, bw1_ HB.out GE539.out⟩
          rw [if_neg c36] at H
          have c36b0 : (t544 == 0) = false := beq_eq_false_iff_ne.mpr c36
          have c36b1 : (t544 != 0) = true := bne_iff_ne.mpr c36
          have H' := sd_ H
          clear H
          obtain ⟨hcz48_0, hcz48_1, hcz48_2, hcz48_3, hfz48_0, hfz48_1, hfz48_2, hfz48_3⟩ := bf4_ BK539.out
          go_wp2_with (first | ((with_reducible refine gate_callee (f := 67) rfl ?_); refine goesL_ (some 30) rfl rfl Try.func67 (by kernel_rfl) rfl #[.agg #[.int .i64 a0_0, .slice A0_1 l0_1.length c0_1, .slice A0_2 l0_2.length c0_2, .slice A0_3 l0_3.length c0_3], .int .i64 x3_1, .int .i64 x4_3] rfl la_ ?_; (with_reducible refine (impl_System_plus.calls a0_0 _ _ l0_1 _ _ l0_2 _ _ l0_3 x3_1 x4_3 t542 _ (kc_ HR0_1.out HB.out) HC0_1.out (kc_ HR0_2.out HB.out) HC0_2.out (kc_ HR0_3.out HB.out) HC0_3.out A17.out).mono ?_); rintro e w49 ⟨rfl, hb⟩; refine ⟨_, rfl, ?_⟩; replace BK539 := sd_ (bb_ BK539.out hb); replace HB := sd_ (below_step (bw1_ HB.out GE539.out) hb); (try clear hb); obtain ⟨hcz50_0, hcz50_1, hcz50_2, hcz50_3, hfz50_0, hfz50_1, hfz50_2, hfz50_3⟩ := bf4_ BK539.out) | (go_at_call 69; (with_reducible refine (impl_System_times.calls a0_0 _ _ l0_1 _ _ l0_2 _ _ l0_3 x3_1 x4_3 t544 _ (kc_ HR0_1.out HB.out) HC0_1.out (kc_ HR0_2.out HB.out) HC0_2.out (kc_ HR0_3.out HB.out) HC0_3.out A35.out).mono ?_); rintro e w51 ⟨rfl, hb⟩; replace BK539 := sd_ (bb_ BK539.out hb); replace HB := sd_ (below_step (bw1_ HB.out GE539.out) hb); (try clear hb)))
          go_roundg k3
          case measure => have := HK1.out; have := HJ8.out; have := HK3.out; omega
          case rel => exact ⟨(wrap64 (x4_3 + 1)), sm_, H', ⟨by have := HK1.out; have := HJ8.out; have := HK3.out; omega⟩, ⟨by exact bz_ BK539.out⟩, ⟨bw1_ HB.out GE539.out⟩⟩
         rw [if_neg c16] at H
         have c16b0 : decide (x4_3 < a0_0) = false := decide_eq_false c16
         clear c16
         have H' := sd_ H
         clear H
         obtain ⟨hcz52_0, hcz52_1, hcz52_2, hcz52_3, hfz52_0, hfz52_1, hfz52_2, hfz52_3⟩ := bf4_ BK539.out
         go_wp2
         go_roundg k3
         case measure => have := HK1.out; have := HJ8.out; have := HK3.out; omega
         case rel => exact ⟨(wrap64 (x3_1 + 1)), sm_, H', ⟨by have := HK1.out; have := HJ8.out; have := HK3.out; omega⟩, ⟨by exact bz_ BK539.out⟩, ⟨bw1_ HB.out GE539.out⟩⟩
    rw [if_neg c8] at H
    have c8b0 : decide (x3_1 < a0_0) = false := decide_eq_false c8
    clear c8
    (first | rw [c8b0] | (simp only [i64_w, i32_w]; rw [c8b0]) | skip)
    obtain rfl := Option.some.inj H
    obtain ⟨hcz53_0, hcz53_1, hcz53_2, hcz53_3, hfz53_0, hfz53_1, hfz53_2, hfz53_3⟩ := bf4_ BK539.out
    go_wp2
    go_ret
    exact ⟨an_, bw1_ HB.out GE539.out⟩
 replace c7 := Bool.eq_false_iff.mpr c7
 subst c7
 have H1 : (some false) = some r := by rw [if_neg (show ¬ (false = true) by decide)] at H; exact H
 clear H
 have H := H1
 clear H1
 obtain rfl := Option.some.inj H
 go_wp2
 go_ret
 exact ⟨an_, bw1_ HB.out GE539.out⟩

end Go.Proofs.Ytcdmnofomoadlaa.P
