-- Printed by this session's own program (wip/tools/mkprint.py) out of the translation. Not trusted: Lean checks it.
import Derived.Test.YtcdmnofomoadlaaM1
import Derived.Test.YtcdmnofomoadlaaPf72
/-! short words -/
namespace Go.Proofs.Ytcdmnofomoadlaa.P
open Go.RowKit Go.Proofs.YtcdmnofomoadlaaW.PrintWords Go.Proofs.YtcdmnofomoadlaaW.PrintLast Go.Proofs.YtcdmnofomoadlaaW.PrintMore
attribute [local go_sem] max2_int min2_int max_two min_two max_three min_three max_four min_four   -- for this text's walks alone
set_option linter.unusedVariables false
set_option linter.unusedSimpArgs false

/-! ### impl_MeetGrades: function 36 -/
mutual
def impl_MeetGrades.l0 : Nat → Int → Int → Int → Int → List Int → List Int → List Bool → Option (Int)
 | 0, _, _, _, _, _, _, _ => none
 | k + 1, x1, x2, x7, x782000, x782001, x782002, x782003 => if x7 < x782000 then ((impl_System_below.f x782000 x782001 x782002 x782003 x7 x1).bind fun t783 => (if t783 = true then ((impl_System_below.f x782000 x782001 x782002 x782003 x7 x2).bind fun t784 => (impl_MeetGrades.j1 k x1 x2 x7 (!t784) x782000 x782001 x782002 x782003)) else (impl_MeetGrades.j1 k x1 x2 x7 true x782000 x782001 x782002 x782003))) else (some (-1))
def impl_MeetGrades.j1 : Nat → Int → Int → Int → Bool → Int → List Int → List Int → List Bool → Option (Int)
 | 0, _, _, _, _, _, _, _, _ => none
 | k + 1, x1, x2, x7, x32, x782000, x782001, x782002, x782003 => if x32 = true then (impl_MeetGrades.l0 k x1 x2 (wrap64 (x7 + 1)) x782000 x782001 x782002 x782003) else (impl_MeetGrades.l1 k x1 x2 x7 true 0 x782000 x782001 x782002 x782003)
def impl_MeetGrades.l1 : Nat → Int → Int → Int → Bool → Int → Int → List Int → List Int → List Bool → Option (Int)
 | 0, _, _, _, _, _, _, _, _, _ => none
 | k + 1, x1, x2, x7, x8, x9, x782000, x782001, x782002, x782003 => if x9 < x782000 then (if x8 = true then ((impl_System_below.f x782000 x782001 x782002 x782003 x9 x1).bind fun t785 => (if t785 = true then ((impl_System_below.f x782000 x782001 x782002 x782003 x9 x2).bind fun t786 => (if t786 = true then ((impl_System_below.f x782000 x782001 x782002 x782003 x9 x7).bind fun t787 => (impl_MeetGrades.l1 k x1 x2 x7 t787 (wrap64 (x9 + 1)) x782000 x782001 x782002 x782003)) else (impl_MeetGrades.l1 k x1 x2 x7 true (wrap64 (x9 + 1)) x782000 x782001 x782002 x782003))) else (impl_MeetGrades.l1 k x1 x2 x7 true (wrap64 (x9 + 1)) x782000 x782001 x782002 x782003))) else (impl_MeetGrades.l1 k x1 x2 x7 false (wrap64 (x9 + 1)) x782000 x782001 x782002 x782003)) else (if x8 = true then (some x7) else (impl_MeetGrades.l0 k x1 x2 (wrap64 (x7 + 1)) x782000 x782001 x782002 x782003))
end
def impl_MeetGrades.f (k : Nat) (a0_0 : Int) (l0_1 : List Int) (l0_2 : List Int) (l0_3 : List Bool) (a1 : Int) (a2 : Int) : Option (Int) := (impl_both.f k a0_0 l0_1 l0_2 l0_3 a1 a2).bind fun t782 => (if t782 = true then (impl_MeetGrades.l0 k a1 a2 0 a0_0 l0_1 l0_2 l0_3) else (some (-1)))
set_option maxHeartbeats 8000000 in
set_option maxRecDepth 100000 in
theorem impl_MeetGrades.calls (k : Nat) (a0_0 : Int) (A0_1 : Option Addr) (c0_1 : Nat) (l0_1 : List Int) (A0_2 : Option Addr) (c0_2 : Nat) (l0_2 : List Int) (A0_3 : Option Addr) (c0_3 : Nat) (l0_3 : List Bool) (a1 : Int) (a2 : Int) (r : Int) (w : World) (hr0_1 : Kd.C (Kd.int .i64) w A0_1 l0_1.length l0_1) (hc0_1 : l0_1.length ≤ c0_1) (hr0_2 : Kd.C (Kd.int .i64) w A0_2 l0_2.length l0_2) (hc0_2 : l0_2.length ≤ c0_2) (hr0_3 : Kd.C Kd.bool w A0_3 l0_3.length l0_3) (hc0_3 : l0_3.length ≤ c0_3) (h : impl_MeetGrades.f k a0_0 l0_1 l0_2 l0_3 a1 a2 = some r) :
  Calls Try.prog 36 #[.agg #[.int .i64 a0_0, .slice A0_1 l0_1.length c0_1, .slice A0_2 l0_2.length c0_2, .slice A0_3 l0_3.length c0_3], .int .i64 a1, .int .i64 a2] w fun e w' => e = .returned (.int .i64 r) ∧ Below w.heap.size w w' := by
 have hu27 := Try.underlying27
 have HR0_1 := sd_ hr0_1
 have HC0_1 := sd_ hc0_1
 clear hr0_1 hc0_1
 have HR0_2 := sd_ hr0_2
 have HC0_2 := sd_ hc0_2
 clear hr0_2 hc0_2
 have HR0_3 := sd_ hr0_3
 have HC0_3 := sd_ hc0_3
 clear hr0_3 hc0_3
 have HB := sd_ (Below.refl w.heap.size w)
 have H : ((impl_both.f k a0_0 l0_1 l0_2 l0_3 a1 a2).bind fun t782 => (if t782 = true then (impl_MeetGrades.l0 k a1 a2 0 a0_0 l0_1 l0_2 l0_3) else (some (-1)))) = some r := h
 clear h
 replace H := Option.bind_eq_some_iff.mp H
 obtain ⟨t782, A40, H⟩ := H
 try dsimp only at H
 have A4 := sd_ A40
 clear A40
 have HP5 := sd_ H
 clear H
 go_enter Try.func36, Try.ntmps36
 go_upto_if 14 with (first | ((with_reducible refine gate_dst (N := 3) rfl ?_); refine bx_ (N := 3) (cs := #[.int .i64 a0_0, .slice A0_1 l0_1.length c0_1, .slice A0_2 l0_2.length c0_2, .slice A0_3 l0_3.length c0_3]) (t := 27) ?_; intro gb781 hg w6 hbox hb; have BK781 := sd_ (hbox); have GW781 := sd_ (gs_ hg (bw0_ HB.out)); have GE781 := sd_ (gs_ hg (bw0_ HB.out)); replace HB := sd_ (below_step (bw0_ HB.out) hb); clear hb hbox hg; obtain ⟨hcz7_0, hcz7_1, hcz7_2, hcz7_3, hfz7_0, hfz7_1, hfz7_2, hfz7_3⟩ := bf4_ BK781.out) | ((with_reducible refine gate_callee (f := 72) rfl ?_); refine goesL_ (some 13) rfl rfl Try.func72 (by kernel_rfl) rfl #[.agg #[.int .i64 a0_0, .slice A0_1 l0_1.length c0_1, .slice A0_2 l0_2.length c0_2, .slice A0_3 l0_3.length c0_3], .int .i64 a1, .int .i64 a2] rfl la_ ?_; (with_reducible refine (impl_both.calls k a0_0 _ _ l0_1 _ _ l0_2 _ _ l0_3 a1 a2 t782 _ (kc_ HR0_1.out HB.out) HC0_1.out (kc_ HR0_2.out HB.out) HC0_2.out (kc_ HR0_3.out HB.out) HC0_3.out A4.out).mono ?_); rintro e w8 ⟨rfl, hb⟩; refine ⟨_, rfl, ?_⟩; replace BK781 := sd_ (bb_ BK781.out hb); replace HB := sd_ (below_step (bw1_ HB.out GE781.out) hb); (try clear hb)))
 have H := HP5.out
 clear HP5
 by_cases c9 : t782 = true
 ·subst c9
  have H1 : (impl_MeetGrades.l0 k a1 a2 0 a0_0 l0_1 l0_2 l0_3) = some r := by rw [if_pos rfl] at H; exact H
  clear H
  have H := H1
  clear H1
  have H' := sd_ H
  clear H
  go_wp2
  go_loopg [7] k (fun kq v7 w' => ∃ (x7_1 : Int), v7 = .int .i64 x7_1 ∧ Aside0 (impl_MeetGrades.l0 kq a1 a2 x7_1 a0_0 l0_1 l0_2 l0_3 = some r) ∧ Aside0 (kq ≤ k) ∧ Aside0 (w'.heap[gb781]? = some (.cells #[.int .i64 a0_0, (.slice A0_1 l0_1.length c0_1), (.slice A0_2 l0_2.length c0_2), (.slice A0_3 l0_3.length c0_3)] 27 (0, 0))) ∧ Aside0 (Below w.heap.size w w'))
  case atStart => exact ⟨(0), sm_, H', ⟨Nat.le_refl _⟩, ⟨by exact bz_ BK781.out⟩, ⟨bw1_ HB.out GE781.out⟩⟩
  case round =>
   clear H'
   try clear p2
   try clear c3
   try clear c7
   try clear c9
   try clear hcz7_0
   try clear hcz7_1
   try clear hcz7_2
   try clear hcz7_3
   try clear hfz7_0
   try clear hfz7_1
   try clear hfz7_2
   try clear hfz7_3
   obtain ⟨x7_1, rfl, HA, HK1, BK781, HB⟩ := hrel
   cases gk with
   | zero => exact absurd HA.out (by simp [impl_MeetGrades.l0])
   | succ k1 =>
    have H := HA.out
    clear HA
    simp only [impl_MeetGrades.l0] at H
    by_cases c10 : x7_1 < a0_0
    ·rw [if_pos c10] at H
     have c10b0 : decide (x7_1 < a0_0) = true := decide_eq_true c10
     clear c10
     (first | rw [c10b0] | (simp only [i64_w, i32_w]; rw [c10b0]) | skip)
     have HC11 := sd_ H
     clear H
     obtain ⟨hcz12_0, hcz12_1, hcz12_2, hcz12_3, hfz12_0, hfz12_1, hfz12_2, hfz12_3⟩ := bf4_ BK781.out
     go_upto_region 6 with (fail)
     go_cut [32] (fun v32 wc => ∃ (kq : Nat) (x32_10 : Bool), v32 = .bool x32_10 ∧ Aside0 (impl_MeetGrades.j1 kq a1 a2 x7_1 x32_10 a0_0 l0_1 l0_2 l0_3 = some r) ∧ Aside0 (kq ≤ k1) ∧ Aside0 (wc.heap[gb781]? = some (.cells #[.int .i64 a0_0, (.slice A0_1 l0_1.length c0_1), (.slice A0_2 l0_2.length c0_2), (.slice A0_3 l0_3.length c0_3)] 27 (0, 0))) ∧ Aside0 (Below w.heap.size w wc))
     case first =>
      have H := HC11.out
      clear HC11
      replace H := Option.bind_eq_some_iff.mp H
      obtain ⟨t783, A130, H⟩ := H
      try dsimp only at H
      have A13 := sd_ A130
      clear A130
      by_cases c14 : t783 = true
      ·subst c14
       have H1 : ((impl_System_below.f a0_0 l0_1 l0_2 l0_3 x7_1 a2).bind fun t784 => (impl_MeetGrades.j1 k1 a1 a2 x7_1 (!t784) a0_0 l0_1 l0_2 l0_3)) = some r := by rw [if_pos rfl] at H; exact H
       clear H
       have H := H1
       clear H1
       replace H := Option.bind_eq_some_iff.mp H
       obtain ⟨t784, A150, H⟩ := H
       try dsimp only at H
       have A15 := sd_ A150
       clear A150
       have H' := sd_ H
       clear H
       obtain ⟨hcz16_0, hcz16_1, hcz16_2, hcz16_3, hfz16_0, hfz16_1, hfz16_2, hfz16_3⟩ := bf4_ BK781.out
       go_wp2_with (first | ((with_reducible refine gate_callee (f := 71) rfl ?_); refine goesL_ (some 24) rfl rfl Try.func71 (by kernel_rfl) rfl #[.agg #[.int .i64 a0_0, .slice A0_1 l0_1.length c0_1, .slice A0_2 l0_2.length c0_2, .slice A0_3 l0_3.length c0_3], .int .i64 x7_1, .int .i64 a1] rfl la_ ?_; (with_reducible refine (impl_System_below.calls a0_0 _ _ l0_1 _ _ l0_2 _ _ l0_3 x7_1 a1 true _ (kc_ HR0_1.out HB.out) HC0_1.out (kc_ HR0_2.out HB.out) HC0_2.out (kc_ HR0_3.out HB.out) HC0_3.out A13.out).mono ?_); rintro e w17 ⟨rfl, hb⟩; refine ⟨_, rfl, ?_⟩; replace BK781 := sd_ (bb_ BK781.out hb); replace HB := sd_ (below_step (bw1_ HB.out GE781.out) hb); (try clear hb); obtain ⟨hcz18_0, hcz18_1, hcz18_2, hcz18_3, hfz18_0, hfz18_1, hfz18_2, hfz18_3⟩ := bf4_ BK781.out) | (go_at_call 71; (with_reducible refine (impl_System_below.calls a0_0 _ _ l0_1 _ _ l0_2 _ _ l0_3 x7_1 a2 t784 _ (kc_ HR0_1.out HB.out) HC0_1.out (kc_ HR0_2.out HB.out) HC0_2.out (kc_ HR0_3.out HB.out) HC0_3.out A15.out).mono ?_); rintro e w19 ⟨rfl, hb⟩; replace BK781 := sd_ (bb_ BK781.out hb); replace HB := sd_ (below_step (bw1_ HB.out GE781.out) hb); (try clear hb)))
       go_meet
       case rel => exact ⟨_, (!t784), sm_, H', ⟨by have := HK1.out; first | omega | exact Nat.le_refl _⟩, ⟨by exact bz_ BK781.out⟩, ⟨bw1_ HB.out GE781.out⟩⟩
      replace c14 := Bool.eq_false_iff.mpr c14
      subst c14
      have H1 : (impl_MeetGrades.j1 k1 a1 a2 x7_1 true a0_0 l0_1 l0_2 l0_3) = some r := by rw [if_neg (show ¬ (false = true) by decide)] at H; exact H
      clear H
      have H := H1
      clear H1
      have H' := sd_ H
      clear H
      obtain ⟨hcz20_0, hcz20_1, hcz20_2, hcz20_3, hfz20_0, hfz20_1, hfz20_2, hfz20_3⟩ := bf4_ BK781.out
      go_wp2_with (first | ((with_reducible refine gate_callee (f := 71) rfl ?_); refine goesL_ (some 24) rfl rfl Try.func71 (by kernel_rfl) rfl #[.agg #[.int .i64 a0_0, .slice A0_1 l0_1.length c0_1, .slice A0_2 l0_2.length c0_2, .slice A0_3 l0_3.length c0_3], .int .i64 x7_1, .int .i64 a1] rfl la_ ?_; (with_reducible refine (impl_System_below.calls a0_0 _ _ l0_1 _ _ l0_2 _ _ l0_3 x7_1 a1 false _ (kc_ HR0_1.out HB.out) HC0_1.out (kc_ HR0_2.out HB.out) HC0_2.out (kc_ HR0_3.out HB.out) HC0_3.out A13.out).mono ?_); rintro e w21 ⟨rfl, hb⟩; refine ⟨_, rfl, ?_⟩; replace BK781 := sd_ (bb_ BK781.out hb); replace HB := sd_ (below_step (bw1_ HB.out GE781.out) hb); (try clear hb)))
      go_meet
      case rel => exact ⟨_, (true), sm_, H', ⟨by have := HK1.out; first | omega | exact Nat.le_refl _⟩, ⟨by exact bz_ BK781.out⟩, ⟨bw1_ HB.out GE781.out⟩⟩
     case rest =>
      clear HC11
      try clear c1
      try clear p2
      try clear c3
      try clear c7
      try clear c9
      try clear c10
      try clear c10b0
      try clear hcz12_0
      try clear hcz12_1
      try clear hcz12_2
      try clear hcz12_3
      try clear hcz7_0
      try clear hcz7_1
      try clear hcz7_2
      try clear hcz7_3
      try clear hfz12_0
      try clear hfz12_1
      try clear hfz12_2
      try clear hfz12_3
      try clear hfz7_0
      try clear hfz7_1
      try clear hfz7_2
      try clear hfz7_3
      try clear p2
      obtain ⟨kq, x32_10, rfl, HA, HJ10, BK781, HB⟩ := hcut
      cases kq with
      | zero => exact absurd HA.out (by simp [impl_MeetGrades.j1])
      | succ kj10 =>
       have H := HA.out
       clear HA
       simp only [impl_MeetGrades.j1] at H
       by_cases c22 : x32_10 = true
       ·subst c22
        have H1 : (impl_MeetGrades.l0 kj10 a1 a2 (wrap64 (x7_1 + 1)) a0_0 l0_1 l0_2 l0_3) = some r := by rw [if_pos rfl] at H; exact H
        clear H
        have H := H1
        clear H1
        have H' := sd_ H
        clear H
        go_wp2
        go_roundg kj10
        case measure => have := HK1.out; have := HJ10.out; omega
        case rel => exact ⟨(wrap64 (x7_1 + 1)), sm_, H', ⟨by have := HK1.out; have := HJ10.out; omega⟩, ⟨by exact bz_ BK781.out⟩, ⟨bw1_ HB.out GE781.out⟩⟩
       replace c22 := Bool.eq_false_iff.mpr c22
       subst c22
       have H1 : (impl_MeetGrades.l1 kj10 a1 a2 x7_1 true 0 a0_0 l0_1 l0_2 l0_3) = some r := by rw [if_neg (show ¬ (false = true) by decide)] at H; exact H
       clear H
       have H := H1
       clear H1
       have H' := sd_ H
       clear H
       go_wp2
       go_loopg [8, 9] kj10 (fun kq v8 v9 w' => ∃ (x8_3 : Bool) (x9_3 : Int), v8 = .bool x8_3 ∧ v9 = .int .i64 x9_3 ∧ Aside0 (impl_MeetGrades.l1 kq a1 a2 x7_1 x8_3 x9_3 a0_0 l0_1 l0_2 l0_3 = some r) ∧ Aside0 (kq ≤ kj10) ∧ Aside0 (w'.heap[gb781]? = some (.cells #[.int .i64 a0_0, (.slice A0_1 l0_1.length c0_1), (.slice A0_2 l0_2.length c0_2), (.slice A0_3 l0_3.length c0_3)] 27 (0, 0))) ∧ Aside0 (Below w.heap.size w w'))
       case atStart => exact ⟨(true), (0), sm_, sm_, H', ⟨Nat.le_refl _⟩, ⟨by exact bz_ BK781.out⟩, ⟨bw1_ HB.out GE781.out⟩⟩
       case round =>
        clear H'
        try clear c1
        try clear c2
        try clear p2
        try clear c3
        try clear c7
        try clear c9
        try clear c10
        try clear c10b0
        try clear c22
        try clear hcz12_0
        try clear hcz12_1
        try clear hcz12_2
        try clear hcz12_3
        try clear hcz7_0
        try clear hcz7_1
        try clear hcz7_2
        try clear hcz7_3
        try clear hfz12_0
        try clear hfz12_1
        try clear hfz12_2
        try clear hfz12_3
        try clear hfz7_0
        try clear hfz7_1
        try clear hfz7_2
        try clear hfz7_3
        try clear p2
        obtain ⟨x8_3, x9_3, rfl, rfl, HA, HK3, BK781, HB⟩ := hrel
        cases gk with
        | zero => exact absurd HA.out (by simp [impl_MeetGrades.l1])
        | succ k3 =>
         have H := HA.out
         clear HA
         simp only [impl_MeetGrades.l1] at H
         by_cases c23 : x9_3 < a0_0
         ·rw [if_pos c23] at H
          have c23b0 : decide (x9_3 < a0_0) = true := decide_eq_true c23
          clear c23
          by_cases c24 : x8_3 = true
          ·subst c24
           have H1 : ((impl_System_below.f a0_0 l0_1 l0_2 l0_3 x9_3 a1).bind fun t785 => (if t785 = true then ((impl_System_below.f a0_0 l0_1 l0_2 l0_3 x9_3 a2).bind fun t786 => (if t786 = true then ((impl_System_below.f a0_0 l0_1 l0_2 l0_3 x9_3 x7_1).bind fun t787 => (impl_MeetGrades.l1 k3 a1 a2 x7_1 t787 (wrap64 (x9_3 + 1)) a0_0 l0_1 l0_2 l0_3)) else (impl_MeetGrades.l1 k3 a1 a2 x7_1 true (wrap64 (x9_3 + 1)) a0_0 l0_1 l0_2 l0_3))) else (impl_MeetGrades.l1 k3 a1 a2 x7_1 true (wrap64 (x9_3 + 1)) a0_0 l0_1 l0_2 l0_3))) = some r := by rw [if_pos rfl] at H; exact H
           clear H
           have H := H1
           clear H1
           replace H := Option.bind_eq_some_iff.mp H
           obtain ⟨t785, A250, H⟩ := H
           try dsimp only at H
           have A25 := sd_ A250
           clear A250
           by_cases c26 : t785 = true
           ·subst c26
            have H1 : ((impl_System_below.f a0_0 l0_1 l0_2 l0_3 x9_3 a2).bind fun t786 => (if t786 = true then ((impl_System_below.f a0_0 l0_1 l0_2 l0_3 x9_3 x7_1).bind fun t787 => (impl_MeetGrades.l1 k3 a1 a2 x7_1 t787 (wrap64 (x9_3 + 1)) a0_0 l0_1 l0_2 l0_3)) else (impl_MeetGrades.l1 k3 a1 a2 x7_1 true (wrap64 (x9_3 + 1)) a0_0 l0_1 l0_2 l0_3))) = some r := by rw [if_pos rfl] at H; exact H
            clear H
            have H := H1
            clear H1
            replace H := Option.bind_eq_some_iff.mp H
            obtain ⟨t786, A270, H⟩ := H
            try dsimp only at H
            have A27 := sd_ A270
            clear A270
            by_cases c28 : t786 = true
            ·subst c28
             have H1 : ((impl_System_below.f a0_0 l0_1 l0_2 l0_3 x9_3 x7_1).bind fun t787 => (impl_MeetGrades.l1 k3 a1 a2 x7_1 t787 (wrap64 (x9_3 + 1)) a0_0 l0_1 l0_2 l0_3)) = some r := by rw [if_pos rfl] at H; exact H
             clear H
             have H := H1
             clear H1
             replace H := Option.bind_eq_some_iff.mp H
             obtain ⟨t787, A290, H⟩ := H
             try dsimp only at H
             have A29 := sd_ A290
             clear A290
             have H' := sd_ H
             clear H
             obtain ⟨hcz30_0, hcz30_1, hcz30_2, hcz30_3, hfz30_0, hfz30_1, hfz30_2, hfz30_3⟩ := bf4_ BK781.out
             go_wp2_with (first | (go_at_call 71; (with_reducible refine (impl_System_below.calls a0_0 _ _ l0_1 _ _ l0_2 _ _ l0_3 x9_3 a1 true _ (kc_ HR0_1.out HB.out) HC0_1.out (kc_ HR0_2.out HB.out) HC0_2.out (kc_ HR0_3.out HB.out) HC0_3.out A25.out).mono ?_); rintro e w31 ⟨rfl, hb⟩; replace BK781 := sd_ (bb_ BK781.out hb); replace HB := sd_ (below_step (bw1_ HB.out GE781.out) hb); (try clear hb); obtain ⟨hcz32_0, hcz32_1, hcz32_2, hcz32_3, hfz32_0, hfz32_1, hfz32_2, hfz32_3⟩ := bf4_ BK781.out) | (go_at_call 71; (with_reducible refine (impl_System_below.calls a0_0 _ _ l0_1 _ _ l0_2 _ _ l0_3 x9_3 a2 true _ (kc_ HR0_1.out HB.out) HC0_1.out (kc_ HR0_2.out HB.out) HC0_2.out (kc_ HR0_3.out HB.out) HC0_3.out A27.out).mono ?_); rintro e w33 ⟨rfl, hb⟩; replace BK781 := sd_ (bb_ BK781.out hb); replace HB := sd_ (below_step (bw1_ HB.out GE781.out) hb); (try clear hb); obtain ⟨hcz34_0, hcz34_1, hcz34_2, hcz34_3, hfz34_0, hfz34_1, hfz34_2, hfz34_3⟩ := bf4_ BK781.out) | (go_at_call 71; (with_reducible refine (impl_System_below.calls a0_0 _ _ l0_1 _ _ l0_2 _ _ l0_3 x9_3 x7_1 t787 _ (kc_ HR0_1.out HB.out) HC0_1.out (kc_ HR0_2.out HB.out) HC0_2.out (kc_ HR0_3.out HB.out) HC0_3.out A29.out).mono ?_); rintro e w35 ⟨rfl, hb⟩; replace BK781 := sd_ (bb_ BK781.out hb); replace HB := sd_ (below_step (bw1_ HB.out GE781.out) hb); (try clear hb)))
             go_roundg k3
             case measure => have := HK1.out; have := HJ10.out; have := HK3.out; omega
             case rel => exact ⟨(t787), (wrap64 (x9_3 + 1)), sm_, sm_, H', ⟨by have := HK1.out; have := HJ10.out; have := HK3.out; omega⟩, ⟨by exact bz_ BK781.out⟩, ⟨bw1_ HB.out GE781.out⟩⟩
            replace c28 := Bool.eq_false_iff.mpr c28
            subst c28
            have H1 : (impl_MeetGrades.l1 k3 a1 a2 x7_1 true (wrap64 (x9_3 + 1)) a0_0 l0_1 l0_2 l0_3) = some r := by rw [if_neg (show ¬ (false = true) by decide)] at H; exact H
            clear H
            have H := H1
            clear H1
            have H' := sd_ H
            clear H
            obtain ⟨hcz36_0, hcz36_1, hcz36_2, hcz36_3, hfz36_0, hfz36_1, hfz36_2, hfz36_3⟩ := bf4_ BK781.out
            go_wp2_with (first | (go_at_call 71; (with_reducible refine (impl_System_below.calls a0_0 _ _ l0_1 _ _ l0_2 _ _ l0_3 x9_3 a1 true _ (kc_ HR0_1.out HB.out) HC0_1.out (kc_ HR0_2.out HB.out) HC0_2.out (kc_ HR0_3.out HB.out) HC0_3.out A25.out).mono ?_); rintro e w37 ⟨rfl, hb⟩; replace BK781 := sd_ (bb_ BK781.out hb); replace HB := sd_ (below_step (bw1_ HB.out GE781.out) hb); (try clear hb); obtain ⟨hcz38_0, hcz38_1, hcz38_2, hcz38_3, hfz38_0, hfz38_1, hfz38_2, hfz38_3⟩ := bf4_ BK781.out) | (go_at_call 71; (with_reducible refine (impl_System_below.calls a0_0 _ _ l0_1 _ _ l0_2 _ _ l0_3 x9_3 a2 false _ (kc_ HR0_1.out HB.out) HC0_1.out (kc_ HR0_2.out HB.out) HC0_2.out (kc_ HR0_3.out HB.out) HC0_3.out A27.out).mono ?_); rintro e w39 ⟨rfl, hb⟩; replace BK781 := sd_ (bb_ BK781.out hb); replace HB := sd_ (below_step (bw1_ HB.out GE781.out) hb); (try clear hb)))
            go_roundg k3
            case measure => have := HK1.out; have := HJ10.out; have := HK3.out; omega
            case rel => exact ⟨(true), (wrap64 (x9_3 + 1)), sm_, sm_, H', ⟨by have := HK1.out; have := HJ10.out; have := HK3.out; omega⟩, ⟨by exact bz_ BK781.out⟩, ⟨bw1_ HB.out GE781.out⟩⟩
           replace c26 := Bool.eq_false_iff.mpr c26
           subst c26
           have H1 : (impl_MeetGrades.l1 k3 a1 a2 x7_1 true (wrap64 (x9_3 + 1)) a0_0 l0_1 l0_2 l0_3) = some r := by rw [if_neg (show ¬ (false = true) by decide)] at H; exact H
           clear H
           have H := H1
           clear H1
           have H' := sd_ H
           clear H
           obtain ⟨hcz40_0, hcz40_1, hcz40_2, hcz40_3, hfz40_0, hfz40_1, hfz40_2, hfz40_3⟩ := bf4_ BK781.out
           go_wp2_with (first | (go_at_call 71; (with_reducible refine (impl_System_below.calls a0_0 _ _ l0_1 _ _ l0_2 _ _ l0_3 x9_3 a1 false _ (kc_ HR0_1.out HB.out) HC0_1.out (kc_ HR0_2.out HB.out) HC0_2.out (kc_ HR0_3.out HB.out) HC0_3.out A25.out).mono ?_); rintro e w41 ⟨rfl, hb⟩; replace BK781 := sd_ (bb_ BK781.out hb); replace HB := sd_ (below_step (bw1_ HB.out GE781.out) hb); (try clear hb)))
           go_roundg k3
           case measure => have := HK1.out; have := HJ10.out; have := HK3.out; omega
           case rel => exact ⟨(true), (wrap64 (x9_3 + 1)), sm_, sm_, H', ⟨by have := HK1.out; have := HJ10.out; have := HK3.out; omega⟩, ⟨by exact bz_ BK781.out⟩, ⟨bw1_ HB.out GE781.out⟩⟩
          replace c24 := Bool.eq_false_iff.mpr c24
          subst c24
          have H1 : (impl_MeetGrades.l1 k3 a1 a2 x7_1 false (wrap64 (x9_3 + 1)) a0_0 l0_1 l0_2 l0_3) = some r := by rw [if_neg (show ¬ (false = true) by decide)] at H; exact H
          clear H
          have H := H1
          clear H1
          have H' := sd_ H
          clear H
          obtain ⟨hcz42_0, hcz42_1, hcz42_2, hcz42_3, hfz42_0, hfz42_1, hfz42_2, hfz42_3⟩ := bf4_ BK781.out
          go_wp2
          go_roundg k3
          case measure => have := HK1.out; have := HJ10.out; have := HK3.out; omega
          case rel => exact ⟨(false), (wrap64 (x9_3 + 1)), sm_, sm_, H', ⟨by have := HK1.out; have := HJ10.out; have := HK3.out; omega⟩, ⟨by exact bz_ BK781.out⟩, ⟨bw1_ HB.out GE781.out⟩⟩
         rw [if_neg c23] at H
         have c23b0 : decide (x9_3 < a0_0) = false := decide_eq_false c23
         clear c23
         by_cases c43 : x8_3 = true
         ·subst c43
          have H1 : (some x7_1) = some r := by rw [if_pos rfl] at H; exact H
          clear H
          have H := H1
          clear H1
          obtain rfl := Option.some.inj H
          obtain ⟨hcz44_0, hcz44_1, hcz44_2, hcz44_3, hfz44_0, hfz44_1, hfz44_2, hfz44_3⟩ := bf4_ BK781.out
          go_wp2
          go_ret
          exact ⟨an_, bw1_ HB.out GE781.out⟩
         replace c43 := Bool.eq_false_iff.mpr c43
         subst c43
         have H1 : (impl_MeetGrades.l0 k3 a1 a2 (wrap64 (x7_1 + 1)) a0_0 l0_1 l0_2 l0_3) = some r := by rw [if_neg (show ¬ (false = true) by decide)] at H; exact H
         clear H
         have H := H1
         clear H1
         have H' := sd_ H
         clear H
         obtain ⟨hcz45_0, hcz45_1, hcz45_2, hcz45_3, hfz45_0, hfz45_1, hfz45_2, hfz45_3⟩ := bf4_ BK781.out
         go_wp2
         go_roundg k3
         case measure => have := HK1.out; have := HJ10.out; have := HK3.out; omega
         case rel => exact ⟨(wrap64 (x7_1 + 1)), sm_, H', ⟨by have := HK1.out; have := HJ10.out; have := HK3.out; omega⟩, ⟨by exact bz_ BK781.out⟩, ⟨bw1_ HB.out GE781.out⟩⟩
    rw [if_neg c10] at H
    have c10b0 : decide (x7_1 < a0_0) = false := decide_eq_false c10
    clear c10
    (first | rw [c10b0] | (simp only [i64_w, i32_w]; rw [c10b0]) | skip)
    obtain rfl := Option.some.inj H
    obtain ⟨hcz46_0, hcz46_1, hcz46_2, hcz46_3, hfz46_0, hfz46_1, hfz46_2, hfz46_3⟩ := bf4_ BK781.out
    go_wp2
    go_ret
    exact ⟨an_, bw1_ HB.out GE781.out⟩
 replace c9 := Bool.eq_false_iff.mpr c9
 subst c9
 have H1 : (some (-1)) = some r := by rw [if_neg (show ¬ (false = true) by decide)] at H; exact H
 clear H
 have H := H1
 clear H1
 obtain rfl := Option.some.inj H
 go_wp2
 go_ret
 exact ⟨an_, bw1_ HB.out GE781.out⟩

end Go.Proofs.Ytcdmnofomoadlaa.P
