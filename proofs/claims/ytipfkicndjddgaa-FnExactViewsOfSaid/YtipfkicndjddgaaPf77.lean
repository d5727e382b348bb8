-- Printed by this session's own program (wip/tools/mkprint.py) out of the translation. Not trusted: Lean checks it.
import Derived.Test.YtipfkicndjddgaaP0
import Derived.Test.YtipfkicndjddgaaM2
import Derived.Test.YtipfkicndjddgaaM3
import Derived.Test.YtipfkicndjddgaaPf106
import Derived.Test.YtipfkicndjddgaaPf107
import Derived.Test.YtipfkicndjddgaaM5
/-! short words -/
namespace Go.Proofs.Ytipfkicndjddgaa.P
open Go.RowKit Go.Proofs.YtipfkicndjddgaaW.PrintWords Go.Proofs.YtipfkicndjddgaaW.PrintLast Go.Proofs.YtipfkicndjddgaaW.PrintMore
attribute [local go_sem] max2_int min2_int max_two min_two max_three min_three max_four min_four   -- for this text's walks alone
set_option linter.unusedVariables false
set_option linter.unusedSimpArgs false

/-! ### impl_IsSystem: function 77 -/
mutual
def impl_IsSystem.j0 : Nat → Int → Bool → Int → List Int → List Int → List Bool → Option (Bool)
 | 0, _, _, _, _, _, _ => none
 | k + 1, x3, x39, x311000, x311001, x311002, x311003 => if x39 = true then (some false) else (impl_IsSystem.l0 k x3 (x311001.length : Int) 0 x311000 x311001 x311002 x311003)
def impl_IsSystem.l0 : Nat → Int → Int → Int → Int → List Int → List Int → List Bool → Option (Bool)
 | 0, _, _, _, _, _, _, _ => none
 | k + 1, x3, x42, x43, x311000, x311001, x311002, x311003 => if x43 < x42 then (if 0 ≤ x43 then (if x43 < (x311001.length : Int) then ((impl_System_has.f x311000 x311001 x311002 x311003 (rd x311001 x43)).bind fun t313 => (if t313 = true then (if x43 < (x311002.length : Int) then ((impl_System_has.f x311000 x311001 x311002 x311003 (rd x311002 x43)).bind fun t315 => (if t315 = true then (impl_IsSystem.l0 k x3 x42 (wrap64 (x43 + 1)) x311000 x311001 x311002 x311003) else (some false))) else (none)) else (some false))) else (none)) else (none)) else (impl_IsSystem.l1 k x3 0 x311000 x311001 x311002 x311003)
def impl_IsSystem.l1 : Nat → Int → Int → Int → List Int → List Int → List Bool → Option (Bool)
 | 0, _, _, _, _, _, _ => none
 | k + 1, x3, x5, x311000, x311001, x311002, x311003 => if x5 < x3 then ((impl_System_plus.f x311000 x311001 x311002 x311003 0 x5).bind fun t316 => (if t316 = x5 then ((impl_System_times.f x311000 x311001 x311002 x311003 1 x5).bind fun t317 => (if t317 = x5 then ((impl_System_times.f x311000 x311001 x311002 x311003 x5 1).bind fun t318 => (if t318 = x5 then ((impl_System_times.f x311000 x311001 x311002 x311003 0 x5).bind fun t319 => (if t319 = 0 then ((impl_System_times.f x311000 x311001 x311002 x311003 x5 0).bind fun t320 => (if t320 = 0 then ((impl_System_below.f x311000 x311001 x311002 x311003 x5 x5).bind fun t321 => (impl_IsSystem.j3 k x3 x5 (!t321) x311000 x311001 x311002 x311003)) else (impl_IsSystem.j3 k x3 x5 true x311000 x311001 x311002 x311003))) else (impl_IsSystem.j3 k x3 x5 true x311000 x311001 x311002 x311003))) else (impl_IsSystem.j3 k x3 x5 true x311000 x311001 x311002 x311003))) else (impl_IsSystem.j3 k x3 x5 true x311000 x311001 x311002 x311003))) else (impl_IsSystem.j3 k x3 x5 true x311000 x311001 x311002 x311003))) else (some true)
def impl_IsSystem.j3 : Nat → Int → Int → Bool → Int → List Int → List Int → List Bool → Option (Bool)
 | 0, _, _, _, _, _, _, _ => none
 | k + 1, x3, x5, x107, x311000, x311001, x311002, x311003 => if x107 = true then (some false) else (impl_IsSystem.l2 k x3 x5 0 x311000 x311001 x311002 x311003)
def impl_IsSystem.l2 : Nat → Int → Int → Int → Int → List Int → List Int → List Bool → Option (Bool)
 | 0, _, _, _, _, _, _, _ => none
 | k + 1, x3, x5, x6, x311000, x311001, x311002, x311003 => if x6 < x3 then ((impl_System_plus.f x311000 x311001 x311002 x311003 x5 x6).bind fun t322 => ((impl_System_plus.f x311000 x311001 x311002 x311003 x6 x5).bind fun t323 => (if t322 = t323 then (if x5 = x6 then ((impl_System_join.f k x311000 x311001 x311002 x311003 x5 x6).bind fun t324 => (impl_IsSystem.j5 k x3 x5 x6 (decide (t324 < 0)) x311000 x311001 x311002 x311003)) else ((impl_System_below.f x311000 x311001 x311002 x311003 x5 x6).bind fun t325 => (if t325 = true then ((impl_System_below.f x311000 x311001 x311002 x311003 x6 x5).bind fun t326 => (if t326 = true then (impl_IsSystem.j5 k x3 x5 x6 true x311000 x311001 x311002 x311003) else ((impl_System_join.f k x311000 x311001 x311002 x311003 x5 x6).bind fun t327 => (impl_IsSystem.j5 k x3 x5 x6 (decide (t327 < 0)) x311000 x311001 x311002 x311003)))) else ((impl_System_join.f k x311000 x311001 x311002 x311003 x5 x6).bind fun t328 => (impl_IsSystem.j5 k x3 x5 x6 (decide (t328 < 0)) x311000 x311001 x311002 x311003))))) else (impl_IsSystem.j5 k x3 x5 x6 true x311000 x311001 x311002 x311003)))) else (impl_IsSystem.l1 k x3 (wrap64 (x5 + 1)) x311000 x311001 x311002 x311003)
def impl_IsSystem.j5 : Nat → Int → Int → Int → Bool → Int → List Int → List Int → List Bool → Option (Bool)
 | 0, _, _, _, _, _, _, _, _ => none
 | k + 1, x3, x5, x6, x145, x311000, x311001, x311002, x311003 => if x145 = true then (some false) else (impl_IsSystem.l3 k x3 x5 x6 0 x311000 x311001 x311002 x311003)
def impl_IsSystem.l3 : Nat → Int → Int → Int → Int → Int → List Int → List Int → List Bool → Option (Bool)
 | 0, _, _, _, _, _, _, _, _ => none
 | k + 1, x3, x5, x6, x7, x311000, x311001, x311002, x311003 => if x7 < x3 then ((impl_System_lawsOf.f k x311000 x311001 x311002 x311003 x5 x6 x7).bind fun t329 => (if t329 = true then (impl_IsSystem.l3 k x3 x5 x6 (wrap64 (x7 + 1)) x311000 x311001 x311002 x311003) else (some false))) else (impl_IsSystem.l2 k x3 x5 (wrap64 (x6 + 1)) x311000 x311001 x311002 x311003)
end
def impl_IsSystem.f (k : Nat) (a0_0 : Int) (l0_1 : List Int) (l0_2 : List Int) (l0_3 : List Bool) : Option (Bool) := (impl_within.f a0_0 2 16).bind fun t311 => (if t311 = true then (if (l0_1.length : Int) = (wrap64 (a0_0 * a0_0)) then (if (l0_2.length : Int) = (wrap64 (a0_0 * a0_0)) then (impl_IsSystem.j0 k a0_0 ((l0_3.length : Int) != (wrap64 (a0_0 * a0_0))) a0_0 l0_1 l0_2 l0_3) else (impl_IsSystem.j0 k a0_0 true a0_0 l0_1 l0_2 l0_3)) else (impl_IsSystem.j0 k a0_0 true a0_0 l0_1 l0_2 l0_3)) else (impl_IsSystem.j0 k a0_0 true a0_0 l0_1 l0_2 l0_3))
set_option maxHeartbeats 8000000 in
set_option maxRecDepth 100000 in
theorem impl_IsSystem.calls (k : Nat) (a0_0 : Int) (A0_1 : Option Addr) (c0_1 : Nat) (l0_1 : List Int) (A0_2 : Option Addr) (c0_2 : Nat) (l0_2 : List Int) (A0_3 : Option Addr) (c0_3 : Nat) (l0_3 : List Bool) (r : Bool) (w : World) (hr0_1 : Kd.C (Kd.int .i64) w A0_1 l0_1.length l0_1) (hc0_1 : l0_1.length ≤ c0_1) (hr0_2 : Kd.C (Kd.int .i64) w A0_2 l0_2.length l0_2) (hc0_2 : l0_2.length ≤ c0_2) (hr0_3 : Kd.C Kd.bool w A0_3 l0_3.length l0_3) (hc0_3 : l0_3.length ≤ c0_3) (h : impl_IsSystem.f k a0_0 l0_1 l0_2 l0_3 = some r) :
  Calls Try.prog 77 #[.agg #[.int .i64 a0_0, .slice A0_1 l0_1.length c0_1, .slice A0_2 l0_2.length c0_2, .slice A0_3 l0_3.length c0_3]] w fun e w' => e = .returned (.bool r) ∧ Below w.heap.size w w' := by
 have hu27 := Try.underlying27
 have HR0_1 := sd_ hr0_1
 have HC0_1 := sd_ hc0_1
 clear hr0_1 hc0_1
 have HR0_2 := sd_ hr0_2
 have HC0_2 := sd_ hc0_2
 clear hr0_2 hc0_2
 have HR0_3 := sd_ hr0_3
 have HC0_3 := sd_ hc0_3
 clear hr0_3 hc0_3
 have HB := sd_ (Below.refl w.heap.size w)
 have H : ((impl_within.f a0_0 2 16).bind fun t311 => (if t311 = true then (if (l0_1.length : Int) = (wrap64 (a0_0 * a0_0)) then (if (l0_2.length : Int) = (wrap64 (a0_0 * a0_0)) then (impl_IsSystem.j0 k a0_0 ((l0_3.length : Int) != (wrap64 (a0_0 * a0_0))) a0_0 l0_1 l0_2 l0_3) else (impl_IsSystem.j0 k a0_0 true a0_0 l0_1 l0_2 l0_3)) else (impl_IsSystem.j0 k a0_0 true a0_0 l0_1 l0_2 l0_3)) else (impl_IsSystem.j0 k a0_0 true a0_0 l0_1 l0_2 l0_3))) = some r := h
 clear h
 have HC2 := sd_ H
 clear H
 go_enter Try.func77, Try.ntmps77
 go_upto_region 2 with (first | ((with_reducible refine gate_dst (N := 1) rfl ?_); (try (refine gate_guard (by rfl) ?_; dsimp only)); refine bx_ (N := 1) (cs := #[.int .i64 a0_0, .slice A0_1 l0_1.length c0_1, .slice A0_2 l0_2.length c0_2, .slice A0_3 l0_3.length c0_3]) (t := 27) ?_; intro gb310 hg w3 hbox hb; have BK310 := sd_ (hbox); have GW310 := sd_ (gs_ hg (bw0_ HB.out)); have GE310 := sd_ (gs_ hg (bw0_ HB.out)); replace HB := sd_ (below_step (bw0_ HB.out) hb); clear hb hbox hg; obtain ⟨hcz4_0, hcz4_1, hcz4_2, hcz4_3, hfz4_0, hfz4_1, hfz4_2, hfz4_3⟩ := bf4_ BK310.out))
 (try simp only [Act.put, List.setIfInBounds_toArray, List.set_cons_zero, List.set_cons_succ])
 go_cut [39] (fun v39 wc => ∃ (kq : Nat) (x39_1 : Bool), v39 = .bool x39_1 ∧ Aside0 (impl_IsSystem.j0 kq a0_0 x39_1 a0_0 l0_1 l0_2 l0_3 = some r) ∧ Aside0 (kq ≤ k) ∧ Aside0 (wc.heap[gb310]? = some (.cells #[.int .i64 a0_0, (.slice A0_1 l0_1.length c0_1), (.slice A0_2 l0_2.length c0_2), (.slice A0_3 l0_3.length c0_3)] 27 (0, 0))) ∧ Aside0 (Below w.heap.size w wc))
 case first =>
  have H := HC2.out
  clear HC2
  replace H := Option.bind_eq_some_iff.mp H
  obtain ⟨t311, A50, H⟩ := H
  try dsimp only at H
  have A5 := sd_ A50
  clear A50
  by_cases c6 : t311 = true
  ·subst c6
   have H1 : (if (l0_1.length : Int) = (wrap64 (a0_0 * a0_0)) then (if (l0_2.length : Int) = (wrap64 (a0_0 * a0_0)) then (impl_IsSystem.j0 k a0_0 ((l0_3.length : Int) != (wrap64 (a0_0 * a0_0))) a0_0 l0_1 l0_2 l0_3) else (impl_IsSystem.j0 k a0_0 true a0_0 l0_1 l0_2 l0_3)) else (impl_IsSystem.j0 k a0_0 true a0_0 l0_1 l0_2 l0_3)) = some r := by rw [if_pos rfl] at H; exact H
   clear H
   have H := H1
   clear H1
   by_cases c7 : (l0_1.length : Int) = (wrap64 (a0_0 * a0_0))
   ·rw [if_pos c7] at H
    have c7b0 : ((l0_1.length : Int) == (wrap64 (a0_0 * a0_0))) = true := beq_iff_eq.mpr c7
    have c7b1 : ((l0_1.length : Int) != (wrap64 (a0_0 * a0_0))) = false := bne_eq_false_iff_eq.mpr c7
    clear c7
    (first | rw [c7b0] | (simp only [i64_w, i32_w]; rw [c7b0]) | skip)
    by_cases c8 : (l0_2.length : Int) = (wrap64 (a0_0 * a0_0))
    ·rw [if_pos c8] at H
     have c8b0 : ((l0_2.length : Int) == (wrap64 (a0_0 * a0_0))) = true := beq_iff_eq.mpr c8
     have c8b1 : ((l0_2.length : Int) != (wrap64 (a0_0 * a0_0))) = false := bne_eq_false_iff_eq.mpr c8
     clear c8
     have H' := sd_ H
     clear H
     go_wp2_with (first | ((with_reducible refine gate_callee (f := 104) rfl ?_); refine goesL_ (some 11) rfl rfl Try.func104 (by kernel_rfl) rfl #[.int .i64 a0_0, .int .i64 2, .int .i64 16] rfl la_ ?_; (with_reducible refine (impl_within.calls a0_0 2 16 true _ A5.out).mono ?_); rintro e w' ⟨rfl, ⟨nd, rfl⟩⟩; refine ⟨_, rfl, ?_⟩; obtain ⟨hcz9_0, hcz9_1, hcz9_2, hcz9_3, hfz9_0, hfz9_1, hfz9_2, hfz9_3⟩ := bf4_ BK310.out))
     go_meet
     case rel => exact ⟨_, (((l0_3.length : Int) != (wrap64 (a0_0 * a0_0)))), sm_, H', ⟨by first | omega | exact Nat.le_refl _⟩, ⟨by exact bz_ BK310.out⟩, ⟨bw1_ HB.out GE310.out⟩⟩
    rw [if_neg c8] at H
    have c8b0 : ((l0_2.length : Int) == (wrap64 (a0_0 * a0_0))) = false := beq_eq_false_iff_ne.mpr c8
    have c8b1 : ((l0_2.length : Int) != (wrap64 (a0_0 * a0_0))) = true := bne_iff_ne.mpr c8
    have H' := sd_ H
    clear H
    go_wp2_with (first | ((with_reducible refine gate_callee (f := 104) rfl ?_); refine goesL_ (some 11) rfl rfl Try.func104 (by kernel_rfl) rfl #[.int .i64 a0_0, .int .i64 2, .int .i64 16] rfl la_ ?_; (with_reducible refine (impl_within.calls a0_0 2 16 true _ A5.out).mono ?_); rintro e w' ⟨rfl, ⟨nd, rfl⟩⟩; refine ⟨_, rfl, ?_⟩; obtain ⟨hcz10_0, hcz10_1, hcz10_2, hcz10_3, hfz10_0, hfz10_1, hfz10_2, hfz10_3⟩ := bf4_ BK310.out))
    go_meet
    case rel => exact ⟨_, (true), sm_, H', ⟨by first | omega | exact Nat.le_refl _⟩, ⟨by exact bz_ BK310.out⟩, ⟨bw1_ HB.out GE310.out⟩⟩
   rw [if_neg c7] at H
   have c7b0 : ((l0_1.length : Int) == (wrap64 (a0_0 * a0_0))) = false := beq_eq_false_iff_ne.mpr c7
   have c7b1 : ((l0_1.length : Int) != (wrap64 (a0_0 * a0_0))) = true := bne_iff_ne.mpr c7
   (first | rw [c7b0] | (simp only [i64_w, i32_w]; rw [c7b0]) | skip)
   have H' := sd_ H
   clear H
   go_wp2_with (first | ((with_reducible refine gate_callee (f := 104) rfl ?_); refine goesL_ (some 11) rfl rfl Try.func104 (by kernel_rfl) rfl #[.int .i64 a0_0, .int .i64 2, .int .i64 16] rfl la_ ?_; (with_reducible refine (impl_within.calls a0_0 2 16 true _ A5.out).mono ?_); rintro e w' ⟨rfl, ⟨nd, rfl⟩⟩; refine ⟨_, rfl, ?_⟩; obtain ⟨hcz11_0, hcz11_1, hcz11_2, hcz11_3, hfz11_0, hfz11_1, hfz11_2, hfz11_3⟩ := bf4_ BK310.out))
   go_meet
   case rel => exact ⟨_, (true), sm_, H', ⟨by first | omega | exact Nat.le_refl _⟩, ⟨by exact bz_ BK310.out⟩, ⟨bw1_ HB.out GE310.out⟩⟩
  replace c6 := Bool.eq_false_iff.mpr c6
  subst c6
  have H1 : (impl_IsSystem.j0 k a0_0 true a0_0 l0_1 l0_2 l0_3) = some r := by rw [if_neg (show ¬ (false = true) by decide)] at H; exact H
  clear H
  have H := H1
  clear H1
  have H' := sd_ H
  clear H
  go_wp2_with (first | ((with_reducible refine gate_callee (f := 104) rfl ?_); refine goesL_ (some 11) rfl rfl Try.func104 (by kernel_rfl) rfl #[.int .i64 a0_0, .int .i64 2, .int .i64 16] rfl la_ ?_; (with_reducible refine (impl_within.calls a0_0 2 16 false _ A5.out).mono ?_); rintro e w' ⟨rfl, ⟨nd, rfl⟩⟩; refine ⟨_, rfl, ?_⟩))
  go_meet
  case rel => exact ⟨_, (true), sm_, H', ⟨by first | omega | exact Nat.le_refl _⟩, ⟨by exact bz_ BK310.out⟩, ⟨bw1_ HB.out GE310.out⟩⟩
 case rest =>
  clear HC2
  try clear p6
  try clear c7
  try clear hcz4_0
  try clear hcz4_1
  try clear hcz4_2
  try clear hcz4_3
  try clear hfz4_0
  try clear hfz4_1
  try clear hfz4_2
  try clear hfz4_3
  obtain ⟨kq, x39_1, rfl, HA, HJ1, BK310, HB⟩ := hcut
  cases kq with
  | zero => exact absurd HA.out (by simp [impl_IsSystem.j0])
  | succ kj1 =>
   have H := HA.out
   clear HA
   simp only [impl_IsSystem.j0] at H
   by_cases c12 : x39_1 = true
   ·subst c12
    have H1 : (some false) = some r := by rw [if_pos rfl] at H; exact H
    clear H
    have H := H1
    clear H1
    obtain rfl := Option.some.inj H
    go_wp2
    go_ret
    exact ⟨an_, bw1_ HB.out GE310.out⟩
   replace c12 := Bool.eq_false_iff.mpr c12
   subst c12
   have H1 : (impl_IsSystem.l0 kj1 a0_0 (l0_1.length : Int) 0 a0_0 l0_1 l0_2 l0_3) = some r := by rw [if_neg (show ¬ (false = true) by decide)] at H; exact H
   clear H
   have H := H1
   clear H1
   have H' := sd_ H
   clear H
   obtain ⟨hcz13_0, hcz13_1, hcz13_2, hcz13_3, hfz13_0, hfz13_1, hfz13_2, hfz13_3⟩ := bf4_ BK310.out
   go_wp2
   go_loopg [43] kj1 (fun kq v43 w' => ∃ (x43_2 : Int), v43 = .int .i64 x43_2 ∧ Aside0 (impl_IsSystem.l0 kq a0_0 (l0_1.length : Int) x43_2 a0_0 l0_1 l0_2 l0_3 = some r) ∧ Aside0 (kq ≤ kj1) ∧ Aside0 (w'.heap[gb310]? = some (.cells #[.int .i64 a0_0, (.slice A0_1 l0_1.length c0_1), (.slice A0_2 l0_2.length c0_2), (.slice A0_3 l0_3.length c0_3)] 27 (0, 0))) ∧ Aside0 (Below w.heap.size w w'))
   case atStart => exact ⟨(0), sm_, H', ⟨Nat.le_refl _⟩, ⟨by exact bz_ BK310.out⟩, ⟨bw1_ HB.out GE310.out⟩⟩
   case round =>
    clear H'
    try clear c1
    try clear p2
    try clear p6
    try clear c7
    try clear c12
    try clear hcz13_0
    try clear hcz13_1
    try clear hcz13_2
    try clear hcz13_3
    try clear hcz4_0
    try clear hcz4_1
    try clear hcz4_2
    try clear hcz4_3
    try clear hfz13_0
    try clear hfz13_1
    try clear hfz13_2
    try clear hfz13_3
    try clear hfz4_0
    try clear hfz4_1
    try clear hfz4_2
    try clear hfz4_3
    try clear p6
    obtain ⟨x43_2, rfl, HA, HK2, BK310, HB⟩ := hrel
    cases gk with
    | zero => exact absurd HA.out (by simp [impl_IsSystem.l0])
    | succ k2 =>
     have H := HA.out
     clear HA
     simp only [impl_IsSystem.l0] at H
     by_cases c14 : x43_2 < (l0_1.length : Int)
     ·rw [if_pos c14] at H
      have c14b0 : decide (x43_2 < (l0_1.length : Int)) = true := decide_eq_true c14
      clear c14
      by_cases c15 : 0 ≤ x43_2
      ·rw [if_pos c15] at H
       have c15b0 : decide (0 ≤ x43_2) = true := decide_eq_true c15
       clear c15
       by_cases c16 : x43_2 < (l0_1.length : Int)
       ·rw [if_pos c16] at H
        have c16b0 : decide (x43_2 < (l0_1.length : Int)) = true := decide_eq_true c16
        clear c16
        replace H := Option.bind_eq_some_iff.mp H
        obtain ⟨t313, A170, H⟩ := H
        try dsimp only at H
        have A17 := sd_ A170
        clear A170
        by_cases c18 : t313 = true
        ·subst c18
         have H1 : (if x43_2 < (l0_2.length : Int) then ((impl_System_has.f a0_0 l0_1 l0_2 l0_3 (rd l0_2 x43_2)).bind fun t315 => (if t315 = true then (impl_IsSystem.l0 k2 a0_0 (l0_1.length : Int) (wrap64 (x43_2 + 1)) a0_0 l0_1 l0_2 l0_3) else (some false))) else (none)) = some r := by rw [if_pos rfl] at H; exact H
         clear H
         have H := H1
         clear H1
         by_cases c19 : x43_2 < (l0_2.length : Int)
         ·rw [if_pos c19] at H
          have c19b0 : decide (x43_2 < (l0_2.length : Int)) = true := decide_eq_true c19
          clear c19
          replace H := Option.bind_eq_some_iff.mp H
          obtain ⟨t315, A200, H⟩ := H
          try dsimp only at H
          have A20 := sd_ A200
          clear A200
          by_cases c21 : t315 = true
          ·subst c21
           have H1 : (impl_IsSystem.l0 k2 a0_0 (l0_1.length : Int) (wrap64 (x43_2 + 1)) a0_0 l0_1 l0_2 l0_3) = some r := by rw [if_pos rfl] at H; exact H
           clear H
           have H := H1
           clear H1
           have H' := sd_ H
           clear H
           try go_wp2
           have p312 : 0 ≤ (x43_2 : Int) := dt_
           have q312 : x43_2 < (l0_1.length : Int) := dt_
           obtain ⟨ad312, e312, hx312_0⟩ := Kd.at_int HR0_1.out x43_2 p312 q312
           cases e312
           replace hx312_0 := (HB.out.cell (World.block_lt_of_cell? w _ hx312_0)).trans hx312_0
           replace p312 := eq_true p312
           replace q312 := eq_true q312
           have p314 : 0 ≤ (x43_2 : Int) := dt_
           have q314 : x43_2 < (l0_2.length : Int) := dt_
           obtain ⟨ad314, e314, hx314_0⟩ := Kd.at_int HR0_2.out x43_2 p314 q314
           cases e314
           replace hx314_0 := (HB.out.cell (World.block_lt_of_cell? w _ hx314_0)).trans hx314_0
           replace p314 := eq_true p314
           replace q314 := eq_true q314
           refine qb_region (by kernel_rfl) (by kernel_rfl) ?_
           have HQ := fun (wq : World) (hq : Below wr.heap.size wr wq) => below_step HB.out hq
           repeat ((first | (apply qb_skip; (focus rfl)) | (refine qb_callN 52 rfl ?_; apply qb_call 52 rfl Try.func105 (by kernel_rfl) rfl rfl; (focus rfl); (focus (exact fun wq9 hb9 => qb_b hb9 (impl_System_has.calls a0_0 _ _ l0_1 _ _ l0_2 _ _ l0_3 (rd l0_1 x43_2) true _ (Kd.C_below HR0_1.out (HQ _ hb9)) HC0_1.out (Kd.C_below HR0_2.out (HQ _ hb9)) HC0_2.out (Kd.C_below HR0_3.out (HQ _ hb9)) HC0_3.out A17.out))); (focus (rfl))) | (refine qb_callN 61 rfl ?_; apply qb_call 61 rfl Try.func105 (by kernel_rfl) rfl rfl; (focus rfl); (focus (exact fun wq9 hb9 => qb_b hb9 (impl_System_has.calls a0_0 _ _ l0_1 _ _ l0_2 _ _ l0_3 (rd l0_2 x43_2) true _ (Kd.C_below HR0_1.out (HQ _ hb9)) HC0_1.out (Kd.C_below HR0_2.out (HQ _ hb9)) HC0_2.out (Kd.C_below HR0_3.out (HQ _ hb9)) HC0_3.out A20.out))); (focus (rfl))) | (apply qb_val; (focus rfl); (focus (intro wq9 _; go_simp; with_reducible rfl))) | (apply qb_val; (focus rfl); (focus (intro wq9 hb9_; have hb9 : Below wr.heap.size wr wq9 := hb9_; have BK310 := sd_ (blk_below BK310.out hb9); have hc9_310_0 : wq9.cell? ⟨gb310, 0, none⟩ = some (.int .i64 a0_0) := (blk_cell BK310.out 0).trans rfl; have hc9_310_1 : wq9.cell? ⟨gb310, 1, none⟩ = some (.slice (some ad312) l0_1.length c0_1) := (blk_cell BK310.out 1).trans rfl; have hc9_310_2 : wq9.cell? ⟨gb310, 2, none⟩ = some (.slice (some ad314) l0_2.length c0_2) := (blk_cell BK310.out 2).trans rfl; have hc9_310_3 : wq9.cell? ⟨gb310, 3, none⟩ = some (.slice A0_3 l0_3.length c0_3) := (blk_cell BK310.out 3).trans rfl; have hx312_0 := (hb9.cell (World.block_lt_of_cell? _ _ hx312_0)).trans hx312_0; have hx314_0 := (hb9.cell (World.block_lt_of_cell? _ _ hx314_0)).trans hx314_0; go_simp; with_reducible rfl)))); (focus (simp only [Act.put, List.setIfInBounds_toArray, List.set_cons_zero, List.set_cons_succ, i64_w, i32_w]; rfl)))
           refine qb_nil ?_
           intro w24 hb
           replace BK310 := sd_ (blk_below BK310.out hb)
           replace HB := sd_ (below_step HB.out hb)
           clear hb
           (try clear HQ)
           try go_wp2
           go_roundg k2
           case measure => have := HJ1.out; have := HK2.out; omega
           case rel => exact ⟨(wrap64 (x43_2 + 1)), sm_, H', ⟨by have := HJ1.out; have := HK2.out; omega⟩, ⟨by exact bz_ BK310.out⟩, ⟨bw1_ HB.out GE310.out⟩⟩
          replace c21 := Bool.eq_false_iff.mpr c21
          subst c21
          have H1 : (some false) = some r := by rw [if_neg (show ¬ (false = true) by decide)] at H; exact H
          clear H
          have H := H1
          clear H1
          obtain rfl := Option.some.inj H
          try go_wp2
          have p312 : 0 ≤ (x43_2 : Int) := dt_
          have q312 : x43_2 < (l0_1.length : Int) := dt_
          obtain ⟨ad312, e312, hx312_0⟩ := Kd.at_int HR0_1.out x43_2 p312 q312
          cases e312
          replace hx312_0 := (HB.out.cell (World.block_lt_of_cell? w _ hx312_0)).trans hx312_0
          replace p312 := eq_true p312
          replace q312 := eq_true q312
          have p314 : 0 ≤ (x43_2 : Int) := dt_
          have q314 : x43_2 < (l0_2.length : Int) := dt_
          obtain ⟨ad314, e314, hx314_0⟩ := Kd.at_int HR0_2.out x43_2 p314 q314
          cases e314
          replace hx314_0 := (HB.out.cell (World.block_lt_of_cell? w _ hx314_0)).trans hx314_0
          replace p314 := eq_true p314
          replace q314 := eq_true q314
          refine qb_region (by kernel_rfl) (by kernel_rfl) ?_
          have HQ := fun (wq : World) (hq : Below wr.heap.size wr wq) => below_step HB.out hq
          repeat ((first | (apply qb_skip; (focus rfl)) | (refine qb_callN 52 rfl ?_; apply qb_call 52 rfl Try.func105 (by kernel_rfl) rfl rfl; (focus rfl); (focus (exact fun wq9 hb9 => qb_b hb9 (impl_System_has.calls a0_0 _ _ l0_1 _ _ l0_2 _ _ l0_3 (rd l0_1 x43_2) true _ (Kd.C_below HR0_1.out (HQ _ hb9)) HC0_1.out (Kd.C_below HR0_2.out (HQ _ hb9)) HC0_2.out (Kd.C_below HR0_3.out (HQ _ hb9)) HC0_3.out A17.out))); (focus (rfl))) | (refine qb_callN 61 rfl ?_; apply qb_call 61 rfl Try.func105 (by kernel_rfl) rfl rfl; (focus rfl); (focus (exact fun wq9 hb9 => qb_b hb9 (impl_System_has.calls a0_0 _ _ l0_1 _ _ l0_2 _ _ l0_3 (rd l0_2 x43_2) false _ (Kd.C_below HR0_1.out (HQ _ hb9)) HC0_1.out (Kd.C_below HR0_2.out (HQ _ hb9)) HC0_2.out (Kd.C_below HR0_3.out (HQ _ hb9)) HC0_3.out A20.out))); (focus (rfl))) | (apply qb_val; (focus rfl); (focus (intro wq9 _; go_simp; with_reducible rfl))) | (apply qb_val; (focus rfl); (focus (intro wq9 hb9_; have hb9 : Below wr.heap.size wr wq9 := hb9_; have BK310 := sd_ (blk_below BK310.out hb9); have hc9_310_0 : wq9.cell? ⟨gb310, 0, none⟩ = some (.int .i64 a0_0) := (blk_cell BK310.out 0).trans rfl; have hc9_310_1 : wq9.cell? ⟨gb310, 1, none⟩ = some (.slice (some ad312) l0_1.length c0_1) := (blk_cell BK310.out 1).trans rfl; have hc9_310_2 : wq9.cell? ⟨gb310, 2, none⟩ = some (.slice (some ad314) l0_2.length c0_2) := (blk_cell BK310.out 2).trans rfl; have hc9_310_3 : wq9.cell? ⟨gb310, 3, none⟩ = some (.slice A0_3 l0_3.length c0_3) := (blk_cell BK310.out 3).trans rfl; have hx312_0 := (hb9.cell (World.block_lt_of_cell? _ _ hx312_0)).trans hx312_0; have hx314_0 := (hb9.cell (World.block_lt_of_cell? _ _ hx314_0)).trans hx314_0; go_simp; with_reducible rfl)))); (focus (simp only [Act.put, List.setIfInBounds_toArray, List.set_cons_zero, List.set_cons_succ, i64_w, i32_w]; rfl)))
          refine qb_nil ?_
          intro w27 hb
          replace BK310 := sd_ (blk_below BK310.out hb)
          replace HB := sd_ (below_step HB.out hb)
          clear hb
          (try clear HQ)
          try go_wp2
          go_ret
          exact ⟨an_, bw1_ HB.out GE310.out⟩
         rw [if_neg c19] at H
         exact absurd H (by simp)
        replace c18 := Bool.eq_false_iff.mpr c18
        subst c18
        have H1 : (some false) = some r := by rw [if_neg (show ¬ (false = true) by decide)] at H; exact H
        clear H
        have H := H1
        clear H1
        obtain rfl := Option.some.inj H
        try go_wp2
        have p312 : 0 ≤ (x43_2 : Int) := dt_
        have q312 : x43_2 < (l0_1.length : Int) := dt_
        obtain ⟨ad312, e312, hx312_0⟩ := Kd.at_int HR0_1.out x43_2 p312 q312
        cases e312
        replace hx312_0 := (HB.out.cell (World.block_lt_of_cell? w _ hx312_0)).trans hx312_0
        replace p312 := eq_true p312
        replace q312 := eq_true q312
        refine qb_region (by kernel_rfl) (by kernel_rfl) ?_
        have HQ := fun (wq : World) (hq : Below wr.heap.size wr wq) => below_step HB.out hq
        repeat ((first | (apply qb_skip; (focus rfl)) | (refine qb_callN 52 rfl ?_; apply qb_call 52 rfl Try.func105 (by kernel_rfl) rfl rfl; (focus rfl); (focus (exact fun wq9 hb9 => qb_b hb9 (impl_System_has.calls a0_0 _ _ l0_1 _ _ l0_2 _ _ l0_3 (rd l0_1 x43_2) false _ (Kd.C_below HR0_1.out (HQ _ hb9)) HC0_1.out (Kd.C_below HR0_2.out (HQ _ hb9)) HC0_2.out (Kd.C_below HR0_3.out (HQ _ hb9)) HC0_3.out A17.out))); (focus (rfl))) | (apply qb_val; (focus rfl); (focus (intro wq9 _; go_simp; with_reducible rfl))) | (apply qb_val; (focus rfl); (focus (intro wq9 hb9_; have hb9 : Below wr.heap.size wr wq9 := hb9_; have BK310 := sd_ (blk_below BK310.out hb9); have hc9_310_0 : wq9.cell? ⟨gb310, 0, none⟩ = some (.int .i64 a0_0) := (blk_cell BK310.out 0).trans rfl; have hc9_310_1 : wq9.cell? ⟨gb310, 1, none⟩ = some (.slice (some ad312) l0_1.length c0_1) := (blk_cell BK310.out 1).trans rfl; have hc9_310_2 : wq9.cell? ⟨gb310, 2, none⟩ = some (.slice A0_2 l0_2.length c0_2) := (blk_cell BK310.out 2).trans rfl; have hc9_310_3 : wq9.cell? ⟨gb310, 3, none⟩ = some (.slice A0_3 l0_3.length c0_3) := (blk_cell BK310.out 3).trans rfl; have hx312_0 := (hb9.cell (World.block_lt_of_cell? _ _ hx312_0)).trans hx312_0; go_simp; with_reducible rfl)))); (focus (simp only [Act.put, List.setIfInBounds_toArray, List.set_cons_zero, List.set_cons_succ, i64_w, i32_w]; rfl)))
        refine qb_nil ?_
        intro w29 hb
        replace BK310 := sd_ (blk_below BK310.out hb)
        replace HB := sd_ (below_step HB.out hb)
        clear hb
        (try clear HQ)
        try go_wp2
        go_ret
        exact ⟨an_, bw1_ HB.out GE310.out⟩
       rw [if_neg c16] at H
       exact absurd H (by simp)
      rw [if_neg c15] at H
      exact absurd H (by simp)
     rw [if_neg c14] at H
     have c14b0 : decide (x43_2 < (l0_1.length : Int)) = false := decide_eq_false c14
     clear c14
     have H' := sd_ H
     clear H
     go_wp2
     go_loopg [5] k2 (fun kq v5 w' => ∃ (x5_3 : Int), v5 = .int .i64 x5_3 ∧ Aside0 (impl_IsSystem.l1 kq a0_0 x5_3 a0_0 l0_1 l0_2 l0_3 = some r) ∧ Aside0 (kq ≤ k2) ∧ Aside0 (w'.heap[gb310]? = some (.cells #[.int .i64 a0_0, (.slice A0_1 l0_1.length c0_1), (.slice A0_2 l0_2.length c0_2), (.slice A0_3 l0_3.length c0_3)] 27 (0, 0))) ∧ Aside0 (Below w.heap.size w w'))
     case atStart => exact ⟨(0), sm_, H', ⟨Nat.le_refl _⟩, ⟨by exact bz_ BK310.out⟩, ⟨bw1_ HB.out GE310.out⟩⟩
     case round =>
      clear H'
      try clear c1
      try clear p2
      try clear p6
      try clear c7
      try clear c12
      try clear c14
      try clear c14b0
      try clear hcz13_0
      try clear hcz13_1
      try clear hcz13_2
      try clear hcz13_3
      try clear hcz4_0
      try clear hcz4_1
      try clear hcz4_2
      try clear hcz4_3
      try clear hfz13_0
      try clear hfz13_1
      try clear hfz13_2
      try clear hfz13_3
      try clear hfz4_0
      try clear hfz4_1
      try clear hfz4_2
      try clear hfz4_3
      try clear p2
      try clear p6
      obtain ⟨x5_3, rfl, HA, HK3, BK310, HB⟩ := hrel
      cases gk with
      | zero => exact absurd HA.out (by simp [impl_IsSystem.l1])
      | succ k3 =>
       have H := HA.out
       clear HA
       simp only [impl_IsSystem.l1] at H
       by_cases c30 : x5_3 < a0_0
       ·rw [if_pos c30] at H
        have c30b0 : decide (x5_3 < a0_0) = true := decide_eq_true c30
        clear c30
        have HC31 := sd_ H
        clear H
        go_upto_region 13 with (fail)
        go_cut [107] (fun v107 wc => ∃ (kq : Nat) (x107_30 : Bool), v107 = .bool x107_30 ∧ Aside0 (impl_IsSystem.j3 kq a0_0 x5_3 x107_30 a0_0 l0_1 l0_2 l0_3 = some r) ∧ Aside0 (kq ≤ k3) ∧ Aside0 (wc.heap[gb310]? = some (.cells #[.int .i64 a0_0, (.slice A0_1 l0_1.length c0_1), (.slice A0_2 l0_2.length c0_2), (.slice A0_3 l0_3.length c0_3)] 27 (0, 0))) ∧ Aside0 (Below w.heap.size w wc))
        case first =>
         have H := HC31.out
         clear HC31
         replace H := Option.bind_eq_some_iff.mp H
         obtain ⟨t316, A320, H⟩ := H
         try dsimp only at H
         have A32 := sd_ A320
         clear A320
         by_cases c33 : t316 = x5_3
         ·rw [if_pos c33] at H
          have c33b0 : (t316 == x5_3) = true := beq_iff_eq.mpr c33
          have c33b1 : (t316 != x5_3) = false := bne_eq_false_iff_eq.mpr c33
          clear c33
          (first | rw [c33b0] | (simp only [i64_w, i32_w]; rw [c33b0]) | skip)
          replace H := Option.bind_eq_some_iff.mp H
          obtain ⟨t317, A340, H⟩ := H
          try dsimp only at H
          have A34 := sd_ A340
          clear A340
          by_cases c35 : t317 = x5_3
          ·rw [if_pos c35] at H
           have c35b0 : (t317 == x5_3) = true := beq_iff_eq.mpr c35
           have c35b1 : (t317 != x5_3) = false := bne_eq_false_iff_eq.mpr c35
           clear c35
           replace H := Option.bind_eq_some_iff.mp H
           obtain ⟨t318, A360, H⟩ := H
           try dsimp only at H
           have A36 := sd_ A360
           clear A360
           by_cases c37 : t318 = x5_3
           ·rw [if_pos c37] at H
            have c37b0 : (t318 == x5_3) = true := beq_iff_eq.mpr c37
            have c37b1 : (t318 != x5_3) = false := bne_eq_false_iff_eq.mpr c37
            clear c37
            replace H := Option.bind_eq_some_iff.mp H
            obtain ⟨t319, A380, H⟩ := H
            try dsimp only at H
            have A38 := sd_ A380
            clear A380
            by_cases c39 : t319 = 0
            ·rw [if_pos c39] at H
             have c39b0 : (t319 == 0) = true := beq_iff_eq.mpr c39
             have c39b1 : (t319 != 0) = false := bne_eq_false_iff_eq.mpr c39
             clear c39
             replace H := Option.bind_eq_some_iff.mp H
             obtain ⟨t320, A400, H⟩ := H
             try dsimp only at H
             have A40 := sd_ A400
             clear A400
             by_cases c41 : t320 = 0
             ·rw [if_pos c41] at H
              have c41b0 : (t320 == 0) = true := beq_iff_eq.mpr c41
              have c41b1 : (t320 != 0) = false := bne_eq_false_iff_eq.mpr c41
              clear c41
              replace H := Option.bind_eq_some_iff.mp H
              obtain ⟨t321, A420, H⟩ := H
              try dsimp only at H
              have A42 := sd_ A420
              clear A420
              have H' := sd_ H
              clear H
              obtain ⟨hcz43_0, hcz43_1, hcz43_2, hcz43_3, hfz43_0, hfz43_1, hfz43_2, hfz43_3⟩ := bf4_ BK310.out
              go_wp2_with (first | ((with_reducible refine gate_callee (f := 49) rfl ?_); refine goesL_ (some 72) rfl rfl Try.func49 (by kernel_rfl) rfl #[.agg #[.int .i64 a0_0, .slice A0_1 l0_1.length c0_1, .slice A0_2 l0_2.length c0_2, .slice A0_3 l0_3.length c0_3], .int .i64 0, .int .i64 x5_3] rfl la_ ?_; (with_reducible refine (impl_System_plus.calls a0_0 _ _ l0_1 _ _ l0_2 _ _ l0_3 0 x5_3 t316 _ (kc_ HR0_1.out HB.out) HC0_1.out (kc_ HR0_2.out HB.out) HC0_2.out (kc_ HR0_3.out HB.out) HC0_3.out A32.out).mono ?_); rintro e w44 ⟨rfl, hb⟩; refine ⟨_, rfl, ?_⟩; replace BK310 := sd_ (bb_ BK310.out hb); replace HB := sd_ (below_step (bw1_ HB.out GE310.out) hb); (try clear hb); obtain ⟨hcz45_0, hcz45_1, hcz45_2, hcz45_3, hfz45_0, hfz45_1, hfz45_2, hfz45_3⟩ := bf4_ BK310.out) | (go_at_call 51; (with_reducible refine (impl_System_times.calls a0_0 _ _ l0_1 _ _ l0_2 _ _ l0_3 1 x5_3 t317 _ (kc_ HR0_1.out HB.out) HC0_1.out (kc_ HR0_2.out HB.out) HC0_2.out (kc_ HR0_3.out HB.out) HC0_3.out A34.out).mono ?_); rintro e w46 ⟨rfl, hb⟩; replace BK310 := sd_ (bb_ BK310.out hb); replace HB := sd_ (below_step (bw1_ HB.out GE310.out) hb); (try clear hb); obtain ⟨hcz47_0, hcz47_1, hcz47_2, hcz47_3, hfz47_0, hfz47_1, hfz47_2, hfz47_3⟩ := bf4_ BK310.out) | (go_at_call 51; (with_reducible refine (impl_System_times.calls a0_0 _ _ l0_1 _ _ l0_2 _ _ l0_3 x5_3 1 t318 _ (kc_ HR0_1.out HB.out) HC0_1.out (kc_ HR0_2.out HB.out) HC0_2.out (kc_ HR0_3.out HB.out) HC0_3.out A36.out).mono ?_); rintro e w48 ⟨rfl, hb⟩; replace BK310 := sd_ (bb_ BK310.out hb); replace HB := sd_ (below_step (bw1_ HB.out GE310.out) hb); (try clear hb); obtain ⟨hcz49_0, hcz49_1, hcz49_2, hcz49_3, hfz49_0, hfz49_1, hfz49_2, hfz49_3⟩ := bf4_ BK310.out) | (go_at_call 51; (with_reducible refine (impl_System_times.calls a0_0 _ _ l0_1 _ _ l0_2 _ _ l0_3 0 x5_3 t319 _ (kc_ HR0_1.out HB.out) HC0_1.out (kc_ HR0_2.out HB.out) HC0_2.out (kc_ HR0_3.out HB.out) HC0_3.out A38.out).mono ?_); rintro e w50 ⟨rfl, hb⟩; replace BK310 := sd_ (bb_ BK310.out hb); replace HB := sd_ (below_step (bw1_ HB.out GE310.out) hb); (try clear hb); obtain ⟨hcz51_0, hcz51_1, hcz51_2, hcz51_3, hfz51_0, hfz51_1, hfz51_2, hfz51_3⟩ := bf4_ BK310.out) | (go_at_call 51; (with_reducible refine (impl_System_times.calls a0_0 _ _ l0_1 _ _ l0_2 _ _ l0_3 x5_3 0 t320 _ (kc_ HR0_1.out HB.out) HC0_1.out (kc_ HR0_2.out HB.out) HC0_2.out (kc_ HR0_3.out HB.out) HC0_3.out A40.out).mono ?_); rintro e w52 ⟨rfl, hb⟩; replace BK310 := sd_ (bb_ BK310.out hb); replace HB := sd_ (below_step (bw1_ HB.out GE310.out) hb); (try clear hb); obtain ⟨hcz53_0, hcz53_1, hcz53_2, hcz53_3, hfz53_0, hfz53_1, hfz53_2, hfz53_3⟩ := bf4_ BK310.out) | (go_at_call 53; (with_reducible refine (impl_System_below.calls a0_0 _ _ l0_1 _ _ l0_2 _ _ l0_3 x5_3 x5_3 t321 _ (kc_ HR0_1.out HB.out) HC0_1.out (kc_ HR0_2.out HB.out) HC0_2.out (kc_ HR0_3.out HB.out) HC0_3.out A42.out).mono ?_); rintro e w54 ⟨rfl, hb⟩; replace BK310 := sd_ (bb_ BK310.out hb); replace HB := sd_ (below_step (bw1_ HB.out GE310.out) hb); (try clear hb)))
              go_meet
              case rel => exact ⟨_, (!t321), sm_, H', ⟨by have := HJ1.out; have := HK2.out; have := HK3.out; first | omega | exact Nat.le_refl _⟩, ⟨by exact bz_ BK310.out⟩, ⟨bw1_ HB.out GE310.out⟩⟩
             rw [if_neg c41] at H
             have c41b0 : (t320 == 0) = false := beq_eq_false_iff_ne.mpr c41
             have c41b1 : (t320 != 0) = true := bne_iff_ne.mpr c41
             have H' := sd_ H
             clear H
             obtain ⟨hcz55_0, hcz55_1, hcz55_2, hcz55_3, hfz55_0, hfz55_1, hfz55_2, hfz55_3⟩ := bf4_ BK310.out
             go_wp2_with (first | ((with_reducible refine gate_callee (f := 49) rfl ?_); refine goesL_ (some 72) rfl rfl Try.func49 (by kernel_rfl) rfl #[.agg #[.int .i64 a0_0, .slice A0_1 l0_1.length c0_1, .slice A0_2 l0_2.length c0_2, .slice A0_3 l0_3.length c0_3], .int .i64 0, .int .i64 x5_3] rfl la_ ?_; (with_reducible refine (impl_System_plus.calls a0_0 _ _ l0_1 _ _ l0_2 _ _ l0_3 0 x5_3 t316 _ (kc_ HR0_1.out HB.out) HC0_1.out (kc_ HR0_2.out HB.out) HC0_2.out (kc_ HR0_3.out HB.out) HC0_3.out A32.out).mono ?_); rintro e w56 ⟨rfl, hb⟩; refine ⟨_, rfl, ?_⟩; replace BK310 := sd_ (bb_ BK310.out hb); replace HB := sd_ (below_step (bw1_ HB.out GE310.out) hb); (try clear hb); obtain ⟨hcz57_0, hcz57_1, hcz57_2, hcz57_3, hfz57_0, hfz57_1, hfz57_2, hfz57_3⟩ := bf4_ BK310.out) | (go_at_call 51; (with_reducible refine (impl_System_times.calls a0_0 _ _ l0_1 _ _ l0_2 _ _ l0_3 1 x5_3 t317 _ (kc_ HR0_1.out HB.out) HC0_1.out (kc_ HR0_2.out HB.out) HC0_2.out (kc_ HR0_3.out HB.out) HC0_3.out A34.out).mono ?_); rintro e w58 ⟨rfl, hb⟩; replace BK310 := sd_ (bb_ BK310.out hb); replace HB := sd_ (below_step (bw1_ HB.out GE310.out) hb); (try clear hb); obtain ⟨hcz59_0, hcz59_1, hcz59_2, hcz59_3, hfz59_0, hfz59_1, hfz59_2, hfz59_3⟩ := bf4_ BK310.out) | (go_at_call 51; (with_reducible refine (impl_System_times.calls a0_0 _ _ l0_1 _ _ l0_2 _ _ l0_3 x5_3 1 t318 _ (kc_ HR0_1.out HB.out) HC0_1.out (kc_ HR0_2.out HB.out) HC0_2.out (kc_ HR0_3.out HB.out) HC0_3.out A36.out).mono ?_); rintro e w60 ⟨rfl, hb⟩; replace BK310 := sd_ (bb_ BK310.out hb); replace HB := sd_ (below_step (bw1_ HB.out GE310.out) hb); (try clear hb); obtain ⟨hcz61_0, hcz61_1, hcz61_2, hcz61_3, hfz61_0, hfz61_1, hfz61_2, hfz61_3⟩ := bf4_ BK310.out) | (go_at_call 51; (with_reducible refine (impl_System_times.calls a0_0 _ _ l0_1 _ _ l0_2 _ _ l0_3 0 x5_3 t319 _ (kc_ HR0_1.out HB.out) HC0_1.out (kc_ HR0_2.out HB.out) HC0_2.out (kc_ HR0_3.out HB.out) HC0_3.out A38.out).mono ?_); rintro e w62 ⟨rfl, hb⟩; replace BK310 := sd_ (bb_ BK310.out hb); replace HB := sd_ (below_step (bw1_ HB.out GE310.out) hb); (try clear hb); obtain ⟨hcz63_0, hcz63_1, hcz63_2, hcz63_3, hfz63_0, hfz63_1, hfz63_2, hfz63_3⟩ := bf4_ BK310.out) | (go_at_call 51; (with_reducible refine (impl_System_times.calls a0_0 _ _ l0_1 _ _ l0_2 _ _ l0_3 x5_3 0 t320 _ (kc_ HR0_1.out HB.out) HC0_1.out (kc_ HR0_2.out HB.out) HC0_2.out (kc_ HR0_3.out HB.out) HC0_3.out A40.out).mono ?_); rintro e w64 ⟨rfl, hb⟩; replace BK310 := sd_ (bb_ BK310.out hb); replace HB := sd_ (below_step (bw1_ HB.out GE310.out) hb); (try clear hb)))
             go_meet
             case rel => exact ⟨_, (true), sm_, H', ⟨by have := HJ1.out; have := HK2.out; have := HK3.out; first | omega | exact Nat.le_refl _⟩, ⟨by exact bz_ BK310.out⟩, ⟨bw1_ HB.out GE310.out⟩⟩
            rw [if_neg c39] at H
            have c39b0 : (t319 == 0) = false := beq_eq_false_iff_ne.mpr c39
            have c39b1 : (t319 != 0) = true := bne_iff_ne.mpr c39
            have H' := sd_ H
            clear H
            obtain ⟨hcz65_0, hcz65_1, hcz65_2, hcz65_3, hfz65_0, hfz65_1, hfz65_2, hfz65_3⟩ := bf4_ BK310.out
            go_wp2_with (first | ((with_reducible refine gate_callee (f := 49) rfl ?_); refine goesL_ (some 72) rfl rfl Try.func49 (by kernel_rfl) rfl #[.agg #[.int .i64 a0_0, .slice A0_1 l0_1.length c0_1, .slice A0_2 l0_2.length c0_2, .slice A0_3 l0_3.length c0_3], .int .i64 0, .int .i64 x5_3] rfl la_ ?_; (with_reducible refine (impl_System_plus.calls a0_0 _ _ l0_1 _ _ l0_2 _ _ l0_3 0 x5_3 t316 _ (kc_ HR0_1.out HB.out) HC0_1.out (kc_ HR0_2.out HB.out) HC0_2.out (kc_ HR0_3.out HB.out) HC0_3.out A32.out).mono ?_); rintro e w66 ⟨rfl, hb⟩; refine ⟨_, rfl, ?_⟩; replace BK310 := sd_ (bb_ BK310.out hb); replace HB := sd_ (below_step (bw1_ HB.out GE310.out) hb); (try clear hb); obtain ⟨hcz67_0, hcz67_1, hcz67_2, hcz67_3, hfz67_0, hfz67_1, hfz67_2, hfz67_3⟩ := bf4_ BK310.out) | (go_at_call 51; (with_reducible refine (impl_System_times.calls a0_0 _ _ l0_1 _ _ l0_2 _ _ l0_3 1 x5_3 t317 _ (kc_ HR0_1.out HB.out) HC0_1.out (kc_ HR0_2.out HB.out) HC0_2.out (kc_ HR0_3.out HB.out) HC0_3.out A34.out).mono ?_); rintro e w68 ⟨rfl, hb⟩; replace BK310 := sd_ (bb_ BK310.out hb); replace HB := sd_ (below_step (bw1_ HB.out GE310.out) hb); (try clear hb); obtain ⟨hcz69_0, hcz69_1, hcz69_2, hcz69_3, hfz69_0, hfz69_1, hfz69_2, hfz69_3⟩ := bf4_ BK310.out) | (go_at_call 51; (with_reducible refine (impl_System_times.calls a0_0 _ _ l0_1 _ _ l0_2 _ _ l0_3 x5_3 1 t318 _ (kc_ HR0_1.out HB.out) HC0_1.out (kc_ HR0_2.out HB.out) HC0_2.out (kc_ HR0_3.out HB.out) HC0_3.out A36.out).mono ?_); rintro e w70 ⟨rfl, hb⟩; replace BK310 := sd_ (bb_ BK310.out hb); replace HB := sd_ (below_step (bw1_ HB.out GE310.out) hb); (try clear hb); obtain ⟨hcz71_0, hcz71_1, hcz71_2, hcz71_3, hfz71_0, hfz71_1, hfz71_2, hfz71_3⟩ := bf4_ BK310.out) | (go_at_call 51; (with_reducible refine (impl_System_times.calls a0_0 _ _ l0_1 _ _ l0_2 _ _ l0_3 0 x5_3 t319 _ (kc_ HR0_1.out HB.out) HC0_1.out (kc_ HR0_2.out HB.out) HC0_2.out (kc_ HR0_3.out HB.out) HC0_3.out A38.out).mono ?_); rintro e w72 ⟨rfl, hb⟩; replace BK310 := sd_ (bb_ BK310.out hb); replace HB := sd_ (below_step (bw1_ HB.out GE310.out) hb); (try clear hb)))
            go_meet
            case rel => exact ⟨_, (true), sm_, H', ⟨by have := HJ1.out; have := HK2.out; have := HK3.out; first | omega | exact Nat.le_refl _⟩, ⟨by exact bz_ BK310.out⟩, ⟨bw1_ HB.out GE310.out⟩⟩
           rw [if_neg c37] at H
           have c37b0 : (t318 == x5_3) = false := beq_eq_false_iff_ne.mpr c37
           have c37b1 : (t318 != x5_3) = true := bne_iff_ne.mpr c37
           have H' := sd_ H
           clear H
           obtain ⟨hcz73_0, hcz73_1, hcz73_2, hcz73_3, hfz73_0, hfz73_1, hfz73_2, hfz73_3⟩ := bf4_ BK310.out
           go_wp2_with (first | ((with_reducible refine gate_callee (f := 49) rfl ?_); refine goesL_ (some 72) rfl rfl Try.func49 (by kernel_rfl) rfl #[.agg #[.int .i64 a0_0, .slice A0_1 l0_1.length c0_1, .slice A0_2 l0_2.length c0_2, .slice A0_3 l0_3.length c0_3], .int .i64 0, .int .i64 x5_3] rfl la_ ?_; (with_reducible refine (impl_System_plus.calls a0_0 _ _ l0_1 _ _ l0_2 _ _ l0_3 0 x5_3 t316 _ (kc_ HR0_1.out HB.out) HC0_1.out (kc_ HR0_2.out HB.out) HC0_2.out (kc_ HR0_3.out HB.out) HC0_3.out A32.out).mono ?_); rintro e w74 ⟨rfl, hb⟩; refine ⟨_, rfl, ?_⟩; replace BK310 := sd_ (bb_ BK310.out hb); replace HB := sd_ (below_step (bw1_ HB.out GE310.out) hb); (try clear hb); obtain ⟨hcz75_0, hcz75_1, hcz75_2, hcz75_3, hfz75_0, hfz75_1, hfz75_2, hfz75_3⟩ := bf4_ BK310.out) | (go_at_call 51; (with_reducible refine (impl_System_times.calls a0_0 _ _ l0_1 _ _ l0_2 _ _ l0_3 1 x5_3 t317 _ (kc_ HR0_1.out HB.out) HC0_1.out (kc_ HR0_2.out HB.out) HC0_2.out (kc_ HR0_3.out HB.out) HC0_3.out A34.out).mono ?_); rintro e w76 ⟨rfl, hb⟩; replace BK310 := sd_ (bb_ BK310.out hb); replace HB := sd_ (below_step (bw1_ HB.out GE310.out) hb); (try clear hb); obtain ⟨hcz77_0, hcz77_1, hcz77_2, hcz77_3, hfz77_0, hfz77_1, hfz77_2, hfz77_3⟩ := bf4_ BK310.out) | (go_at_call 51; (with_reducible refine (impl_System_times.calls a0_0 _ _ l0_1 _ _ l0_2 _ _ l0_3 x5_3 1 t318 _ (kc_ HR0_1.out HB.out) HC0_1.out (kc_ HR0_2.out HB.out) HC0_2.out (kc_ HR0_3.out HB.out) HC0_3.out A36.out).mono ?_); rintro e w78 ⟨rfl, hb⟩; replace BK310 := sd_ (bb_ BK310.out hb); replace HB := sd_ (below_step (bw1_ HB.out GE310.out) hb); (try clear hb)))
           go_meet
           case rel => exact ⟨_, (true), sm_, H', ⟨by have := HJ1.out; have := HK2.out; have := HK3.out; first | omega | exact Nat.le_refl _⟩, ⟨by exact bz_ BK310.out⟩, ⟨bw1_ HB.out GE310.out⟩⟩
          rw [if_neg c35] at H
          have c35b0 : (t317 == x5_3) = false := beq_eq_false_iff_ne.mpr c35
          have c35b1 : (t317 != x5_3) = true := bne_iff_ne.mpr c35
          have H' := sd_ H
          clear H
          obtain ⟨hcz79_0, hcz79_1, hcz79_2, hcz79_3, hfz79_0, hfz79_1, hfz79_2, hfz79_3⟩ := bf4_ BK310.out
          go_wp2_with (first | ((with_reducible refine gate_callee (f := 49) rfl ?_); refine goesL_ (some 72) rfl rfl Try.func49 (by kernel_rfl) rfl #[.agg #[.int .i64 a0_0, .slice A0_1 l0_1.length c0_1, .slice A0_2 l0_2.length c0_2, .slice A0_3 l0_3.length c0_3], .int .i64 0, .int .i64 x5_3] rfl la_ ?_; (with_reducible refine (impl_System_plus.calls a0_0 _ _ l0_1 _ _ l0_2 _ _ l0_3 0 x5_3 t316 _ (kc_ HR0_1.out HB.out) HC0_1.out (kc_ HR0_2.out HB.out) HC0_2.out (kc_ HR0_3.out HB.out) HC0_3.out A32.out).mono ?_); rintro e w80 ⟨rfl, hb⟩; refine ⟨_, rfl, ?_⟩; replace BK310 := sd_ (bb_ BK310.out hb); replace HB := sd_ (below_step (bw1_ HB.out GE310.out) hb); (try clear hb); obtain ⟨hcz81_0, hcz81_1, hcz81_2, hcz81_3, hfz81_0, hfz81_1, hfz81_2, hfz81_3⟩ := bf4_ BK310.out) | (go_at_call 51; (with_reducible refine (impl_System_times.calls a0_0 _ _ l0_1 _ _ l0_2 _ _ l0_3 1 x5_3 t317 _ (kc_ HR0_1.out HB.out) HC0_1.out (kc_ HR0_2.out HB.out) HC0_2.out (kc_ HR0_3.out HB.out) HC0_3.out A34.out).mono ?_); rintro e w82 ⟨rfl, hb⟩; replace BK310 := sd_ (bb_ BK310.out hb); replace HB := sd_ (below_step (bw1_ HB.out GE310.out) hb); (try clear hb)))
          go_meet
          case rel => exact ⟨_, (true), sm_, H', ⟨by have := HJ1.out; have := HK2.out; have := HK3.out; first | omega | exact Nat.le_refl _⟩, ⟨by exact bz_ BK310.out⟩, ⟨bw1_ HB.out GE310.out⟩⟩
         rw [if_neg c33] at H
         have c33b0 : (t316 == x5_3) = false := beq_eq_false_iff_ne.mpr c33
         have c33b1 : (t316 != x5_3) = true := bne_iff_ne.mpr c33
         (first | rw [c33b0] | (simp only [i64_w, i32_w]; rw [c33b0]) | skip)
         have H' := sd_ H
         clear H
         obtain ⟨hcz83_0, hcz83_1, hcz83_2, hcz83_3, hfz83_0, hfz83_1, hfz83_2, hfz83_3⟩ := bf4_ BK310.out
         go_wp2_with (first | ((with_reducible refine gate_callee (f := 49) rfl ?_); refine goesL_ (some 72) rfl rfl Try.func49 (by kernel_rfl) rfl #[.agg #[.int .i64 a0_0, .slice A0_1 l0_1.length c0_1, .slice A0_2 l0_2.length c0_2, .slice A0_3 l0_3.length c0_3], .int .i64 0, .int .i64 x5_3] rfl la_ ?_; (with_reducible refine (impl_System_plus.calls a0_0 _ _ l0_1 _ _ l0_2 _ _ l0_3 0 x5_3 t316 _ (kc_ HR0_1.out HB.out) HC0_1.out (kc_ HR0_2.out HB.out) HC0_2.out (kc_ HR0_3.out HB.out) HC0_3.out A32.out).mono ?_); rintro e w84 ⟨rfl, hb⟩; refine ⟨_, rfl, ?_⟩; replace BK310 := sd_ (bb_ BK310.out hb); replace HB := sd_ (below_step (bw1_ HB.out GE310.out) hb); (try clear hb)))
         go_meet
         case rel => exact ⟨_, (true), sm_, H', ⟨by have := HJ1.out; have := HK2.out; have := HK3.out; first | omega | exact Nat.le_refl _⟩, ⟨by exact bz_ BK310.out⟩, ⟨bw1_ HB.out GE310.out⟩⟩
        case rest =>
         clear HC31
         try clear c1
         try clear p2
         try clear c3
         try clear p6
         try clear c7
         try clear c12
         try clear c14
         try clear c14b0
         try clear c30
         try clear c30b0
         try clear p64
         try clear c77
         try clear hcz13_0
         try clear hcz13_1
         try clear hcz13_2
         try clear hcz13_3
         try clear hcz4_0
         try clear hcz4_1
         try clear hcz4_2
         try clear hcz4_3
         try clear hfz13_0
         try clear hfz13_1
         try clear hfz13_2
         try clear hfz13_3
         try clear hfz4_0
         try clear hfz4_1
         try clear hfz4_2
         try clear hfz4_3
         try clear p2
         try clear p6
         obtain ⟨kq, x107_30, rfl, HA, HJ30, BK310, HB⟩ := hcut
         cases kq with
         | zero => exact absurd HA.out (by simp [impl_IsSystem.j3])
         | succ kj30 =>
          have H := HA.out
          clear HA
          simp only [impl_IsSystem.j3] at H
          by_cases c85 : x107_30 = true
          ·subst c85
           have H1 : (some false) = some r := by rw [if_pos rfl] at H; exact H
           clear H
           have H := H1
           clear H1
           obtain rfl := Option.some.inj H
           go_wp2
           go_ret
           exact ⟨an_, bw1_ HB.out GE310.out⟩
          replace c85 := Bool.eq_false_iff.mpr c85
          subst c85
          have H1 : (impl_IsSystem.l2 kj30 a0_0 x5_3 0 a0_0 l0_1 l0_2 l0_3) = some r := by rw [if_neg (show ¬ (false = true) by decide)] at H; exact H
          clear H
          have H := H1
          clear H1
          have H' := sd_ H
          clear H
          go_wp2
          go_loopg [6] kj30 (fun kq v6 w' => ∃ (x6_5 : Int), v6 = .int .i64 x6_5 ∧ Aside0 (impl_IsSystem.l2 kq a0_0 x5_3 x6_5 a0_0 l0_1 l0_2 l0_3 = some r) ∧ Aside0 (kq ≤ kj30) ∧ Aside0 (w'.heap[gb310]? = some (.cells #[.int .i64 a0_0, (.slice A0_1 l0_1.length c0_1), (.slice A0_2 l0_2.length c0_2), (.slice A0_3 l0_3.length c0_3)] 27 (0, 0))) ∧ Aside0 (Below w.heap.size w w'))
          case atStart => exact ⟨(0), sm_, H', ⟨Nat.le_refl _⟩, ⟨by exact bz_ BK310.out⟩, ⟨bw1_ HB.out GE310.out⟩⟩
          case round =>
           clear H'
           try clear c1
           try clear p2
           try clear c3
           try clear p6
           try clear c7
           try clear c8
           try clear c12
           try clear c14
           try clear c14b0
           try clear c30
           try clear c30b0
           try clear p64
           try clear c77
           try clear c85
           try clear hcz13_0
           try clear hcz13_1
           try clear hcz13_2
           try clear hcz13_3
           try clear hcz4_0
           try clear hcz4_1
           try clear hcz4_2
           try clear hcz4_3
           try clear hfz13_0
           try clear hfz13_1
           try clear hfz13_2
           try clear hfz13_3
           try clear hfz4_0
           try clear hfz4_1
           try clear hfz4_2
           try clear hfz4_3
           try clear p2
           try clear p6
           try clear p64
           obtain ⟨x6_5, rfl, HA, HK5, BK310, HB⟩ := hrel
           cases gk with
           | zero => exact absurd HA.out (by simp [impl_IsSystem.l2])
           | succ k5 =>
            have H := HA.out
            clear HA
            simp only [impl_IsSystem.l2] at H
            by_cases c86 : x6_5 < a0_0
            ·rw [if_pos c86] at H
             have c86b0 : decide (x6_5 < a0_0) = true := decide_eq_true c86
             clear c86
             have HC87 := sd_ H
             clear H
             go_upto_region 18 with (fail)
             go_cut [145] (fun v145 wc => ∃ (kq : Nat) (x145_86 : Bool), v145 = .bool x145_86 ∧ Aside0 (impl_IsSystem.j5 kq a0_0 x5_3 x6_5 x145_86 a0_0 l0_1 l0_2 l0_3 = some r) ∧ Aside0 (kq ≤ k5) ∧ Aside0 (wc.heap[gb310]? = some (.cells #[.int .i64 a0_0, (.slice A0_1 l0_1.length c0_1), (.slice A0_2 l0_2.length c0_2), (.slice A0_3 l0_3.length c0_3)] 27 (0, 0))) ∧ Aside0 (Below w.heap.size w wc))
             case first =>
              have H := HC87.out
              clear HC87
              replace H := Option.bind_eq_some_iff.mp H
              obtain ⟨t322, A880, H⟩ := H
              try dsimp only at H
              have A88 := sd_ A880
              clear A880
              replace H := Option.bind_eq_some_iff.mp H
              obtain ⟨t323, A890, H⟩ := H
              try dsimp only at H
              have A89 := sd_ A890
              clear A890
              by_cases c90 : t322 = t323
              ·rw [if_pos c90] at H
               have c90b0 : (t322 == t323) = true := beq_iff_eq.mpr c90
               have c90b1 : (t322 != t323) = false := bne_eq_false_iff_eq.mpr c90
               clear c90
               (first | rw [c90b0] | (simp only [i64_w, i32_w]; rw [c90b0]) | skip)
               by_cases c91 : x5_3 = x6_5
               ·rw [if_pos c91] at H
                have c91b0 : (x5_3 == x6_5) = true := beq_iff_eq.mpr c91
                have c91b1 : (x5_3 != x6_5) = false := bne_eq_false_iff_eq.mpr c91
                clear c91
                replace H := Option.bind_eq_some_iff.mp H
                obtain ⟨t324, A920, H⟩ := H
                try dsimp only at H
                have A92 := sd_ A920
                clear A920
                have H' := sd_ H
                clear H
                try go_wp2
                refine qb_region (by kernel_rfl) (by kernel_rfl) ?_
                have HQ := fun (wq : World) (hq : Below wr.heap.size wr wq) => below_step HB.out hq
                repeat ((first | (apply qb_skip; (focus rfl)) | (refine qb_callN 116 rfl ?_; apply qb_call 116 rfl Try.func49 (by kernel_rfl) rfl rfl; (focus rfl); (focus (exact fun wq9 hb9 => qb_b hb9 (impl_System_plus.calls a0_0 _ _ l0_1 _ _ l0_2 _ _ l0_3 x5_3 x6_5 t322 _ (Kd.C_below HR0_1.out (HQ _ hb9)) HC0_1.out (Kd.C_below HR0_2.out (HQ _ hb9)) HC0_2.out (Kd.C_below HR0_3.out (HQ _ hb9)) HC0_3.out A88.out))); (focus (rfl))) | (refine qb_callN 120 rfl ?_; apply qb_call 120 rfl Try.func49 (by kernel_rfl) rfl rfl; (focus rfl); (focus (exact fun wq9 hb9 => qb_b hb9 (impl_System_plus.calls a0_0 _ _ l0_1 _ _ l0_2 _ _ l0_3 x6_5 x5_3 t323 _ (Kd.C_below HR0_1.out (HQ _ hb9)) HC0_1.out (Kd.C_below HR0_2.out (HQ _ hb9)) HC0_2.out (Kd.C_below HR0_3.out (HQ _ hb9)) HC0_3.out A89.out))); (focus (rfl))) | (refine qb_callN 143 rfl ?_; apply qb_call 143 rfl Try.func106 (by kernel_rfl) rfl rfl; (focus rfl); (focus (exact fun wq9 hb9 => qb_b hb9 (impl_System_join.calls k5 a0_0 _ _ l0_1 _ _ l0_2 _ _ l0_3 x5_3 x6_5 t324 _ (Kd.C_below HR0_1.out (HQ _ hb9)) HC0_1.out (Kd.C_below HR0_2.out (HQ _ hb9)) HC0_2.out (Kd.C_below HR0_3.out (HQ _ hb9)) HC0_3.out A92.out))); (focus (rfl))) | (apply qb_val; (focus rfl); (focus (intro wq9 _; go_simp; with_reducible rfl))) | (apply qb_val; (focus rfl); (focus (intro wq9 hb9_; have hb9 : Below wr.heap.size wr wq9 := hb9_; have BK310 := sd_ (blk_below BK310.out hb9); have hc9_310_0 : wq9.cell? ⟨gb310, 0, none⟩ = some (.int .i64 a0_0) := (blk_cell BK310.out 0).trans rfl; have hc9_310_1 : wq9.cell? ⟨gb310, 1, none⟩ = some (.slice A0_1 l0_1.length c0_1) := (blk_cell BK310.out 1).trans rfl; have hc9_310_2 : wq9.cell? ⟨gb310, 2, none⟩ = some (.slice A0_2 l0_2.length c0_2) := (blk_cell BK310.out 2).trans rfl; have hc9_310_3 : wq9.cell? ⟨gb310, 3, none⟩ = some (.slice A0_3 l0_3.length c0_3) := (blk_cell BK310.out 3).trans rfl; go_simp; with_reducible rfl)))); (focus (simp only [Act.put, List.setIfInBounds_toArray, List.set_cons_zero, List.set_cons_succ, i64_w, i32_w]; rfl)))
                refine qb_nil ?_
                intro w96 hb
                replace BK310 := sd_ (blk_below BK310.out hb)
                replace HB := sd_ (below_step HB.out hb)
                clear hb
                (try clear HQ)
                try go_wp2
                go_meet
                case rel => exact ⟨_, (decide (t324 < 0)), sm_, H', ⟨by have := HJ1.out; have := HK2.out; have := HK3.out; have := HJ30.out; have := HK5.out; first | omega | exact Nat.le_refl _⟩, ⟨by exact bz_ BK310.out⟩, ⟨bw1_ HB.out GE310.out⟩⟩
               rw [if_neg c91] at H
               have c91b0 : (x5_3 == x6_5) = false := beq_eq_false_iff_ne.mpr c91
               have c91b1 : (x5_3 != x6_5) = true := bne_iff_ne.mpr c91
               replace H := Option.bind_eq_some_iff.mp H
               obtain ⟨t325, A970, H⟩ := H
               try dsimp only at H
               have A97 := sd_ A970
               clear A970
               by_cases c98 : t325 = true
               ·subst c98
                have H1 : ((impl_System_below.f a0_0 l0_1 l0_2 l0_3 x6_5 x5_3).bind fun t326 => (if t326 = true then (impl_IsSystem.j5 k5 a0_0 x5_3 x6_5 true a0_0 l0_1 l0_2 l0_3) else ((impl_System_join.f k5 a0_0 l0_1 l0_2 l0_3 x5_3 x6_5).bind fun t327 => (impl_IsSystem.j5 k5 a0_0 x5_3 x6_5 (decide (t327 < 0)) a0_0 l0_1 l0_2 l0_3)))) = some r := by rw [if_pos rfl] at H; exact H
                clear H
                have H := H1
                clear H1
                replace H := Option.bind_eq_some_iff.mp H
                obtain ⟨t326, A990, H⟩ := H
                try dsimp only at H
                have A99 := sd_ A990
                clear A990
                by_cases c100 : t326 = true
                ·subst c100
                 have H1 : (impl_IsSystem.j5 k5 a0_0 x5_3 x6_5 true a0_0 l0_1 l0_2 l0_3) = some r := by rw [if_pos rfl] at H; exact H
                 clear H
                 have H := H1
                 clear H1
                 have H' := sd_ H
                 clear H
                 try go_wp2
                 refine qb_region (by kernel_rfl) (by kernel_rfl) ?_
                 have HQ := fun (wq : World) (hq : Below wr.heap.size wr wq) => below_step HB.out hq
                 repeat ((first | (apply qb_skip; (focus rfl)) | (refine qb_callN 116 rfl ?_; apply qb_call 116 rfl Try.func49 (by kernel_rfl) rfl rfl; (focus rfl); (focus (exact fun wq9 hb9 => qb_b hb9 (impl_System_plus.calls a0_0 _ _ l0_1 _ _ l0_2 _ _ l0_3 x5_3 x6_5 t322 _ (Kd.C_below HR0_1.out (HQ _ hb9)) HC0_1.out (Kd.C_below HR0_2.out (HQ _ hb9)) HC0_2.out (Kd.C_below HR0_3.out (HQ _ hb9)) HC0_3.out A88.out))); (focus (rfl))) | (refine qb_callN 120 rfl ?_; apply qb_call 120 rfl Try.func49 (by kernel_rfl) rfl rfl; (focus rfl); (focus (exact fun wq9 hb9 => qb_b hb9 (impl_System_plus.calls a0_0 _ _ l0_1 _ _ l0_2 _ _ l0_3 x6_5 x5_3 t323 _ (Kd.C_below HR0_1.out (HQ _ hb9)) HC0_1.out (Kd.C_below HR0_2.out (HQ _ hb9)) HC0_2.out (Kd.C_below HR0_3.out (HQ _ hb9)) HC0_3.out A89.out))); (focus (rfl))) | (refine qb_callN 130 rfl ?_; apply qb_call 130 rfl Try.func53 (by kernel_rfl) rfl rfl; (focus rfl); (focus (exact fun wq9 hb9 => qb_b hb9 (impl_System_below.calls a0_0 _ _ l0_1 _ _ l0_2 _ _ l0_3 x5_3 x6_5 true _ (Kd.C_below HR0_1.out (HQ _ hb9)) HC0_1.out (Kd.C_below HR0_2.out (HQ _ hb9)) HC0_2.out (Kd.C_below HR0_3.out (HQ _ hb9)) HC0_3.out A97.out))); (focus (rfl))) | (refine qb_callN 136 rfl ?_; apply qb_call 136 rfl Try.func53 (by kernel_rfl) rfl rfl; (focus rfl); (focus (exact fun wq9 hb9 => qb_b hb9 (impl_System_below.calls a0_0 _ _ l0_1 _ _ l0_2 _ _ l0_3 x6_5 x5_3 true _ (Kd.C_below HR0_1.out (HQ _ hb9)) HC0_1.out (Kd.C_below HR0_2.out (HQ _ hb9)) HC0_2.out (Kd.C_below HR0_3.out (HQ _ hb9)) HC0_3.out A99.out))); (focus (rfl))) | (apply qb_val; (focus rfl); (focus (intro wq9 _; go_simp; with_reducible rfl))) | (apply qb_val; (focus rfl); (focus (intro wq9 hb9_; have hb9 : Below wr.heap.size wr wq9 := hb9_; have BK310 := sd_ (blk_below BK310.out hb9); have hc9_310_0 : wq9.cell? ⟨gb310, 0, none⟩ = some (.int .i64 a0_0) := (blk_cell BK310.out 0).trans rfl; have hc9_310_1 : wq9.cell? ⟨gb310, 1, none⟩ = some (.slice A0_1 l0_1.length c0_1) := (blk_cell BK310.out 1).trans rfl; have hc9_310_2 : wq9.cell? ⟨gb310, 2, none⟩ = some (.slice A0_2 l0_2.length c0_2) := (blk_cell BK310.out 2).trans rfl; have hc9_310_3 : wq9.cell? ⟨gb310, 3, none⟩ = some (.slice A0_3 l0_3.length c0_3) := (blk_cell BK310.out 3).trans rfl; go_simp; with_reducible rfl)))); (focus (simp only [Act.put, List.setIfInBounds_toArray, List.set_cons_zero, List.set_cons_succ, i64_w, i32_w]; rfl)))
                 refine qb_nil ?_
                 intro w105 hb
                 replace BK310 := sd_ (blk_below BK310.out hb)
                 replace HB := sd_ (below_step HB.out hb)
                 clear hb
                 (try clear HQ)
                 try go_wp2
                 go_meet
                 case rel => exact ⟨_, (true), sm_, H', ⟨by have := HJ1.out; have := HK2.out; have := HK3.out; have := HJ30.out; have := HK5.out; first | omega | exact Nat.le_refl _⟩, ⟨by exact bz_ BK310.out⟩, ⟨bw1_ HB.out GE310.out⟩⟩
                replace c100 := Bool.eq_false_iff.mpr c100
                subst c100
                have H1 : ((impl_System_join.f k5 a0_0 l0_1 l0_2 l0_3 x5_3 x6_5).bind fun t327 => (impl_IsSystem.j5 k5 a0_0 x5_3 x6_5 (decide (t327 < 0)) a0_0 l0_1 l0_2 l0_3)) = some r := by rw [if_neg (show ¬ (false = true) by decide)] at H; exact H
                clear H
                have H := H1
                clear H1
                replace H := Option.bind_eq_some_iff.mp H
                obtain ⟨t327, A1060, H⟩ := H
                try dsimp only at H
                have A106 := sd_ A1060
                clear A1060
                have H' := sd_ H
                clear H
                try go_wp2
                refine qb_region (by kernel_rfl) (by kernel_rfl) ?_
                have HQ := fun (wq : World) (hq : Below wr.heap.size wr wq) => below_step HB.out hq
                repeat ((first | (apply qb_skip; (focus rfl)) | (refine qb_callN 116 rfl ?_; apply qb_call 116 rfl Try.func49 (by kernel_rfl) rfl rfl; (focus rfl); (focus (exact fun wq9 hb9 => qb_b hb9 (impl_System_plus.calls a0_0 _ _ l0_1 _ _ l0_2 _ _ l0_3 x5_3 x6_5 t322 _ (Kd.C_below HR0_1.out (HQ _ hb9)) HC0_1.out (Kd.C_below HR0_2.out (HQ _ hb9)) HC0_2.out (Kd.C_below HR0_3.out (HQ _ hb9)) HC0_3.out A88.out))); (focus (rfl))) | (refine qb_callN 120 rfl ?_; apply qb_call 120 rfl Try.func49 (by kernel_rfl) rfl rfl; (focus rfl); (focus (exact fun wq9 hb9 => qb_b hb9 (impl_System_plus.calls a0_0 _ _ l0_1 _ _ l0_2 _ _ l0_3 x6_5 x5_3 t323 _ (Kd.C_below HR0_1.out (HQ _ hb9)) HC0_1.out (Kd.C_below HR0_2.out (HQ _ hb9)) HC0_2.out (Kd.C_below HR0_3.out (HQ _ hb9)) HC0_3.out A89.out))); (focus (rfl))) | (refine qb_callN 130 rfl ?_; apply qb_call 130 rfl Try.func53 (by kernel_rfl) rfl rfl; (focus rfl); (focus (exact fun wq9 hb9 => qb_b hb9 (impl_System_below.calls a0_0 _ _ l0_1 _ _ l0_2 _ _ l0_3 x5_3 x6_5 true _ (Kd.C_below HR0_1.out (HQ _ hb9)) HC0_1.out (Kd.C_below HR0_2.out (HQ _ hb9)) HC0_2.out (Kd.C_below HR0_3.out (HQ _ hb9)) HC0_3.out A97.out))); (focus (rfl))) | (refine qb_callN 136 rfl ?_; apply qb_call 136 rfl Try.func53 (by kernel_rfl) rfl rfl; (focus rfl); (focus (exact fun wq9 hb9 => qb_b hb9 (impl_System_below.calls a0_0 _ _ l0_1 _ _ l0_2 _ _ l0_3 x6_5 x5_3 false _ (Kd.C_below HR0_1.out (HQ _ hb9)) HC0_1.out (Kd.C_below HR0_2.out (HQ _ hb9)) HC0_2.out (Kd.C_below HR0_3.out (HQ _ hb9)) HC0_3.out A99.out))); (focus (rfl))) | (refine qb_callN 143 rfl ?_; apply qb_call 143 rfl Try.func106 (by kernel_rfl) rfl rfl; (focus rfl); (focus (exact fun wq9 hb9 => qb_b hb9 (impl_System_join.calls k5 a0_0 _ _ l0_1 _ _ l0_2 _ _ l0_3 x5_3 x6_5 t327 _ (Kd.C_below HR0_1.out (HQ _ hb9)) HC0_1.out (Kd.C_below HR0_2.out (HQ _ hb9)) HC0_2.out (Kd.C_below HR0_3.out (HQ _ hb9)) HC0_3.out A106.out))); (focus (rfl))) | (apply qb_val; (focus rfl); (focus (intro wq9 _; go_simp; with_reducible rfl))) | (apply qb_val; (focus rfl); (focus (intro wq9 hb9_; have hb9 : Below wr.heap.size wr wq9 := hb9_; have BK310 := sd_ (blk_below BK310.out hb9); have hc9_310_0 : wq9.cell? ⟨gb310, 0, none⟩ = some (.int .i64 a0_0) := (blk_cell BK310.out 0).trans rfl; have hc9_310_1 : wq9.cell? ⟨gb310, 1, none⟩ = some (.slice A0_1 l0_1.length c0_1) := (blk_cell BK310.out 1).trans rfl; have hc9_310_2 : wq9.cell? ⟨gb310, 2, none⟩ = some (.slice A0_2 l0_2.length c0_2) := (blk_cell BK310.out 2).trans rfl; have hc9_310_3 : wq9.cell? ⟨gb310, 3, none⟩ = some (.slice A0_3 l0_3.length c0_3) := (blk_cell BK310.out 3).trans rfl; go_simp; with_reducible rfl)))); (focus (simp only [Act.put, List.setIfInBounds_toArray, List.set_cons_zero, List.set_cons_succ, i64_w, i32_w]; rfl)))
                refine qb_nil ?_
                intro w112 hb
                replace BK310 := sd_ (blk_below BK310.out hb)
                replace HB := sd_ (below_step HB.out hb)
                clear hb
                (try clear HQ)
                try go_wp2
                go_meet
                case rel => exact ⟨_, (decide (t327 < 0)), sm_, H', ⟨by have := HJ1.out; have := HK2.out; have := HK3.out; have := HJ30.out; have := HK5.out; first | omega | exact Nat.le_refl _⟩, ⟨by exact bz_ BK310.out⟩, ⟨bw1_ HB.out GE310.out⟩⟩
               replace c98 := Bool.eq_false_iff.mpr c98
               subst c98
               have H1 : ((impl_System_join.f k5 a0_0 l0_1 l0_2 l0_3 x5_3 x6_5).bind fun t328 => (impl_IsSystem.j5 k5 a0_0 x5_3 x6_5 (decide (t328 < 0)) a0_0 l0_1 l0_2 l0_3)) = some r := by rw [if_neg (show ¬ (false = true) by decide)] at H; exact H
               clear H
               have H := H1
               clear H1
               replace H := Option.bind_eq_some_iff.mp H
               obtain ⟨t328, A1130, H⟩ := H
               try dsimp only at H
               have A113 := sd_ A1130
               clear A1130
               have H' := sd_ H
               clear H
               try go_wp2
               refine qb_region (by kernel_rfl) (by kernel_rfl) ?_
               have HQ := fun (wq : World) (hq : Below wr.heap.size wr wq) => below_step HB.out hq
               repeat ((first | (apply qb_skip; (focus rfl)) | (refine qb_callN 116 rfl ?_; apply qb_call 116 rfl Try.func49 (by kernel_rfl) rfl rfl; (focus rfl); (focus (exact fun wq9 hb9 => qb_b hb9 (impl_System_plus.calls a0_0 _ _ l0_1 _ _ l0_2 _ _ l0_3 x5_3 x6_5 t322 _ (Kd.C_below HR0_1.out (HQ _ hb9)) HC0_1.out (Kd.C_below HR0_2.out (HQ _ hb9)) HC0_2.out (Kd.C_below HR0_3.out (HQ _ hb9)) HC0_3.out A88.out))); (focus (rfl))) | (refine qb_callN 120 rfl ?_; apply qb_call 120 rfl Try.func49 (by kernel_rfl) rfl rfl; (focus rfl); (focus (exact fun wq9 hb9 => qb_b hb9 (impl_System_plus.calls a0_0 _ _ l0_1 _ _ l0_2 _ _ l0_3 x6_5 x5_3 t323 _ (Kd.C_below HR0_1.out (HQ _ hb9)) HC0_1.out (Kd.C_below HR0_2.out (HQ _ hb9)) HC0_2.out (Kd.C_below HR0_3.out (HQ _ hb9)) HC0_3.out A89.out))); (focus (rfl))) | (refine qb_callN 130 rfl ?_; apply qb_call 130 rfl Try.func53 (by kernel_rfl) rfl rfl; (focus rfl); (focus (exact fun wq9 hb9 => qb_b hb9 (impl_System_below.calls a0_0 _ _ l0_1 _ _ l0_2 _ _ l0_3 x5_3 x6_5 false _ (Kd.C_below HR0_1.out (HQ _ hb9)) HC0_1.out (Kd.C_below HR0_2.out (HQ _ hb9)) HC0_2.out (Kd.C_below HR0_3.out (HQ _ hb9)) HC0_3.out A97.out))); (focus (rfl))) | (refine qb_callN 143 rfl ?_; apply qb_call 143 rfl Try.func106 (by kernel_rfl) rfl rfl; (focus rfl); (focus (exact fun wq9 hb9 => qb_b hb9 (impl_System_join.calls k5 a0_0 _ _ l0_1 _ _ l0_2 _ _ l0_3 x5_3 x6_5 t328 _ (Kd.C_below HR0_1.out (HQ _ hb9)) HC0_1.out (Kd.C_below HR0_2.out (HQ _ hb9)) HC0_2.out (Kd.C_below HR0_3.out (HQ _ hb9)) HC0_3.out A113.out))); (focus (rfl))) | (apply qb_val; (focus rfl); (focus (intro wq9 _; go_simp; with_reducible rfl))) | (apply qb_val; (focus rfl); (focus (intro wq9 hb9_; have hb9 : Below wr.heap.size wr wq9 := hb9_; have BK310 := sd_ (blk_below BK310.out hb9); have hc9_310_0 : wq9.cell? ⟨gb310, 0, none⟩ = some (.int .i64 a0_0) := (blk_cell BK310.out 0).trans rfl; have hc9_310_1 : wq9.cell? ⟨gb310, 1, none⟩ = some (.slice A0_1 l0_1.length c0_1) := (blk_cell BK310.out 1).trans rfl; have hc9_310_2 : wq9.cell? ⟨gb310, 2, none⟩ = some (.slice A0_2 l0_2.length c0_2) := (blk_cell BK310.out 2).trans rfl; have hc9_310_3 : wq9.cell? ⟨gb310, 3, none⟩ = some (.slice A0_3 l0_3.length c0_3) := (blk_cell BK310.out 3).trans rfl; go_simp; with_reducible rfl)))); (focus (simp only [Act.put, List.setIfInBounds_toArray, List.set_cons_zero, List.set_cons_succ, i64_w, i32_w]; rfl)))
               refine qb_nil ?_
               intro w118 hb
               replace BK310 := sd_ (blk_below BK310.out hb)
               replace HB := sd_ (below_step HB.out hb)
               clear hb
               (try clear HQ)
               try go_wp2
               go_meet
               case rel => exact ⟨_, (decide (t328 < 0)), sm_, H', ⟨by have := HJ1.out; have := HK2.out; have := HK3.out; have := HJ30.out; have := HK5.out; first | omega | exact Nat.le_refl _⟩, ⟨by exact bz_ BK310.out⟩, ⟨bw1_ HB.out GE310.out⟩⟩
              rw [if_neg c90] at H
              have c90b0 : (t322 == t323) = false := beq_eq_false_iff_ne.mpr c90
              have c90b1 : (t322 != t323) = true := bne_iff_ne.mpr c90
              (first | rw [c90b0] | (simp only [i64_w, i32_w]; rw [c90b0]) | skip)
              have H' := sd_ H
              clear H
              try go_wp2
              refine qb_region (by kernel_rfl) (by kernel_rfl) ?_
              have HQ := fun (wq : World) (hq : Below wr.heap.size wr wq) => below_step HB.out hq
              repeat ((first | (apply qb_skip; (focus rfl)) | (refine qb_callN 116 rfl ?_; apply qb_call 116 rfl Try.func49 (by kernel_rfl) rfl rfl; (focus rfl); (focus (exact fun wq9 hb9 => qb_b hb9 (impl_System_plus.calls a0_0 _ _ l0_1 _ _ l0_2 _ _ l0_3 x5_3 x6_5 t322 _ (Kd.C_below HR0_1.out (HQ _ hb9)) HC0_1.out (Kd.C_below HR0_2.out (HQ _ hb9)) HC0_2.out (Kd.C_below HR0_3.out (HQ _ hb9)) HC0_3.out A88.out))); (focus (rfl))) | (refine qb_callN 120 rfl ?_; apply qb_call 120 rfl Try.func49 (by kernel_rfl) rfl rfl; (focus rfl); (focus (exact fun wq9 hb9 => qb_b hb9 (impl_System_plus.calls a0_0 _ _ l0_1 _ _ l0_2 _ _ l0_3 x6_5 x5_3 t323 _ (Kd.C_below HR0_1.out (HQ _ hb9)) HC0_1.out (Kd.C_below HR0_2.out (HQ _ hb9)) HC0_2.out (Kd.C_below HR0_3.out (HQ _ hb9)) HC0_3.out A89.out))); (focus (rfl))) | (apply qb_val; (focus rfl); (focus (intro wq9 _; go_simp; with_reducible rfl))) | (apply qb_val; (focus rfl); (focus (intro wq9 hb9_; have hb9 : Below wr.heap.size wr wq9 := hb9_; have BK310 := sd_ (blk_below BK310.out hb9); have hc9_310_0 : wq9.cell? ⟨gb310, 0, none⟩ = some (.int .i64 a0_0) := (blk_cell BK310.out 0).trans rfl; have hc9_310_1 : wq9.cell? ⟨gb310, 1, none⟩ = some (.slice A0_1 l0_1.length c0_1) := (blk_cell BK310.out 1).trans rfl; have hc9_310_2 : wq9.cell? ⟨gb310, 2, none⟩ = some (.slice A0_2 l0_2.length c0_2) := (blk_cell BK310.out 2).trans rfl; have hc9_310_3 : wq9.cell? ⟨gb310, 3, none⟩ = some (.slice A0_3 l0_3.length c0_3) := (blk_cell BK310.out 3).trans rfl; go_simp; with_reducible rfl)))); (focus (simp only [Act.put, List.setIfInBounds_toArray, List.set_cons_zero, List.set_cons_succ, i64_w, i32_w]; rfl)))
              refine qb_nil ?_
              intro w121 hb
              replace BK310 := sd_ (blk_below BK310.out hb)
              replace HB := sd_ (below_step HB.out hb)
              clear hb
              (try clear HQ)
              try go_wp2
              go_meet
              case rel => exact ⟨_, (true), sm_, H', ⟨by have := HJ1.out; have := HK2.out; have := HK3.out; have := HJ30.out; have := HK5.out; first | omega | exact Nat.le_refl _⟩, ⟨by exact bz_ BK310.out⟩, ⟨bw1_ HB.out GE310.out⟩⟩
             case rest =>
              clear HC87
              try clear c1
              try clear p2
              try clear c3
              try clear p6
              try clear c7
              try clear c8
              try clear c12
              try clear c14
              try clear c14b0
              try clear c30
              try clear c30b0
              try clear p64
              try clear c77
              try clear c85
              try clear c86
              try clear c86b0
              try clear hcz13_0
              try clear hcz13_1
              try clear hcz13_2
              try clear hcz13_3
              try clear hcz4_0
              try clear hcz4_1
              try clear hcz4_2
              try clear hcz4_3
              try clear hfz13_0
              try clear hfz13_1
              try clear hfz13_2
              try clear hfz13_3
              try clear hfz4_0
              try clear hfz4_1
              try clear hfz4_2
              try clear hfz4_3
              try clear p2
              try clear p6
              try clear p64
              obtain ⟨kq, x145_86, rfl, HA, HJ86, BK310, HB⟩ := hcut
              cases kq with
              | zero => exact absurd HA.out (by simp [impl_IsSystem.j5])
              | succ kj86 =>
               have H := HA.out
               clear HA
               simp only [impl_IsSystem.j5] at H
               by_cases c122 : x145_86 = true
               ·subst c122
                have H1 : (some false) = some r := by rw [if_pos rfl] at H; exact H
                clear H
                have H := H1
                clear H1
                obtain rfl := Option.some.inj H
                go_wp2
                go_ret
                exact ⟨an_, bw1_ HB.out GE310.out⟩
               replace c122 := Bool.eq_false_iff.mpr c122
               subst c122
               have H1 : (impl_IsSystem.l3 kj86 a0_0 x5_3 x6_5 0 a0_0 l0_1 l0_2 l0_3) = some r := by rw [if_neg (show ¬ (false = true) by decide)] at H; exact H
               clear H
               have H := H1
               clear H1
               have H' := sd_ H
               clear H
               go_wp2
               go_loopg [7] kj86 (fun kq v7 w' => ∃ (x7_7 : Int), v7 = .int .i64 x7_7 ∧ Aside0 (impl_IsSystem.l3 kq a0_0 x5_3 x6_5 x7_7 a0_0 l0_1 l0_2 l0_3 = some r) ∧ Aside0 (kq ≤ kj86) ∧ Aside0 (w'.heap[gb310]? = some (.cells #[.int .i64 a0_0, (.slice A0_1 l0_1.length c0_1), (.slice A0_2 l0_2.length c0_2), (.slice A0_3 l0_3.length c0_3)] 27 (0, 0))) ∧ Aside0 (Below w.heap.size w w'))
               case atStart => exact ⟨(0), sm_, H', ⟨Nat.le_refl _⟩, ⟨by exact bz_ BK310.out⟩, ⟨bw1_ HB.out GE310.out⟩⟩
               case round =>
                clear H'
                try clear c1
                try clear p2
                try clear c3
                try clear p6
                try clear c7
                try clear c8
                try clear c12
                try clear c14
                try clear c14b0
                try clear c30
                try clear c30b0
                try clear p64
                try clear c77
                try clear c85
                try clear c86
                try clear c86b0
                try clear c122
                try clear hcz13_0
                try clear hcz13_1
                try clear hcz13_2
                try clear hcz13_3
                try clear hcz4_0
                try clear hcz4_1
                try clear hcz4_2
                try clear hcz4_3
                try clear hfz13_0
                try clear hfz13_1
                try clear hfz13_2
                try clear hfz13_3
                try clear hfz4_0
                try clear hfz4_1
                try clear hfz4_2
                try clear hfz4_3
                try clear p2
                try clear p6
                try clear p64
                obtain ⟨x7_7, rfl, HA, HK7, BK310, HB⟩ := hrel
                cases gk with
                | zero => exact absurd HA.out (by simp [impl_IsSystem.l3])
                | succ k7 =>
                 have H := HA.out
                 clear HA
                 simp only [impl_IsSystem.l3] at H
                 by_cases c123 : x7_7 < a0_0
                 ·rw [if_pos c123] at H
                  have c123b0 : decide (x7_7 < a0_0) = true := decide_eq_true c123
                  clear c123
                  replace H := Option.bind_eq_some_iff.mp H
                  obtain ⟨t329, A1240, H⟩ := H
                  try dsimp only at H
                  have A124 := sd_ A1240
                  clear A1240
                  by_cases c125 : t329 = true
                  ·subst c125
                   have H1 : (impl_IsSystem.l3 k7 a0_0 x5_3 x6_5 (wrap64 (x7_7 + 1)) a0_0 l0_1 l0_2 l0_3) = some r := by rw [if_pos rfl] at H; exact H
                   clear H
                   have H := H1
                   clear H1
                   have H' := sd_ H
                   clear H
                   obtain ⟨hcz126_0, hcz126_1, hcz126_2, hcz126_3, hfz126_0, hfz126_1, hfz126_2, hfz126_3⟩ := bf4_ BK310.out
                   go_wp2_with (first | ((with_reducible refine gate_callee (f := 107) rfl ?_); refine goesL_ (some 155) rfl rfl Try.func107 (by kernel_rfl) rfl #[.agg #[.int .i64 a0_0, .slice A0_1 l0_1.length c0_1, .slice A0_2 l0_2.length c0_2, .slice A0_3 l0_3.length c0_3], .int .i64 x5_3, .int .i64 x6_5, .int .i64 x7_7] rfl la_ ?_; (with_reducible refine (impl_System_lawsOf.calls k7 a0_0 _ _ l0_1 _ _ l0_2 _ _ l0_3 x5_3 x6_5 x7_7 true _ (kc_ HR0_1.out HB.out) HC0_1.out (kc_ HR0_2.out HB.out) HC0_2.out (kc_ HR0_3.out HB.out) HC0_3.out A124.out).mono ?_); rintro e w127 ⟨rfl, hb⟩; refine ⟨_, rfl, ?_⟩; replace BK310 := sd_ (bb_ BK310.out hb); replace HB := sd_ (below_step (bw1_ HB.out GE310.out) hb); (try clear hb)))
                   go_roundg k7
                   case measure => have := HJ1.out; have := HK2.out; have := HK3.out; have := HJ30.out; have := HK5.out; have := HJ86.out; have := HK7.out; omega
                   case rel => exact ⟨(wrap64 (x7_7 + 1)), sm_, H', ⟨by have := HJ1.out; have := HK2.out; have := HK3.out; have := HJ30.out; have := HK5.out; have := HJ86.out; have := HK7.out; omega⟩, ⟨by exact bz_ BK310.out⟩, ⟨bw1_ HB.out GE310.out⟩⟩
                  replace c125 := Bool.eq_false_iff.mpr c125
                  subst c125
                  have H1 : (some false) = some r := by rw [if_neg (show ¬ (false = true) by decide)] at H; exact H
                  clear H
                  have H := H1
                  clear H1
                  obtain rfl := Option.some.inj H
                  obtain ⟨hcz128_0, hcz128_1, hcz128_2, hcz128_3, hfz128_0, hfz128_1, hfz128_2, hfz128_3⟩ := bf4_ BK310.out
                  go_wp2_with (first | ((with_reducible refine gate_callee (f := 107) rfl ?_); refine goesL_ (some 155) rfl rfl Try.func107 (by kernel_rfl) rfl #[.agg #[.int .i64 a0_0, .slice A0_1 l0_1.length c0_1, .slice A0_2 l0_2.length c0_2, .slice A0_3 l0_3.length c0_3], .int .i64 x5_3, .int .i64 x6_5, .int .i64 x7_7] rfl la_ ?_; (with_reducible refine (impl_System_lawsOf.calls k7 a0_0 _ _ l0_1 _ _ l0_2 _ _ l0_3 x5_3 x6_5 x7_7 false _ (kc_ HR0_1.out HB.out) HC0_1.out (kc_ HR0_2.out HB.out) HC0_2.out (kc_ HR0_3.out HB.out) HC0_3.out A124.out).mono ?_); rintro e w129 ⟨rfl, hb⟩; refine ⟨_, rfl, ?_⟩; replace BK310 := sd_ (bb_ BK310.out hb); replace HB := sd_ (below_step (bw1_ HB.out GE310.out) hb); (try clear hb)))
                  go_ret
                  exact ⟨an_, bw1_ HB.out GE310.out⟩
                 rw [if_neg c123] at H
                 have c123b0 : decide (x7_7 < a0_0) = false := decide_eq_false c123
                 clear c123
                 have H' := sd_ H
                 clear H
                 go_wp2
                 go_roundg k7
                 case measure => have := HJ1.out; have := HK2.out; have := HK3.out; have := HJ30.out; have := HK5.out; have := HJ86.out; have := HK7.out; omega
                 case rel => exact ⟨(wrap64 (x6_5 + 1)), sm_, H', ⟨by have := HJ1.out; have := HK2.out; have := HK3.out; have := HJ30.out; have := HK5.out; have := HJ86.out; have := HK7.out; omega⟩, ⟨by exact bz_ BK310.out⟩, ⟨bw1_ HB.out GE310.out⟩⟩
            rw [if_neg c86] at H
            have c86b0 : decide (x6_5 < a0_0) = false := decide_eq_false c86
            clear c86
            have H' := sd_ H
            clear H
            go_wp2
            go_roundg k5
            case measure => have := HJ1.out; have := HK2.out; have := HK3.out; have := HJ30.out; have := HK5.out; omega
            case rel => exact ⟨(wrap64 (x5_3 + 1)), sm_, H', ⟨by have := HJ1.out; have := HK2.out; have := HK3.out; have := HJ30.out; have := HK5.out; omega⟩, ⟨by exact bz_ BK310.out⟩, ⟨bw1_ HB.out GE310.out⟩⟩
       rw [if_neg c30] at H
       have c30b0 : decide (x5_3 < a0_0) = false := decide_eq_false c30
       clear c30
       obtain rfl := Option.some.inj H
       go_wp2
       go_ret
       exact ⟨an_, bw1_ HB.out GE310.out⟩

end Go.Proofs.Ytipfkicndjddgaa.P
