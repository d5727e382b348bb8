-- Several texts in one (wip/tools/merge.py).
import Derived.Test.YtcdmnofomoadlaaM1
import Derived.Test.YtcdmnofomoadlaaM4
import Derived.Test.YtcdmnofomoadlaaM5
section
namespace Go.Proofs.Ytcdmnofomoadlaa.P
open Go.RowKit Go.Proofs.YtcdmnofomoadlaaW.PrintWords Go.Proofs.YtcdmnofomoadlaaW.PrintLast Go.Proofs.YtcdmnofomoadlaaW.PrintMore
attribute [local go_sem] max2_int min2_int max_two min_two max_three min_three max_four min_four   -- for this text's walks alone
set_option linter.unusedVariables false
set_option linter.unusedSimpArgs false

/-! ### impl_System_join: function 73 -/
mutual
def impl_System_join.l0 : Nat → Int → Int → Int → Int → List Int → List Int → List Bool → Option (Int)
 | 0, _, _, _, _, _, _, _ => none
 | k + 1, x1, x2, x7, x170000, x170001, x170002, x170003 => if x7 < x170000 then ((impl_System_below.f x170000 x170001 x170002 x170003 x1 x7).bind fun t170 => (if t170 = true then ((impl_System_below.f x170000 x170001 x170002 x170003 x2 x7).bind fun t171 => (impl_System_join.j1 k x1 x2 x7 (!t171) x170000 x170001 x170002 x170003)) else (impl_System_join.j1 k x1 x2 x7 true x170000 x170001 x170002 x170003))) else (some (-1))
def impl_System_join.j1 : Nat → Int → Int → Int → Bool → Int → List Int → List Int → List Bool → Option (Int)
 | 0, _, _, _, _, _, _, _, _ => none
 | k + 1, x1, x2, x7, x27, x170000, x170001, x170002, x170003 => if x27 = true then (impl_System_join.l0 k x1 x2 (wrap64 (x7 + 1)) x170000 x170001 x170002 x170003) else (impl_System_join.l1 k x1 x2 x7 true 0 x170000 x170001 x170002 x170003)
def impl_System_join.l1 : Nat → Int → Int → Int → Bool → Int → Int → List Int → List Int → List Bool → Option (Int)
 | 0, _, _, _, _, _, _, _, _, _ => none
 | k + 1, x1, x2, x7, x8, x9, x170000, x170001, x170002, x170003 => if x9 < x170000 then (if x8 = true then ((impl_System_below.f x170000 x170001 x170002 x170003 x1 x9).bind fun t172 => (if t172 = true then ((impl_System_below.f x170000 x170001 x170002 x170003 x2 x9).bind fun t173 => (if t173 = true then ((impl_System_below.f x170000 x170001 x170002 x170003 x7 x9).bind fun t174 => (impl_System_join.l1 k x1 x2 x7 t174 (wrap64 (x9 + 1)) x170000 x170001 x170002 x170003)) else (impl_System_join.l1 k x1 x2 x7 true (wrap64 (x9 + 1)) x170000 x170001 x170002 x170003))) else (impl_System_join.l1 k x1 x2 x7 true (wrap64 (x9 + 1)) x170000 x170001 x170002 x170003))) else (impl_System_join.l1 k x1 x2 x7 false (wrap64 (x9 + 1)) x170000 x170001 x170002 x170003)) else (if x8 = true then (some x7) else (impl_System_join.l0 k x1 x2 (wrap64 (x7 + 1)) x170000 x170001 x170002 x170003))
end
def impl_System_join.f (k : Nat) (a0_0 : Int) (l0_1 : List Int) (l0_2 : List Int) (l0_3 : List Bool) (a1 : Int) (a2 : Int) : Option (Int) := impl_System_join.l0 k a1 a2 0 a0_0 l0_1 l0_2 l0_3
set_option maxHeartbeats 8000000 in
set_option maxRecDepth 100000 in
theorem impl_System_join.calls (k : Nat) (a0_0 : Int) (A0_1 : Option Addr) (c0_1 : Nat) (l0_1 : List Int) (A0_2 : Option Addr) (c0_2 : Nat) (l0_2 : List Int) (A0_3 : Option Addr) (c0_3 : Nat) (l0_3 : List Bool) (a1 : Int) (a2 : Int) (r : Int) (w : World) (hr0_1 : Kd.C (Kd.int .i64) w A0_1 l0_1.length l0_1) (hc0_1 : l0_1.length ≤ c0_1) (hr0_2 : Kd.C (Kd.int .i64) w A0_2 l0_2.length l0_2) (hc0_2 : l0_2.length ≤ c0_2) (hr0_3 : Kd.C Kd.bool w A0_3 l0_3.length l0_3) (hc0_3 : l0_3.length ≤ c0_3) (h : impl_System_join.f k a0_0 l0_1 l0_2 l0_3 a1 a2 = some r) :
  Calls Try.prog 73 #[.agg #[.int .i64 a0_0, .slice A0_1 l0_1.length c0_1, .slice A0_2 l0_2.length c0_2, .slice A0_3 l0_3.length c0_3], .int .i64 a1, .int .i64 a2] w fun e w' => e = .returned (.int .i64 r) ∧ Below w.heap.size w w' := by
 have hu27 := Try.underlying27
 have HR0_1 := sd_ hr0_1
 have HC0_1 := sd_ hc0_1
 clear hr0_1 hc0_1
 have HR0_2 := sd_ hr0_2
 have HC0_2 := sd_ hc0_2
 clear hr0_2 hc0_2
 have HR0_3 := sd_ hr0_3
 have HC0_3 := sd_ hc0_3
 clear hr0_3 hc0_3
 have HB := sd_ (Below.refl w.heap.size w)
 have H : (impl_System_join.l0 k a1 a2 0 a0_0 l0_1 l0_2 l0_3) = some r := h
 clear h
 have H' := sd_ H
 clear H
 go_enter Try.func73, Try.ntmps73
 go_wp2_with (first | ((with_reducible refine gate_dst (N := 3) rfl ?_); refine bx_ (N := 3) (cs := #[.int .i64 a0_0, .slice A0_1 l0_1.length c0_1, .slice A0_2 l0_2.length c0_2, .slice A0_3 l0_3.length c0_3]) (t := 27) ?_; intro gb169 hg w4 hbox hb; have BK169 := sd_ (hbox); have GW169 := sd_ (gs_ hg (bw0_ HB.out)); have GE169 := sd_ (gs_ hg (bw0_ HB.out)); replace HB := sd_ (below_step (bw0_ HB.out) hb); clear hb hbox hg))
 go_loopg [7] k (fun kq v7 w' => ∃ (x7_1 : Int), v7 = .int .i64 x7_1 ∧ Aside0 (impl_System_join.l0 kq a1 a2 x7_1 a0_0 l0_1 l0_2 l0_3 = some r) ∧ Aside0 (kq ≤ k) ∧ Aside0 (w'.heap[gb169]? = some (.cells #[.int .i64 a0_0, (.slice A0_1 l0_1.length c0_1), (.slice A0_2 l0_2.length c0_2), (.slice A0_3 l0_3.length c0_3)] 27 (0, 0))) ∧ Aside0 (Below w.heap.size w w'))
 case atStart => exact ⟨(0), sm_, H', ⟨Nat.le_refl _⟩, ⟨by (with_reducible repeat (first | refine blk_drewN ?_ _ | refine blk_drew ?_ | refine blk_alloc ?_ _)); exact BK169.out⟩, ⟨bw1_ HB.out GE169.out⟩⟩
 case round =>
  clear H'
  try clear p2
  obtain ⟨x7_1, rfl, HA, HK1, BK169, HB⟩ := hrel
  cases gk with
  | zero => exact absurd HA.out (by simp [impl_System_join.l0])
  | succ k1 =>
   have H := HA.out
   clear HA
   simp only [impl_System_join.l0] at H
   by_cases c5 : x7_1 < a0_0
   ·rw [if_pos c5] at H
    have c5b0 : decide (x7_1 < a0_0) = true := decide_eq_true c5
    clear c5
    have HC6 := sd_ H
    clear H
    obtain ⟨hcz7_0, hcz7_1, hcz7_2, hcz7_3, hfz7_0, hfz7_1, hfz7_2, hfz7_3⟩ := bf4_ BK169.out
    go_upto_region 4 with (fail)
    go_cut [27] (fun v27 wc => ∃ (kq : Nat) (x27_5 : Bool), v27 = .bool x27_5 ∧ Aside0 (impl_System_join.j1 kq a1 a2 x7_1 x27_5 a0_0 l0_1 l0_2 l0_3 = some r) ∧ Aside0 (kq ≤ k1) ∧ Aside0 (wc.heap[gb169]? = some (.cells #[.int .i64 a0_0, (.slice A0_1 l0_1.length c0_1), (.slice A0_2 l0_2.length c0_2), (.slice A0_3 l0_3.length c0_3)] 27 (0, 0))) ∧ Aside0 (Below w.heap.size w wc))
    case first =>
     have H := HC6.out
     clear HC6
     replace H := Option.bind_eq_some_iff.mp H
     obtain ⟨t170, A80, H⟩ := H
     try dsimp only at H
     have A8 := sd_ A80
     clear A80
     by_cases c9 : t170 = true
     ·subst c9
      have H1 : ((impl_System_below.f a0_0 l0_1 l0_2 l0_3 a2 x7_1).bind fun t171 => (impl_System_join.j1 k1 a1 a2 x7_1 (!t171) a0_0 l0_1 l0_2 l0_3)) = some r := by rw [if_pos rfl] at H; exact H
      clear H
      have H := H1
      clear H1
      replace H := Option.bind_eq_some_iff.mp H
      obtain ⟨t171, A100, H⟩ := H
      try dsimp only at H
      have A10 := sd_ A100
      clear A100
      have H' := sd_ H
      clear H
      obtain ⟨hcz11_0, hcz11_1, hcz11_2, hcz11_3, hfz11_0, hfz11_1, hfz11_2, hfz11_3⟩ := bf4_ BK169.out
      go_wp2_with (first | ((with_reducible refine gate_callee (f := 71) rfl ?_); refine goesL_ (some 19) rfl rfl Try.func71 (by kernel_rfl) rfl #[.agg #[.int .i64 a0_0, .slice A0_1 l0_1.length c0_1, .slice A0_2 l0_2.length c0_2, .slice A0_3 l0_3.length c0_3], .int .i64 a1, .int .i64 x7_1] rfl la_ ?_; (with_reducible refine (impl_System_below.calls a0_0 _ _ l0_1 _ _ l0_2 _ _ l0_3 a1 x7_1 true _ (kc_ HR0_1.out HB.out) HC0_1.out (kc_ HR0_2.out HB.out) HC0_2.out (kc_ HR0_3.out HB.out) HC0_3.out A8.out).mono ?_); rintro e w12 ⟨rfl, hb⟩; refine ⟨_, rfl, ?_⟩; replace BK169 := sd_ (bb_ BK169.out hb); replace HB := sd_ (below_step (bw1_ HB.out GE169.out) hb); (try clear hb); obtain ⟨hcz13_0, hcz13_1, hcz13_2, hcz13_3, hfz13_0, hfz13_1, hfz13_2, hfz13_3⟩ := bf4_ BK169.out) | (go_at_call 71; (with_reducible refine (impl_System_below.calls a0_0 _ _ l0_1 _ _ l0_2 _ _ l0_3 a2 x7_1 t171 _ (kc_ HR0_1.out HB.out) HC0_1.out (kc_ HR0_2.out HB.out) HC0_2.out (kc_ HR0_3.out HB.out) HC0_3.out A10.out).mono ?_); rintro e w14 ⟨rfl, hb⟩; replace BK169 := sd_ (bb_ BK169.out hb); replace HB := sd_ (below_step (bw1_ HB.out GE169.out) hb); (try clear hb)))
      go_meet
      case rel => exact ⟨_, (!t171), sm_, H', ⟨by have := HK1.out; first | omega | exact Nat.le_refl _⟩, ⟨by (with_reducible repeat (first | refine blk_drewN ?_ _ | refine blk_drew ?_ | refine blk_alloc ?_ _)); exact BK169.out⟩, ⟨bw1_ HB.out GE169.out⟩⟩
     ·replace c9 := Bool.eq_false_iff.mpr c9
      subst c9
      have H1 : (impl_System_join.j1 k1 a1 a2 x7_1 true a0_0 l0_1 l0_2 l0_3) = some r := by rw [if_neg (show ¬ (false = true) by decide)] at H; exact H
      clear H
      have H := H1
      clear H1
      have H' := sd_ H
      clear H
      obtain ⟨hcz15_0, hcz15_1, hcz15_2, hcz15_3, hfz15_0, hfz15_1, hfz15_2, hfz15_3⟩ := bf4_ BK169.out
      go_wp2_with (first | ((with_reducible refine gate_callee (f := 71) rfl ?_); refine goesL_ (some 19) rfl rfl Try.func71 (by kernel_rfl) rfl #[.agg #[.int .i64 a0_0, .slice A0_1 l0_1.length c0_1, .slice A0_2 l0_2.length c0_2, .slice A0_3 l0_3.length c0_3], .int .i64 a1, .int .i64 x7_1] rfl la_ ?_; (with_reducible refine (impl_System_below.calls a0_0 _ _ l0_1 _ _ l0_2 _ _ l0_3 a1 x7_1 false _ (kc_ HR0_1.out HB.out) HC0_1.out (kc_ HR0_2.out HB.out) HC0_2.out (kc_ HR0_3.out HB.out) HC0_3.out A8.out).mono ?_); rintro e w16 ⟨rfl, hb⟩; refine ⟨_, rfl, ?_⟩; replace BK169 := sd_ (bb_ BK169.out hb); replace HB := sd_ (below_step (bw1_ HB.out GE169.out) hb); (try clear hb)))
      go_meet
      case rel => exact ⟨_, (true), sm_, H', ⟨by have := HK1.out; first | omega | exact Nat.le_refl _⟩, ⟨by (with_reducible repeat (first | refine blk_drewN ?_ _ | refine blk_drew ?_ | refine blk_alloc ?_ _)); exact BK169.out⟩, ⟨bw1_ HB.out GE169.out⟩⟩
    case rest =>
     clear HC6
     try clear p2
     try clear c5
     try clear c5b0
     try clear c7
     try clear hcz7_0
     try clear hcz7_1
     try clear hcz7_2
     try clear hcz7_3
     try clear hfz7_0
     try clear hfz7_1
     try clear hfz7_2
     try clear hfz7_3
     try clear p2
     obtain ⟨kq, x27_5, rfl, HA, HJ5, BK169, HB⟩ := hcut
     cases kq with
     | zero => exact absurd HA.out (by simp [impl_System_join.j1])
     | succ kj5 =>
      have H := HA.out
      clear HA
      simp only [impl_System_join.j1] at H
      by_cases c17 : x27_5 = true
      ·subst c17
       have H1 : (impl_System_join.l0 kj5 a1 a2 (wrap64 (x7_1 + 1)) a0_0 l0_1 l0_2 l0_3) = some r := by rw [if_pos rfl] at H; exact H
       clear H
       have H := H1
       clear H1
       have H' := sd_ H
       clear H
       go_wp2
       go_roundg kj5
       case measure => have := HK1.out; have := HJ5.out; omega
       case rel => exact ⟨(wrap64 (x7_1 + 1)), sm_, H', ⟨by have := HK1.out; have := HJ5.out; omega⟩, ⟨by (with_reducible repeat (first | refine blk_drewN ?_ _ | refine blk_drew ?_ | refine blk_alloc ?_ _)); exact BK169.out⟩, ⟨bw1_ HB.out GE169.out⟩⟩
      ·replace c17 := Bool.eq_false_iff.mpr c17
       subst c17
       have H1 : (impl_System_join.l1 kj5 a1 a2 x7_1 true 0 a0_0 l0_1 l0_2 l0_3) = some r := by rw [if_neg (show ¬ (false = true) by decide)] at H; exact H
       clear H
       have H := H1
       clear H1
       have H' := sd_ H
       clear H
       go_wp2
       go_loopg [8, 9] kj5 (fun kq v8 v9 w' => ∃ (x8_3 : Bool) (x9_3 : Int), v8 = .bool x8_3 ∧ v9 = .int .i64 x9_3 ∧ Aside0 (impl_System_join.l1 kq a1 a2 x7_1 x8_3 x9_3 a0_0 l0_1 l0_2 l0_3 = some r) ∧ Aside0 (kq ≤ kj5) ∧ Aside0 (w'.heap[gb169]? = some (.cells #[.int .i64 a0_0, (.slice A0_1 l0_1.length c0_1), (.slice A0_2 l0_2.length c0_2), (.slice A0_3 l0_3.length c0_3)] 27 (0, 0))) ∧ Aside0 (Below w.heap.size w w'))
       case atStart => exact ⟨(true), (0), sm_, sm_, H', ⟨Nat.le_refl _⟩, ⟨by (with_reducible repeat (first | refine blk_drewN ?_ _ | refine blk_drew ?_ | refine blk_alloc ?_ _)); exact BK169.out⟩, ⟨bw1_ HB.out GE169.out⟩⟩
       case round =>
        clear H'
        try clear c1
        try clear p2
        try clear c5
        try clear c5b0
        try clear c7
        try clear c17
        try clear hcz7_0
        try clear hcz7_1
        try clear hcz7_2
        try clear hcz7_3
        try clear hfz7_0
        try clear hfz7_1
        try clear hfz7_2
        try clear hfz7_3
        try clear p2
        obtain ⟨x8_3, x9_3, rfl, rfl, HA, HK3, BK169, HB⟩ := hrel
        cases gk with
        | zero => exact absurd HA.out (by simp [impl_System_join.l1])
        | succ k3 =>
         have H := HA.out
         clear HA
         simp only [impl_System_join.l1] at H
         by_cases c18 : x9_3 < a0_0
         ·rw [if_pos c18] at H
          have c18b0 : decide (x9_3 < a0_0) = true := decide_eq_true c18
          clear c18
          by_cases c19 : x8_3 = true
          ·subst c19
           have H1 : ((impl_System_below.f a0_0 l0_1 l0_2 l0_3 a1 x9_3).bind fun t172 => (if t172 = true then ((impl_System_below.f a0_0 l0_1 l0_2 l0_3 a2 x9_3).bind fun t173 => (if t173 = true then ((impl_System_below.f a0_0 l0_1 l0_2 l0_3 x7_1 x9_3).bind fun t174 => (impl_System_join.l1 k3 a1 a2 x7_1 t174 (wrap64 (x9_3 + 1)) a0_0 l0_1 l0_2 l0_3)) else (impl_System_join.l1 k3 a1 a2 x7_1 true (wrap64 (x9_3 + 1)) a0_0 l0_1 l0_2 l0_3))) else (impl_System_join.l1 k3 a1 a2 x7_1 true (wrap64 (x9_3 + 1)) a0_0 l0_1 l0_2 l0_3))) = some r := by rw [if_pos rfl] at H; exact H
           clear H
           have H := H1
           clear H1
           replace H := Option.bind_eq_some_iff.mp H
           obtain ⟨t172, A200, H⟩ := H
           try dsimp only at H
           have A20 := sd_ A200
           clear A200
           by_cases c21 : t172 = true
           ·subst c21
            have H1 : ((impl_System_below.f a0_0 l0_1 l0_2 l0_3 a2 x9_3).bind fun t173 => (if t173 = true then ((impl_System_below.f a0_0 l0_1 l0_2 l0_3 x7_1 x9_3).bind fun t174 => (impl_System_join.l1 k3 a1 a2 x7_1 t174 (wrap64 (x9_3 + 1)) a0_0 l0_1 l0_2 l0_3)) else (impl_System_join.l1 k3 a1 a2 x7_1 true (wrap64 (x9_3 + 1)) a0_0 l0_1 l0_2 l0_3))) = some r := by rw [if_pos rfl] at H; exact H
            clear H
            have H := H1
            clear H1
            replace H := Option.bind_eq_some_iff.mp H
            obtain ⟨t173, A220, H⟩ := H
            try dsimp only at H
            have A22 := sd_ A220
            clear A220
            by_cases c23 : t173 = true
            ·subst c23
             have H1 : ((impl_System_below.f a0_0 l0_1 l0_2 l0_3 x7_1 x9_3).bind fun t174 => (impl_System_join.l1 k3 a1 a2 x7_1 t174 (wrap64 (x9_3 + 1)) a0_0 l0_1 l0_2 l0_3)) = some r := by rw [if_pos rfl] at H; exact H
             clear H
             have H := H1
             clear H1
             replace H := Option.bind_eq_some_iff.mp H
             obtain ⟨t174, A240, H⟩ := H
             try dsimp only at H
             have A24 := sd_ A240
             clear A240
             have H' := sd_ H
             clear H
             obtain ⟨hcz25_0, hcz25_1, hcz25_2, hcz25_3, hfz25_0, hfz25_1, hfz25_2, hfz25_3⟩ := bf4_ BK169.out
             go_wp2_with (first | (go_at_call 71; (with_reducible refine (impl_System_below.calls a0_0 _ _ l0_1 _ _ l0_2 _ _ l0_3 a1 x9_3 true _ (kc_ HR0_1.out HB.out) HC0_1.out (kc_ HR0_2.out HB.out) HC0_2.out (kc_ HR0_3.out HB.out) HC0_3.out A20.out).mono ?_); rintro e w26 ⟨rfl, hb⟩; replace BK169 := sd_ (bb_ BK169.out hb); replace HB := sd_ (below_step (bw1_ HB.out GE169.out) hb); (try clear hb); obtain ⟨hcz27_0, hcz27_1, hcz27_2, hcz27_3, hfz27_0, hfz27_1, hfz27_2, hfz27_3⟩ := bf4_ BK169.out) | (go_at_call 71; (with_reducible refine (impl_System_below.calls a0_0 _ _ l0_1 _ _ l0_2 _ _ l0_3 a2 x9_3 true _ (kc_ HR0_1.out HB.out) HC0_1.out (kc_ HR0_2.out HB.out) HC0_2.out (kc_ HR0_3.out HB.out) HC0_3.out A22.out).mono ?_); rintro e w28 ⟨rfl, hb⟩; replace BK169 := sd_ (bb_ BK169.out hb); replace HB := sd_ (below_step (bw1_ HB.out GE169.out) hb); (try clear hb); obtain ⟨hcz29_0, hcz29_1, hcz29_2, hcz29_3, hfz29_0, hfz29_1, hfz29_2, hfz29_3⟩ := bf4_ BK169.out) | (go_at_call 71; (with_reducible refine (impl_System_below.calls a0_0 _ _ l0_1 _ _ l0_2 _ _ l0_3 x7_1 x9_3 t174 _ (kc_ HR0_1.out HB.out) HC0_1.out (kc_ HR0_2.out HB.out) HC0_2.out (kc_ HR0_3.out HB.out) HC0_3.out A24.out).mono ?_); rintro e w30 ⟨rfl, hb⟩; replace BK169 := sd_ (bb_ BK169.out hb); replace HB := sd_ (below_step (bw1_ HB.out GE169.out) hb); (try clear hb)))
             go_roundg k3
             case measure => have := HK1.out; have := HJ5.out; have := HK3.out; omega
             case rel => exact ⟨(t174), (wrap64 (x9_3 + 1)), sm_, sm_, H', ⟨by have := HK1.out; have := HJ5.out; have := HK3.out; omega⟩, ⟨by (with_reducible repeat (first | refine blk_drewN ?_ _ | refine blk_drew ?_ | refine blk_alloc ?_ _)); exact BK169.out⟩, ⟨bw1_ HB.out GE169.out⟩⟩
            ·replace c23 := Bool.eq_false_iff.mpr c23
             subst c23
             have H1 : (impl_System_join.l1 k3 a1 a2 x7_1 true (wrap64 (x9_3 + 1)) a0_0 l0_1 l0_2 l0_3) = some r := by rw [if_neg (show ¬ (false = true) by decide)] at H; exact H
             clear H
             have H := H1
             clear H1
             have H' := sd_ H
             clear H
             obtain ⟨hcz31_0, hcz31_1, hcz31_2, hcz31_3, hfz31_0, hfz31_1, hfz31_2, hfz31_3⟩ := bf4_ BK169.out
             go_wp2_with (first | (go_at_call 71; (with_reducible refine (impl_System_below.calls a0_0 _ _ l0_1 _ _ l0_2 _ _ l0_3 a1 x9_3 true _ (kc_ HR0_1.out HB.out) HC0_1.out (kc_ HR0_2.out HB.out) HC0_2.out (kc_ HR0_3.out HB.out) HC0_3.out A20.out).mono ?_); rintro e w32 ⟨rfl, hb⟩; replace BK169 := sd_ (bb_ BK169.out hb); replace HB := sd_ (below_step (bw1_ HB.out GE169.out) hb); (try clear hb); obtain ⟨hcz33_0, hcz33_1, hcz33_2, hcz33_3, hfz33_0, hfz33_1, hfz33_2, hfz33_3⟩ := bf4_ BK169.out) | (go_at_call 71; (with_reducible refine (impl_System_below.calls a0_0 _ _ l0_1 _ _ l0_2 _ _ l0_3 a2 x9_3 false _ (kc_ HR0_1.out HB.out) HC0_1.out (kc_ HR0_2.out HB.out) HC0_2.out (kc_ HR0_3.out HB.out) HC0_3.out A22.out).mono ?_); rintro e w34 ⟨rfl, hb⟩; replace BK169 := sd_ (bb_ BK169.out hb); replace HB := sd_ (below_step (bw1_ HB.out GE169.out) hb); (try clear hb)))
             go_roundg k3
             case measure => have := HK1.out; have := HJ5.out; have := HK3.out; omega
             case rel => exact ⟨(true), (wrap64 (x9_3 + 1)), sm_, sm_, H', ⟨by have := HK1.out; have := HJ5.out; have := HK3.out; omega⟩, ⟨by (with_reducible repeat (first | refine blk_drewN ?_ _ | refine blk_drew ?_ | refine blk_alloc ?_ _)); exact BK169.out⟩, ⟨bw1_ HB.out GE169.out⟩⟩
           ·replace c21 := Bool.eq_false_iff.mpr c21
            subst c21
            have H1 : (impl_System_join.l1 k3 a1 a2 x7_1 true (wrap64 (x9_3 + 1)) a0_0 l0_1 l0_2 l0_3) = some r := by rw [if_neg (show ¬ (false = true) by decide)] at H; exact H
            clear H
            have H := H1
            clear H1
            have H' := sd_ H
            clear H
            obtain ⟨hcz35_0, hcz35_1, hcz35_2, hcz35_3, hfz35_0, hfz35_1, hfz35_2, hfz35_3⟩ := bf4_ BK169.out
            go_wp2_with (first | (go_at_call 71; (with_reducible refine (impl_System_below.calls a0_0 _ _ l0_1 _ _ l0_2 _ _ l0_3 a1 x9_3 false _ (kc_ HR0_1.out HB.out) HC0_1.out (kc_ HR0_2.out HB.out) HC0_2.out (kc_ HR0_3.out HB.out) HC0_3.out A20.out).mono ?_); rintro e w36 ⟨rfl, hb⟩; replace BK169 := sd_ (bb_ BK169.out hb); replace HB := sd_ (below_step (bw1_ HB.out GE169.out) hb); (try clear hb)))
            go_roundg k3
            case measure => have := HK1.out; have := HJ5.out; have := HK3.out; omega
            case rel => exact ⟨(true), (wrap64 (x9_3 + 1)), sm_, sm_, H', ⟨by have := HK1.out; have := HJ5.out; have := HK3.out; omega⟩, ⟨by (with_reducible repeat (first | refine blk_drewN ?_ _ | refine blk_drew ?_ | refine blk_alloc ?_ _)); exact BK169.out⟩, ⟨bw1_ HB.out GE169.out⟩⟩
          ·replace c19 := Bool.eq_false_iff.mpr c19
           subst c19
           have H1 : (impl_System_join.l1 k3 a1 a2 x7_1 false (wrap64 (x9_3 + 1)) a0_0 l0_1 l0_2 l0_3) = some r := by rw [if_neg (show ¬ (false = true) by decide)] at H; exact H
           clear H
           have H := H1
           clear H1
           have H' := sd_ H
           clear H
           obtain ⟨hcz37_0, hcz37_1, hcz37_2, hcz37_3, hfz37_0, hfz37_1, hfz37_2, hfz37_3⟩ := bf4_ BK169.out
           go_wp2
           go_roundg k3
           case measure => have := HK1.out; have := HJ5.out; have := HK3.out; omega
           case rel => exact ⟨(false), (wrap64 (x9_3 + 1)), sm_, sm_, H', ⟨by have := HK1.out; have := HJ5.out; have := HK3.out; omega⟩, ⟨by (with_reducible repeat (first | refine blk_drewN ?_ _ | refine blk_drew ?_ | refine blk_alloc ?_ _)); exact BK169.out⟩, ⟨bw1_ HB.out GE169.out⟩⟩
         ·rw [if_neg c18] at H
          have c18b0 : decide (x9_3 < a0_0) = false := decide_eq_false c18
          clear c18
          by_cases c38 : x8_3 = true
          ·subst c38
           have H1 : (some x7_1) = some r := by rw [if_pos rfl] at H; exact H
           clear H
           have H := H1
           clear H1
           obtain rfl := Option.some.inj H
           obtain ⟨hcz39_0, hcz39_1, hcz39_2, hcz39_3, hfz39_0, hfz39_1, hfz39_2, hfz39_3⟩ := bf4_ BK169.out
           go_wp2
           go_ret
           exact ⟨an_, bw1_ HB.out GE169.out⟩
          ·replace c38 := Bool.eq_false_iff.mpr c38
           subst c38
           have H1 : (impl_System_join.l0 k3 a1 a2 (wrap64 (x7_1 + 1)) a0_0 l0_1 l0_2 l0_3) = some r := by rw [if_neg (show ¬ (false = true) by decide)] at H; exact H
           clear H
           have H := H1
           clear H1
           have H' := sd_ H
           clear H
           obtain ⟨hcz40_0, hcz40_1, hcz40_2, hcz40_3, hfz40_0, hfz40_1, hfz40_2, hfz40_3⟩ := bf4_ BK169.out
           go_wp2
           go_roundg k3
           case measure => have := HK1.out; have := HJ5.out; have := HK3.out; omega
           case rel => exact ⟨(wrap64 (x7_1 + 1)), sm_, H', ⟨by have := HK1.out; have := HJ5.out; have := HK3.out; omega⟩, ⟨by (with_reducible repeat (first | refine blk_drewN ?_ _ | refine blk_drew ?_ | refine blk_alloc ?_ _)); exact BK169.out⟩, ⟨bw1_ HB.out GE169.out⟩⟩
   ·rw [if_neg c5] at H
    have c5b0 : decide (x7_1 < a0_0) = false := decide_eq_false c5
    clear c5
    obtain rfl := Option.some.inj H
    obtain ⟨hcz41_0, hcz41_1, hcz41_2, hcz41_3, hfz41_0, hfz41_1, hfz41_2, hfz41_3⟩ := bf4_ BK169.out
    go_wp2
    go_ret
    exact ⟨an_, bw1_ HB.out GE169.out⟩


/-! ### laws_toBoolS: function 83 -/
def laws_toBoolS.l0 : Nat → List Bool → List Bool → Int → Option (List Bool)
 | 0, _, _, _ => none
 | k + 1, x0, x3, x4 => if x4 < (x0.length : Int) then (if 0 ≤ x4 then (if x4 < (x3.length : Int) then (laws_toBoolS.l0 k x0 (x3.set (x4 : Int).toNat (rdOf false x0 x4)) (wrap64 (x4 + 1))) else (none)) else (none)) else (some x3)
def laws_toBoolS.f (k : Nat) (l0 : List Bool) : Option (List Bool) := if 0 ≤ (l0.length : Int) then (if ((l0.length : Int) : Int).toNat ≤ 281474976710656 then (laws_toBoolS.l0 k l0 (List.replicate ((l0.length : Int) : Int).toNat false) 0) else (none)) else (none)
set_option maxHeartbeats 8000000 in
set_option maxRecDepth 100000 in
theorem laws_toBoolS.calls (k : Nat) (A0 : Option Addr) (c0 : Nat) (l0 : List Bool) (r : List Bool) (w : World) (hr0 : Kd.C Kd.bool w A0 l0.length l0) (hc0 : l0.length ≤ c0) (h : laws_toBoolS.f k l0 = some r) :
  Calls Try.prog 83 #[.slice A0 l0.length c0] w fun e w' => ∃ v0_ : Value, e = .returned (v0_) ∧ Kd.R Kd.bool 4 w' w.heap.size (fun _ => True) v0_ r ∧ Below w.heap.size w w' := by
 have HR0 := sd_ hr0
 have HC0 := sd_ hc0
 clear hr0 hc0
 have HB := sd_ (Below.refl w.heap.size w)
 have H : (if 0 ≤ (l0.length : Int) then (if ((l0.length : Int) : Int).toNat ≤ 281474976710656 then (laws_toBoolS.l0 k l0 (List.replicate ((l0.length : Int) : Int).toNat false) 0) else (none)) else (none)) = some r := h
 clear h
 by_cases c2 : 0 ≤ (l0.length : Int)
 ·rw [if_pos c2] at H
  have c2b0 := eq_true c2
  have c2b1 : decide (0 ≤ (l0.length : Int)) = true := decide_eq_true c2
  clear c2
  by_cases c3 : ((l0.length : Int) : Int).toNat ≤ 281474976710656
  ·rw [if_pos c3] at H
   have c3b0 := eq_true c3
   have c3b1 : decide (((l0.length : Int) : Int).toNat ≤ 281474976710656) = true := decide_eq_true c3
   clear c3
   obtain ⟨y996, hy996⟩ : ∃ y_ : List Bool, y_ = (List.replicate ((l0.length : Int) : Int).toNat false) := ⟨_, rfl⟩
   replace H : (laws_toBoolS.l0 k l0 y996 0) = some r := by first | (rw [hy996]; with_reducible exact H) | (have H2_ := (Option.bind_some _ _).symm.trans H; rw [hy996]; with_reducible exact H2_) | (have H2_ := (Option.bind_some _ _).symm.trans H; with_reducible exact H2_) | with_reducible exact H | (rw [hy996]; exact H) | exact H
   have Ny996 := sd_ hy996
   clear hy996
   have H' := sd_ H
   clear H
   go_enter Try.func83, Try.ntmps83
   go_wp2_with (first | ((with_reducible refine gate_dst (N := 7) rfl ?_); refine Kd.R_make Kd.bool _ 4 rfl (N := 7) rfl 25 _ _ rfl (l0.length : Int) rfl rfl Try.underlying25 (.bool false) 1 info4 rfl (by decide) (by omega) false (ok := fun _ => True) (okp := fun _ => True) rfl (fun _ hk => hk) trivial (dt_) (Nat.le_trans (Nat.mul_le_mul_right _ (dt_ : (l0.length : Int).toNat ≤ 281474976710656)) (by omega)) (Below.refl _ _) (Nat.le_refl _) ?_; intro v997 w4 ho5 hb hg_ hnew_; clear hg_ hnew_; (first | rw [← Ny996.out] at ho5 | (simp only [Int.reduceToNat] at ho5; rw [← Ny996.out] at ho5)); have HO998 := sd_ (Kd.R_lower ho5 (below_size (bw0_ HB.out))); replace HB := sd_ (below_step (bw0_ HB.out) hb); clear hb ho5))
   go_loopg [4] k (fun kq v4 w' => ∃ (x3_1 : List Bool) (x4_1 : Int), v4 = .int .i64 x4_1 ∧ Aside0 (laws_toBoolS.l0 kq l0 x3_1 x4_1 = some r) ∧ Aside0 (kq ≤ k) ∧ Aside0 (Kd.R Kd.bool 4 w' w.heap.size (fun _ => True) v997 x3_1) ∧ Aside0 (Below w.heap.size w w'))
   case atStart => exact ⟨(y996), (0), sm_, H', ⟨Nat.le_refl _⟩, ⟨by (with_reducible repeat (first | apply Kd.R_alloc | apply Kd.R_drewN | apply Kd.R_drew)); exact HO998.out⟩, ⟨bw0_ HB.out⟩⟩
   case round =>
    clear H'
    try clear c2
    try clear c2b0
    try clear c2b1
    try clear p2
    try clear c3
    try clear c3b0
    try clear c3b1
    obtain ⟨x3_1, x4_1, rfl, HA, HK1, HO_3, HB⟩ := hrel
    cases gk with
    | zero => exact absurd HA.out (by simp [laws_toBoolS.l0])
    | succ k1 =>
     have H := HA.out
     clear HA
     simp only [laws_toBoolS.l0] at H
     by_cases c6 : x4_1 < (l0.length : Int)
     ·rw [if_pos c6] at H
      have c6b0 : decide (x4_1 < (l0.length : Int)) = true := decide_eq_true c6
      clear c6
      by_cases c7 : 0 ≤ x4_1
      ·rw [if_pos c7] at H
       have c7b0 : decide (0 ≤ x4_1) = true := decide_eq_true c7
       clear c7
       by_cases c8 : x4_1 < (x3_1.length : Int)
       ·rw [if_pos c8] at H
        have c8b0 : decide (x4_1 < (x3_1.length : Int)) = true := decide_eq_true c8
        clear c8
        obtain ⟨y1000, hy1000⟩ : ∃ y_ : List Bool, y_ = (x3_1.set (x4_1 : Int).toNat (rdOf false l0 x4_1)) := ⟨_, rfl⟩
        replace H : (laws_toBoolS.l0 k1 l0 y1000 (wrap64 (x4_1 + 1))) = some r := by first | (rw [hy1000]; with_reducible exact H) | (have H2_ := (Option.bind_some _ _).symm.trans H; rw [hy1000]; with_reducible exact H2_) | (have H2_ := (Option.bind_some _ _).symm.trans H; with_reducible exact H2_) | with_reducible exact H | (rw [hy1000]; exact H) | exact H
        have Ny1000 := sd_ hy1000
        clear hy1000
        have H' := sd_ H
        clear H
        have p999 : 0 ≤ (x4_1 : Int) := dt_
        have q999 : x4_1 < (l0.length : Int) := dt_
        obtain ⟨ad999, e999, hx999_0⟩ := Kd.at_bool HR0.out x4_1 p999 q999
        cases e999
        replace hx999_0 := (HB.out.cell (World.block_lt_of_cell? w _ hx999_0)).trans hx999_0
        replace p999 := eq_true p999
        replace q999 := eq_true q999
        have p9 : 0 ≤ (x4_1 : Int) := dt_
        have q9 : (x4_1 : Int) < ((x3_1.length : Int) : Int) := dt_
        obtain ⟨go9, co9, eo9, gb9, gl9, cl9, HG9⟩ := Kd.R_form HO_3.out (by omega)
        (first | cases eo9 | (injection eo9 with ea_ en_ ec_; (first | subst ea_ | (injection ea_ with ea_; subst ea_)); subst ec_; clear en_))
        have GB9 := sd_ gb9
        have GG9 := sd_ HG9
        clear gb9 gl9 HG9
        obtain ⟨hx9_0, hf9_0⟩ := Kd.R_celln false HO_3.out (x4_1 : Int) p9 q9
        replace p9 := eq_true p9
        replace q9 := eq_true q9
        have HP10 := Kd.R_putg HO_3.out (x4_1 : Int) (rdOf false l0 x4_1)
        go_wp2_with (first | ((with_reducible refine gate_store (t := 4) (p := 20) rfl ?_); refine store_event (t := 4) (p := 20) (v := ?vo_w11) (w1 := (wr.setCell ⟨go9, (x4_1 : Int).toNat, none⟩ (.bool (rdOf false l0 x4_1)))) ?hg ?ho ?hn ?hr ?_; (case ho => rfl); (case hg => rfl); (case hn => rfl); (case hr => first | (go_simp; done) | (go_simp; rfl)); intro w11 hw; have hg : wr.grownBy w11 (some go9) := (by rw [hw]; exact HP10.2); have hp_ : Kd.R Kd.bool 4 w11 w.heap.size (fun _ => True) (.slice (some ⟨go9, 0, none⟩) x3_1.length co9) y1000 := (by rw [hw, Ny1000.out]; exact HP10.1); clear HP10; replace HO_3 := sd_ (hp_); replace HB := sd_ ((by rw [hw]; exact below_set (HB.out) GB9.out : Below w.heap.size w w11)); clear hg hw hp_))
        go_roundg k1
        case measure => have := HK1.out; omega
        case rel => exact ⟨(y1000), (wrap64 (x4_1 + 1)), sm_, H', ⟨by have := HK1.out; omega⟩, ⟨by (with_reducible repeat (first | apply Kd.R_alloc | apply Kd.R_drewN | apply Kd.R_drew)); exact HO_3.out⟩, ⟨bw0_ HB.out⟩⟩
       ·rw [if_neg c8] at H
        exact absurd H (by simp)
      ·rw [if_neg c7] at H
       exact absurd H (by simp)
     ·rw [if_neg c6] at H
      have c6b0 : decide (x4_1 < (l0.length : Int)) = false := decide_eq_false c6
      clear c6
      obtain rfl := Option.some.inj H
      go_wp2
      go_ret
      exact ⟨_, an_, by (with_reducible repeat (first | apply Kd.R_alloc | apply Kd.R_drewN | apply Kd.R_drew)); exact HO_3.out, bw0_ HB.out⟩
  ·rw [if_neg c3] at H
   exact absurd H (by simp)
 ·rw [if_neg c2] at H
  exact absurd H (by simp)


/-! ### laws_toSystem: function 24 -/
def laws_toSystem.f (k : Nat) (a0_0 : Int) (l0_1 : List Int) (l0_2 : List Int) (l0_3 : List Bool) : Option (Int × List Int × List Int × List Bool) := (laws_toIntS.f k l0_1).bind fun t1004 => ((laws_toIntS.f k l0_2).bind fun t1007 => ((laws_toBoolS.f k l0_3).bind fun t1010 => (some (a0_0, t1004, t1007, t1010))))
set_option maxHeartbeats 8000000 in
set_option maxRecDepth 100000 in
theorem laws_toSystem.calls (k : Nat) (a0_0 : Int) (A0_1 : Option Addr) (c0_1 : Nat) (l0_1 : List Int) (A0_2 : Option Addr) (c0_2 : Nat) (l0_2 : List Int) (A0_3 : Option Addr) (c0_3 : Nat) (l0_3 : List Bool) (r1 : Int) (r2 : List Int) (r3 : List Int) (r4 : List Bool) (w : World) (hr0_1 : Kd.C (Kd.int .i64) w A0_1 l0_1.length l0_1) (hc0_1 : l0_1.length ≤ c0_1) (hr0_2 : Kd.C (Kd.int .i64) w A0_2 l0_2.length l0_2) (hc0_2 : l0_2.length ≤ c0_2) (hr0_3 : Kd.C Kd.bool w A0_3 l0_3.length l0_3) (hc0_3 : l0_3.length ≤ c0_3) (h : laws_toSystem.f k a0_0 l0_1 l0_2 l0_3 = some (r1, r2, r3, r4)) :
  Calls Try.prog 24 #[.agg #[.int .i64 a0_0, .slice A0_1 l0_1.length c0_1, .slice A0_2 l0_2.length c0_2, .slice A0_3 l0_3.length c0_3]] w fun e w' => ∃ v1_ v2_ v3_ : Value, e = .returned (.agg #[.int .i64 r1, v1_, v2_, v3_]) ∧ Kd.R (Kd.int .i64) 3 w' w.heap.size (fun k_ => some k_ ≠ (v2_ : Value).ownBlock) v1_ r2 ∧ Kd.R (Kd.int .i64) 3 w' w.heap.size (fun k_ => some k_ ≠ (v1_ : Value).ownBlock) v2_ r3 ∧ Kd.R Kd.bool 4 w' w.heap.size (fun _ => True) v3_ r4 ∧ Below w.heap.size w w' := by
 have hu37 := Try.underlying37
 have hu27 := Try.underlying27
 have HR0_1 := sd_ hr0_1
 have HC0_1 := sd_ hc0_1
 clear hr0_1 hc0_1
 have HR0_2 := sd_ hr0_2
 have HC0_2 := sd_ hc0_2
 clear hr0_2 hc0_2
 have HR0_3 := sd_ hr0_3
 have HC0_3 := sd_ hc0_3
 clear hr0_3 hc0_3
 have HB := sd_ (Below.refl w.heap.size w)
 have H : ((laws_toIntS.f k l0_1).bind fun t1004 => ((laws_toIntS.f k l0_2).bind fun t1007 => ((laws_toBoolS.f k l0_3).bind fun t1010 => (some (a0_0, t1004, t1007, t1010))))) = some (r1, r2, r3, r4) := h
 clear h
 replace H := Option.bind_eq_some_iff.mp H
 obtain ⟨t1004, A20, H⟩ := H
 try dsimp only at H
 have A2 := sd_ A20
 clear A20
 replace H := Option.bind_eq_some_iff.mp H
 obtain ⟨t1007, A30, H⟩ := H
 try dsimp only at H
 have A3 := sd_ A30
 clear A30
 replace H := Option.bind_eq_some_iff.mp H
 obtain ⟨t1010, A40, H⟩ := H
 try dsimp only at H
 have A4 := sd_ A40
 clear A40
 simp only [Option.some.injEq, Prod.mk.injEq] at H
 obtain ⟨rfl, rfl, rfl, rfl⟩ := H
 go_enter Try.func24, Try.ntmps24
 go_wp2_with (first | ((with_reducible refine gate_dst (N := 1) rfl ?_); refine bx_ (N := 1) (cs := #[.int .i64 a0_0, .slice A0_1 l0_1.length c0_1, .slice A0_2 l0_2.length c0_2, .slice A0_3 l0_3.length c0_3]) (t := 37) ?_; intro gb1001 hg w5 hbox hb; have BK1001 := sd_ (hbox); have GW1001 := sd_ (gs_ hg (bw0_ HB.out)); have GE1001 := sd_ (gs_ hg (bw0_ HB.out)); replace HB := sd_ (below_step (bw0_ HB.out) hb); clear hb hbox hg) | ((with_reducible refine gate_dst (N := 2) rfl ?_); refine bx_ (N := 2) (cs := #[.int .i64 0, .slice none 0 0, .slice none 0 0, .slice none 0 0]) (t := 27) ?_; intro gb1002 hg w6 hbox hb; have BK1002 := sd_ (hbox); have GW1002 := sd_ (gs_ hg (bw1_ HB.out GE1001.out)); have GE1002 := sd_ (gs_ hg (bw1_ HB.out GE1001.out)); replace HB := sd_ (below_step (bw1_ HB.out GE1001.out) hb); have NB1001_1002 := sd_ (nl_ hg (bl_ BK1001.out)); have NB1002_1001 := sd_ (ng_ hg (bl_ BK1001.out)); replace BK1001 := sd_ (bb_ BK1001.out hb); clear hb hbox hg) | ((with_reducible refine gate_dst (N := 3) rfl ?_); refine bx_ (N := 3) (cs := #[.int .i64 0, .slice none 0 0, .slice none 0 0, .slice none 0 0]) (t := 27) ?_; intro gb1003 hg w7 hbox hb; have BK1003 := sd_ (hbox); have GW1003 := sd_ (gs_ hg (bw2_ HB.out GE1001.out GE1002.out)); have GE1003 := sd_ (gs_ hg (bw2_ HB.out GE1001.out GE1002.out)); replace HB := sd_ (below_step (bw2_ HB.out GE1001.out GE1002.out) hb); have NB1001_1003 := sd_ (nl_ hg (bl_ BK1001.out)); have NB1003_1001 := sd_ (ng_ hg (bl_ BK1001.out)); replace BK1001 := sd_ (bb_ BK1001.out hb); have NB1002_1003 := sd_ (nl_ hg (bl_ BK1002.out)); have NB1003_1002 := sd_ (ng_ hg (bl_ BK1002.out)); replace BK1002 := sd_ (bb_ BK1002.out hb); clear hb hbox hg; have hnb8 := NB1001_1002.out; have hnc8 := NB1002_1001.out; have hnb9 := NB1001_1003.out; have hnc9 := NB1003_1001.out; obtain ⟨hcz10_0, hcz10_1, hcz10_2, hcz10_3, hfz10_0, hfz10_1, hfz10_2, hfz10_3⟩ := bf4_ BK1001.out; have hnb11 := NB1003_1002.out; have hnc11 := NB1002_1003.out; obtain ⟨hcz12_0, hcz12_1, hcz12_2, hcz12_3, hfz12_0, hfz12_1, hfz12_2, hfz12_3⟩ := bf4_ BK1003.out) | ((with_reducible refine gate_callee (f := 82) rfl ?_); refine goesL_ (some 9) rfl rfl Try.func82 (by kernel_rfl) rfl #[.slice A0_1 l0_1.length c0_1] rfl la_ ?_; (with_reducible refine (laws_toIntS.calls k _ _ l0_1 t1004 _ ?side1 ?side2 A2.out).mono ?_); (case side1 => exact Kd.C_below HR0_1.out (bw3_ HB.out GE1001.out GE1002.out GE1003.out)); (case side2 => exact HC0_1.out); rintro e w13 ⟨v1005, rfl, ho0, hb⟩; refine ⟨_, rfl, ?_⟩; have HO1006 := sd_ (Kd.R_lower ho0 (below_size (bw3_ HB.out GE1001.out GE1002.out GE1003.out))); replace BK1001 := sd_ (blk_below (g := gb1001) (o := .cells #[.int .i64 a0_0, .slice A0_1 l0_1.length c0_1, .slice A0_2 l0_2.length c0_2, .slice A0_3 l0_3.length c0_3] 37 (0, 0)) (by (with_reducible repeat (first | refine blk_drewN ?_ _ | refine blk_drew ?_ | refine blk_alloc ?_ _)); refine blk_far ?_ NB1001_1003.out _; (with_reducible repeat (first | refine blk_drewN ?_ _ | refine blk_drew ?_ | refine blk_alloc ?_ _)); exact BK1001.out) hb); replace BK1002 := sd_ (blk_below (g := gb1002) (o := .cells #[.int .i64 0, .slice none 0 0, .slice none 0 0, .slice none 0 0] 27 (0, 0)) (by (with_reducible repeat (first | refine blk_drewN ?_ _ | refine blk_drew ?_ | refine blk_alloc ?_ _)); refine blk_far ?_ NB1002_1003.out _; (with_reducible repeat (first | refine blk_drewN ?_ _ | refine blk_drew ?_ | refine blk_alloc ?_ _)); exact BK1002.out) hb); replace BK1003 := sd_ (blk_below (g := gb1003) (o := .cells #[.int .i64 a0_0, .slice none 0 0, .slice none 0 0, .slice none 0 0] 27 (0, 0)) (by (with_reducible repeat (first | refine blk_drewN ?_ _ | refine blk_drew ?_ | refine blk_alloc ?_ _)); refine blk_put (cs := #[.int .i64 0, .slice none 0 0, .slice none 0 0, .slice none 0 0]) ?_ 0 _ rfl; (with_reducible repeat (first | refine blk_drewN ?_ _ | refine blk_drew ?_ | refine blk_alloc ?_ _)); exact BK1003.out) hb); replace HB := sd_ (below_step (bw3_ HB.out GE1001.out GE1002.out GE1003.out) hb); (try clear hb); (try clear ho0); obtain ⟨Ao14, co14, eo14⟩ := Kd.R_slice HO1006.out; subst eo14; obtain ⟨hcz15_0, hcz15_1, hcz15_2, hcz15_3, hfz15_0, hfz15_1, hfz15_2, hfz15_3⟩ := bf4_ BK1003.out; obtain ⟨hcz16_0, hcz16_1, hcz16_2, hcz16_3, hfz16_0, hfz16_1, hfz16_2, hfz16_3⟩ := bf4_ BK1001.out) | ((with_reducible refine gate_callee (f := 82) rfl ?_); refine goesL_ (some 13) rfl rfl Try.func82 (by kernel_rfl) rfl #[.slice A0_2 l0_2.length c0_2] rfl la_ ?_; (with_reducible refine (laws_toIntS.calls k _ _ l0_2 t1007 _ ?side1 ?side2 A3.out).mono ?_); (case side1 => exact Kd.C_below HR0_2.out (bw3_ HB.out GE1001.out GE1002.out GE1003.out)); (case side2 => exact HC0_2.out); rintro e w17 ⟨v1008, rfl, ho0, hb⟩; refine ⟨_, rfl, ?_⟩; have HO1009 := sd_ (Kd.R_lower (Kd.R_new' ho0 (Kd.R_lt (by (with_reducible repeat (first | apply Kd.R_alloc | apply Kd.R_drewN | apply Kd.R_drew)); exact (Kd.R_mono (Kd.R_far (p := ⟨gb1003, 1, none⟩) (Kd.R_types HO1006.out BK1003.out (by decide)) (fun _ hk => hk.2) (.slice Ao14 t1004.length co14)) (fun _ h_ => h_.1))))) (below_size (bw3_ HB.out GE1001.out GE1002.out GE1003.out))); replace HO1006 := sd_ (Kd.R_elder' (by (with_reducible repeat (first | apply Kd.R_alloc | apply Kd.R_drewN | apply Kd.R_drew)); exact (Kd.R_mono (Kd.R_far (p := ⟨gb1003, 1, none⟩) (Kd.R_types HO1006.out BK1003.out (by decide)) (fun _ hk => hk.2) (.slice Ao14 t1004.length co14)) (fun _ h_ => h_.1))) (Kd.R_base ho0) hb); replace BK1001 := sd_ (blk_below (g := gb1001) (o := .cells #[.int .i64 a0_0, .slice A0_1 l0_1.length c0_1, .slice A0_2 l0_2.length c0_2, .slice A0_3 l0_3.length c0_3] 37 (0, 0)) (by (with_reducible repeat (first | refine blk_drewN ?_ _ | refine blk_drew ?_ | refine blk_alloc ?_ _)); refine blk_far ?_ NB1001_1003.out _; (with_reducible repeat (first | refine blk_drewN ?_ _ | refine blk_drew ?_ | refine blk_alloc ?_ _)); exact BK1001.out) hb); replace BK1002 := sd_ (blk_below (g := gb1002) (o := .cells #[.int .i64 0, .slice none 0 0, .slice none 0 0, .slice none 0 0] 27 (0, 0)) (by (with_reducible repeat (first | refine blk_drewN ?_ _ | refine blk_drew ?_ | refine blk_alloc ?_ _)); refine blk_far ?_ NB1002_1003.out _; (with_reducible repeat (first | refine blk_drewN ?_ _ | refine blk_drew ?_ | refine blk_alloc ?_ _)); exact BK1002.out) hb); replace BK1003 := sd_ (blk_below (g := gb1003) (o := .cells #[.int .i64 a0_0, .slice Ao14 t1004.length co14, .slice none 0 0, .slice none 0 0] 27 (0, 0)) (by (with_reducible repeat (first | refine blk_drewN ?_ _ | refine blk_drew ?_ | refine blk_alloc ?_ _)); refine blk_put (cs := #[.int .i64 a0_0, .slice none 0 0, .slice none 0 0, .slice none 0 0]) ?_ 1 _ rfl; (with_reducible repeat (first | refine blk_drewN ?_ _ | refine blk_drew ?_ | refine blk_alloc ?_ _)); exact BK1003.out) hb); replace HB := sd_ (below_step (bw3_ HB.out GE1001.out GE1002.out GE1003.out) hb); (try clear hb); (try clear ho0); obtain ⟨Ao18, co18, eo18⟩ := Kd.R_slice HO1009.out; subst eo18; obtain ⟨hcz19_0, hcz19_1, hcz19_2, hcz19_3, hfz19_0, hfz19_1, hfz19_2, hfz19_3⟩ := bf4_ BK1003.out; obtain ⟨hcz20_0, hcz20_1, hcz20_2, hcz20_3, hfz20_0, hfz20_1, hfz20_2, hfz20_3⟩ := bf4_ BK1001.out) | ((with_reducible refine gate_callee (f := 83) rfl ?_); refine goesL_ (some 17) rfl rfl Try.func83 (by kernel_rfl) rfl #[.slice A0_3 l0_3.length c0_3] rfl la_ ?_; (with_reducible refine (laws_toBoolS.calls k _ _ l0_3 t1010 _ ?side1 ?side2 A4.out).mono ?_); (case side1 => exact Kd.C_below HR0_3.out (bw3_ HB.out GE1001.out GE1002.out GE1003.out)); (case side2 => exact HC0_3.out); rintro e w21 ⟨v1011, rfl, ho0, hb⟩; refine ⟨_, rfl, ?_⟩; replace HO1006 := sd_ (Kd.R_below (by (with_reducible repeat (first | apply Kd.R_alloc | apply Kd.R_drewN | apply Kd.R_drew)); exact (Kd.R_mono (Kd.R_far (p := ⟨gb1003, 2, none⟩) (Kd.R_types HO1006.out BK1003.out (by decide)) (fun _ hk => hk.2) (.slice Ao18 t1007.length co18)) (fun _ h_ => h_.1))) hb); replace HO1009 := sd_ (Kd.R_below (by (with_reducible repeat (first | apply Kd.R_alloc | apply Kd.R_drewN | apply Kd.R_drew)); exact (Kd.R_mono (Kd.R_far (p := ⟨gb1003, 2, none⟩) (Kd.R_types HO1009.out BK1003.out (by decide)) (fun _ hk => hk.2) (.slice Ao18 t1007.length co18)) (fun _ h_ => h_.1))) hb); have HO1012 := sd_ (Kd.R_lower ho0 (below_size (bw3_ HB.out GE1001.out GE1002.out GE1003.out))); replace BK1001 := sd_ (blk_below (g := gb1001) (o := .cells #[.int .i64 a0_0, .slice A0_1 l0_1.length c0_1, .slice A0_2 l0_2.length c0_2, .slice A0_3 l0_3.length c0_3] 37 (0, 0)) (by (with_reducible repeat (first | refine blk_drewN ?_ _ | refine blk_drew ?_ | refine blk_alloc ?_ _)); refine blk_far ?_ NB1001_1003.out _; (with_reducible repeat (first | refine blk_drewN ?_ _ | refine blk_drew ?_ | refine blk_alloc ?_ _)); exact BK1001.out) hb); replace BK1002 := sd_ (blk_below (g := gb1002) (o := .cells #[.int .i64 0, .slice none 0 0, .slice none 0 0, .slice none 0 0] 27 (0, 0)) (by (with_reducible repeat (first | refine blk_drewN ?_ _ | refine blk_drew ?_ | refine blk_alloc ?_ _)); refine blk_far ?_ NB1002_1003.out _; (with_reducible repeat (first | refine blk_drewN ?_ _ | refine blk_drew ?_ | refine blk_alloc ?_ _)); exact BK1002.out) hb); replace BK1003 := sd_ (blk_below (g := gb1003) (o := .cells #[.int .i64 a0_0, .slice Ao14 t1004.length co14, .slice Ao18 t1007.length co18, .slice none 0 0] 27 (0, 0)) (by (with_reducible repeat (first | refine blk_drewN ?_ _ | refine blk_drew ?_ | refine blk_alloc ?_ _)); refine blk_put (cs := #[.int .i64 a0_0, .slice Ao14 t1004.length co14, .slice none 0 0, .slice none 0 0]) ?_ 2 _ rfl; (with_reducible repeat (first | refine blk_drewN ?_ _ | refine blk_drew ?_ | refine blk_alloc ?_ _)); exact BK1003.out) hb); replace HB := sd_ (below_step (bw3_ HB.out GE1001.out GE1002.out GE1003.out) hb); (try clear hb); (try clear ho0); obtain ⟨Ao22, co22, eo22⟩ := Kd.R_slice HO1012.out; subst eo22; obtain ⟨hcz23_0, hcz23_1, hcz23_2, hcz23_3, hfz23_0, hfz23_1, hfz23_2, hfz23_3⟩ := bf4_ BK1003.out; obtain ⟨hcz24_0, hcz24_1, hcz24_2, hcz24_3, hfz24_0, hfz24_1, hfz24_2, hfz24_3⟩ := bf4_ BK1002.out))
 refine bodyPost_ret (results_cell_row rfl _ _ gb1002 27 #[.int .i64 a0_0, .slice Ao14 t1004.length co14, .slice Ao18 t1007.length co18, .slice Ao22 t1010.length co22] (0, 0) _ rfl (by (with_reducible repeat (first | refine blk_drewN ?_ _ | refine blk_drew ?_ | refine blk_alloc ?_ _)); refine blk_put (cs := #[.int .i64 a0_0, .slice Ao14 t1004.length co14, .slice Ao18 t1007.length co18, .slice none 0 0]) ?_ 3 _ rfl; (with_reducible repeat (first | refine blk_drewN ?_ _ | refine blk_drew ?_ | refine blk_alloc ?_ _)); refine blk_put (cs := #[.int .i64 a0_0, .slice Ao14 t1004.length co14, .slice none 0 0, .slice none 0 0]) ?_ 2 _ rfl; (with_reducible repeat (first | refine blk_drewN ?_ _ | refine blk_drew ?_ | refine blk_alloc ?_ _)); refine blk_put (cs := #[.int .i64 a0_0, .slice none 0 0, .slice none 0 0, .slice none 0 0]) ?_ 1 _ rfl; (with_reducible repeat (first | refine blk_drewN ?_ _ | refine blk_drew ?_ | refine blk_alloc ?_ _)); refine blk_put (cs := #[.int .i64 0, .slice none 0 0, .slice none 0 0, .slice none 0 0]) ?_ 0 _ rfl; (with_reducible repeat (first | refine blk_drewN ?_ _ | refine blk_drew ?_ | refine blk_alloc ?_ _)); refine blk_far ?_ NB1002_1003.out _; (with_reducible repeat (first | refine blk_drewN ?_ _ | refine blk_drew ?_ | refine blk_alloc ?_ _)); exact BK1002.out) Try.underlying27 rfl (by kernel_rfl)) rfl ?_
 exact ⟨_, _, _, an_, by (with_reducible repeat (first | apply Kd.R_alloc | apply Kd.R_drewN | apply Kd.R_drew)); exact Kd.R_mono (Kd.R_far (p := ⟨gb1002, 3, none⟩) (Kd.R_far (p := ⟨gb1002, 2, none⟩) (Kd.R_far (p := ⟨gb1002, 1, none⟩) (Kd.R_far (p := ⟨gb1002, 0, none⟩) (Kd.R_far (p := ⟨gb1003, 3, none⟩) (Kd.R_types (Kd.R_types HO1006.out BK1003.out (by decide)) BK1002.out (by decide)) (fun _ hk => hk.1.2) (.slice Ao22 t1010.length co22)) (fun _ hk => hk.2) (.int .i64 a0_0)) (fun _ hk => hk.2) (.slice Ao14 t1004.length co14)) (fun _ hk => hk.2) (.slice Ao18 t1007.length co18)) (fun _ hk => hk.2) (.slice Ao22 t1010.length co22)) (fun _ hk => hk.1.1.2), by (with_reducible repeat (first | apply Kd.R_alloc | apply Kd.R_drewN | apply Kd.R_drew)); exact Kd.R_mono (Kd.R_far (p := ⟨gb1002, 3, none⟩) (Kd.R_far (p := ⟨gb1002, 2, none⟩) (Kd.R_far (p := ⟨gb1002, 1, none⟩) (Kd.R_far (p := ⟨gb1002, 0, none⟩) (Kd.R_far (p := ⟨gb1003, 3, none⟩) (Kd.R_types (Kd.R_types HO1009.out BK1003.out (by decide)) BK1002.out (by decide)) (fun _ hk => hk.1.2) (.slice Ao22 t1010.length co22)) (fun _ hk => hk.2) (.int .i64 a0_0)) (fun _ hk => hk.2) (.slice Ao14 t1004.length co14)) (fun _ hk => hk.2) (.slice Ao18 t1007.length co18)) (fun _ hk => hk.2) (.slice Ao22 t1010.length co22)) (fun _ hk => hk.1.1.2), by (with_reducible repeat (first | apply Kd.R_alloc | apply Kd.R_drewN | apply Kd.R_drew)); exact Kd.R_mono (Kd.R_far (p := ⟨gb1002, 3, none⟩) (Kd.R_far (p := ⟨gb1002, 2, none⟩) (Kd.R_far (p := ⟨gb1002, 1, none⟩) (Kd.R_far (p := ⟨gb1002, 0, none⟩) (Kd.R_far (p := ⟨gb1003, 3, none⟩) (Kd.R_types (Kd.R_types HO1012.out BK1003.out (by decide)) BK1002.out (by decide)) (fun _ hk => hk.1.2) (.slice Ao22 t1010.length co22)) (fun _ hk => hk.2) (.int .i64 a0_0)) (fun _ hk => hk.2) (.slice Ao14 t1004.length co14)) (fun _ hk => hk.2) (.slice Ao18 t1007.length co18)) (fun _ hk => hk.2) (.slice Ao22 t1010.length co22)) (fun _ hk => trivial), bw3_ HB.out GE1001.out GE1002.out GE1003.out⟩


/-! ### laws_eqIntS: function 84 -/
def laws_eqIntS.l0 : Nat → List Int → List Int → Int → Option (Bool)
 | 0, _, _, _ => none
 | k + 1, x0, x1, x5 => if x5 < (x0.length : Int) then (if 0 ≤ x5 then (if x5 < (x1.length : Int) then (if (rd x0 x5) = (rd x1 x5) then (laws_eqIntS.l0 k x0 x1 (wrap64 (x5 + 1))) else (some false)) else (none)) else (none)) else (some true)
def laws_eqIntS.f (k : Nat) (l0 : List Int) (l1 : List Int) : Option (Bool) := if (l0.length : Int) = (l1.length : Int) then (laws_eqIntS.l0 k l0 l1 0) else (some false)
set_option maxHeartbeats 8000000 in
set_option maxRecDepth 100000 in
theorem laws_eqIntS.calls (k : Nat) (A0 : Option Addr) (c0 : Nat) (l0 : List Int) (A1 : Option Addr) (c1 : Nat) (l1 : List Int) (r : Bool) (w : World) (hr0 : Kd.C (Kd.int .i64) w A0 l0.length l0) (hc0 : l0.length ≤ c0) (hr1 : Kd.C (Kd.int .i64) w A1 l1.length l1) (hc1 : l1.length ≤ c1) (h : laws_eqIntS.f k l0 l1 = some r) :
  Calls Try.prog 84 #[.slice A0 l0.length c0, .slice A1 l1.length c1] w fun e w' => e = .returned (.bool r) ∧ Drawn0 w w' := by
 have HR0 := sd_ hr0
 have HC0 := sd_ hc0
 clear hr0 hc0
 have HR1 := sd_ hr1
 have HC1 := sd_ hc1
 clear hr1 hc1
 have H : (if (l0.length : Int) = (l1.length : Int) then (laws_eqIntS.l0 k l0 l1 0) else (some false)) = some r := h
 clear h
 by_cases c3 : (l0.length : Int) = (l1.length : Int)
 ·rw [if_pos c3] at H
  have c3b0 : ((l0.length : Int) == (l1.length : Int)) = true := beq_iff_eq.mpr c3
  have c3b1 : ((l0.length : Int) != (l1.length : Int)) = false := bne_eq_false_iff_eq.mpr c3
  have c3b2 : (l0.length == l1.length) = true := by first | simpa using c3 | (simp at c3 ⊢; omega)
  clear c3
  have H' := sd_ H
  clear H
  go_enter Try.func84, Try.ntmps84
  go_wp2
  repeat (go_quiet (fail); try go_wp2)
  go_loopg [5] k (fun kq v5 w' => ∃ (x5_1 : Int), v5 = .int .i64 x5_1 ∧ Aside0 (laws_eqIntS.l0 kq l0 l1 x5_1 = some r) ∧ Aside0 (kq ≤ k) ∧ Drawn0 w w')
  case atStart => exact ⟨(0), sm_, H', ⟨Nat.le_refl _⟩, by repeat (first | exact Drawn0.refl _ | apply Drawn0.step)⟩
  case round =>
   clear H'
   try clear c1
   try clear p2
   try clear c3
   try clear c3b0
   try clear c3b1
   try clear c3b2
   obtain ⟨x5_1, rfl, HA, HK1, ⟨m1, rfl⟩⟩ := hrel
   cases gk with
   | zero => exact absurd HA.out (by simp [laws_eqIntS.l0])
   | succ k1 =>
    have H := HA.out
    clear HA
    simp only [laws_eqIntS.l0] at H
    by_cases c4 : x5_1 < (l0.length : Int)
    ·rw [if_pos c4] at H
     have c4b0 : decide (x5_1 < (l0.length : Int)) = true := decide_eq_true c4
     clear c4
     by_cases c5 : 0 ≤ x5_1
     ·rw [if_pos c5] at H
      have c5b0 : decide (0 ≤ x5_1) = true := decide_eq_true c5
      clear c5
      by_cases c6 : x5_1 < (l1.length : Int)
      ·rw [if_pos c6] at H
       have c6b0 : decide (x5_1 < (l1.length : Int)) = true := decide_eq_true c6
       clear c6
       by_cases c7 : (rd l0 x5_1) = (rd l1 x5_1)
       ·rw [if_pos c7] at H
        have c7b0 : ((rd l0 x5_1) == (rd l1 x5_1)) = true := beq_iff_eq.mpr c7
        have c7b1 : ((rd l0 x5_1) != (rd l1 x5_1)) = false := bne_eq_false_iff_eq.mpr c7
        clear c7
        have H' := sd_ H
        clear H
        have p1013 : 0 ≤ (x5_1 : Int) := dt_
        have q1013 : x5_1 < (l0.length : Int) := dt_
        obtain ⟨ad1013, e1013, hx1013_0⟩ := Kd.at_int HR0.out x5_1 p1013 q1013
        cases e1013
        replace p1013 := eq_true p1013
        replace q1013 := eq_true q1013
        have p1014 : 0 ≤ (x5_1 : Int) := dt_
        have q1014 : x5_1 < (l1.length : Int) := dt_
        obtain ⟨ad1014, e1014, hx1014_0⟩ := Kd.at_int HR1.out x5_1 p1014 q1014
        cases e1014
        replace p1014 := eq_true p1014
        replace q1014 := eq_true q1014
        go_wp2
        repeat (go_quiet (fail); try go_wp2)
        go_roundg k1
        case measure => have := HK1.out; omega
        case rel => exact ⟨(wrap64 (x5_1 + 1)), sm_, H', ⟨by have := HK1.out; omega⟩, by repeat (first | exact Drawn0.refl _ | apply Drawn0.step)⟩
       ·rw [if_neg c7] at H
        have c7b0 : ((rd l0 x5_1) == (rd l1 x5_1)) = false := beq_eq_false_iff_ne.mpr c7
        have c7b1 : ((rd l0 x5_1) != (rd l1 x5_1)) = true := bne_iff_ne.mpr c7
        obtain rfl := Option.some.inj H
        have p1013 : 0 ≤ (x5_1 : Int) := dt_
        have q1013 : x5_1 < (l0.length : Int) := dt_
        obtain ⟨ad1013, e1013, hx1013_0⟩ := Kd.at_int HR0.out x5_1 p1013 q1013
        cases e1013
        replace p1013 := eq_true p1013
        replace q1013 := eq_true q1013
        have p1014 : 0 ≤ (x5_1 : Int) := dt_
        have q1014 : x5_1 < (l1.length : Int) := dt_
        obtain ⟨ad1014, e1014, hx1014_0⟩ := Kd.at_int HR1.out x5_1 p1014 q1014
        cases e1014
        replace p1014 := eq_true p1014
        replace q1014 := eq_true q1014
        go_wp2
        repeat (go_quiet (fail); try go_wp2)
        go_ret
        exact ⟨by first | rfl | (simp; done) | (simp [*]; done), by repeat (first | exact Drawn0.refl _ | apply Drawn0.step)⟩
      ·rw [if_neg c6] at H
       exact absurd H (by simp)
     ·rw [if_neg c5] at H
      exact absurd H (by simp)
    ·rw [if_neg c4] at H
     have c4b0 : decide (x5_1 < (l0.length : Int)) = false := decide_eq_false c4
     clear c4
     obtain rfl := Option.some.inj H
     go_wp2
     repeat (go_quiet (fail); try go_wp2)
     go_ret
     exact ⟨by first | rfl | (simp; done) | (simp [*]; done), by repeat (first | exact Drawn0.refl _ | apply Drawn0.step)⟩
 ·rw [if_neg c3] at H
  have c3b0 : ((l0.length : Int) == (l1.length : Int)) = false := beq_eq_false_iff_ne.mpr c3
  have c3b1 : ((l0.length : Int) != (l1.length : Int)) = true := bne_iff_ne.mpr c3
  have c3b2 : (l0.length == l1.length) = false := by first | simpa using c3 | (simp at c3 ⊢; omega)
  obtain rfl := Option.some.inj H
  go_enter Try.func84, Try.ntmps84
  go_wp2
  repeat (go_quiet (fail); try go_wp2)
  go_ret
  exact ⟨by first | rfl | (simp; done) | (simp [*]; done), by repeat (first | exact Drawn0.refl _ | apply Drawn0.step)⟩


/-! ### spec_l1Second: function 87 -/
def spec_l1Second.f (a0 : Int) (a1 : Int) : Option (Int) := if a1 < 2 then (some a1) else (if a1 ≤ (wrap64 (a0 + 1)) then (if a0 = 0 then (none) else (some (Int.tmod (wrap64 (a1 - 1)) a0))) else (if a0 = 0 then (none) else (some (Int.tmod a1 a0))))
set_option maxHeartbeats 8000000 in
set_option maxRecDepth 100000 in
theorem spec_l1Second.calls (a0 : Int) (a1 : Int) (r : Int) (w : World) (h : spec_l1Second.f a0 a1 = some r) :
  Calls Try.prog 87 #[.int .i64 a0, .int .i64 a1] w fun e w' => e = .returned (.int .i64 r) ∧ Drawn0 w w' := by
 have H : (if a1 < 2 then (some a1) else (if a1 ≤ (wrap64 (a0 + 1)) then (if a0 = 0 then (none) else (some (Int.tmod (wrap64 (a1 - 1)) a0))) else (if a0 = 0 then (none) else (some (Int.tmod a1 a0))))) = some r := h
 clear h
 by_cases c3 : a1 < 2
 ·rw [if_pos c3] at H
  have c3b0 : decide (a1 < 2) = true := decide_eq_true c3
  clear c3
  obtain rfl := Option.some.inj H
  go_enter Try.func87, Try.ntmps87
  go_wp2
  go_ret
  exact ⟨by first | rfl | (simp; done) | (simp [*]; done), by repeat (first | exact Drawn0.refl _ | apply Drawn0.step)⟩
 ·rw [if_neg c3] at H
  have c3b0 : decide (a1 < 2) = false := decide_eq_false c3
  clear c3
  by_cases c4 : a1 ≤ (wrap64 (a0 + 1))
  ·rw [if_pos c4] at H
   have c4b0 : decide (a1 ≤ (wrap64 (a0 + 1))) = true := decide_eq_true c4
   clear c4
   by_cases c5 : a0 = 0
   ·rw [if_pos c5] at H
    exact absurd H (by simp)
   ·rw [if_neg c5] at H
    have c5b0 : (a0 == 0) = false := beq_eq_false_iff_ne.mpr c5
    have c5b1 : (a0 != 0) = true := bne_iff_ne.mpr c5
    obtain rfl := Option.some.inj H
    go_enter Try.func87, Try.ntmps87
    go_wp2
    go_ret
    exact ⟨by first | rfl | (simp; done) | (simp [*]; done), by repeat (first | exact Drawn0.refl _ | apply Drawn0.step)⟩
  ·rw [if_neg c4] at H
   have c4b0 : decide (a1 ≤ (wrap64 (a0 + 1))) = false := decide_eq_false c4
   clear c4
   by_cases c6 : a0 = 0
   ·rw [if_pos c6] at H
    exact absurd H (by simp)
   ·rw [if_neg c6] at H
    have c6b0 : (a0 == 0) = false := beq_eq_false_iff_ne.mpr c6
    have c6b1 : (a0 != 0) = true := bne_iff_ne.mpr c6
    obtain rfl := Option.some.inj H
    go_enter Try.func87, Try.ntmps87
    go_wp2
    go_ret
    exact ⟨by first | rfl | (simp; done) | (simp [*]; done), by repeat (first | exact Drawn0.refl _ | apply Drawn0.step)⟩


/-! ### impl_counted_1: function 121 -/
def impl_counted_1.f (a0 : Int) (a1 : Int) (a2_0 : Int) : Option (Int) := some (mn (wrap64 (a0 + a1)) a2_0)
set_option maxHeartbeats 8000000 in
set_option maxRecDepth 100000 in
theorem impl_counted_1.calls (a0 : Int) (a1 : Int) (g2 : Nat) (a2_0 : Int) (r : Int) (w : World) (hb2 : w.heap[g2]? = some (.cells #[.int .i64 a2_0] 3 (0, 0))) (h : impl_counted_1.f a0 a1 a2_0 = some r) :
  Calls Try.prog 121 #[.int .i64 a0, .int .i64 a1, .pointer (some ⟨g2, 0, none⟩)] w fun e w' => e = .returned (.int .i64 r) ∧ Below w.heap.size w w' := by
 have BK2 := sd_ hb2
 clear hb2
 have HB := sd_ (Below.refl w.heap.size w)
 have H : (some (mn (wrap64 (a0 + a1)) a2_0)) = some r := h
 clear h
 obtain ⟨ji4, hji4⟩ : ∃ j_ : Int, (mn (wrap64 (a0 + a1)) a2_0) = j_ := ⟨_, rfl⟩
 replace H : (some ji4) = some r := by first | (rw [hji4] at H; exact H) | (simp only [hji4] at H ⊢; exact H)
 have hji4_ : (if a2_0 < (wrap64 (a0 + a1)) then a2_0 else (wrap64 (a0 + a1))) = ji4 := hji4
 obtain rfl := Option.some.inj H
 have hcz5_0 : w.cell? ⟨g2, 0, none⟩ = some (.int .i64 a2_0) := (blk_cell BK2.out 0).trans rfl
 have hfz5_0 := blk_frozen BK2.out 0
 go_enter Try.func121, Try.ntmps121
 go_wp2
 go_ret
 exact ⟨by first | rfl | (simp [errW_none, errW_some] <;> rfl) | (simp only [← hji4]; first | rfl | (simp [errW_none, errW_some] <;> rfl)) | (simp [*, errW_none, errW_some] <;> rfl), bw0_ HB.out⟩

end Go.Proofs.Ytcdmnofomoadlaa.P
end
