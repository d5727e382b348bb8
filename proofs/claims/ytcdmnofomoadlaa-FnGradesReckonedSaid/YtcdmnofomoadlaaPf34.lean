-- Printed by this session's own program (wip/tools/mkprint.py) out of the translation. Not trusted: Lean checks it.
import Derived.Test.YtcdmnofomoadlaaM1
import Derived.Test.YtcdmnofomoadlaaPf31
import Derived.Test.YtcdmnofomoadlaaPf74
import Derived.Test.YtcdmnofomoadlaaPf98
/-! short words -/
namespace Go.Proofs.Ytcdmnofomoadlaa.P
open Go.RowKit Go.Proofs.YtcdmnofomoadlaaW.PrintWords Go.Proofs.YtcdmnofomoadlaaW.PrintLast Go.Proofs.YtcdmnofomoadlaaW.PrintMore
attribute [local go_sem] max2_int min2_int max_two min_two max_three min_three max_four min_four   -- for this text's walks alone
set_option linter.unusedVariables false
set_option linter.unusedSimpArgs false

/-! ### impl_SumGrades: function 34 -/
mutual
def impl_SumGrades.j0 : Nat → List Int → Bool → Int → List Int → List Int → List Bool → Option (Int)
 | 0, _, _, _, _, _, _ => none
 | k + 1, x1, x15, x777000, x777001, x777002, x777003 => if x15 = true then (some (-1)) else (impl_SumGrades.l0 k 0 x1 (x1.length : Int) 0 x777000 x777001 x777002 x777003)
def impl_SumGrades.l0 : Nat → Int → List Int → Int → Int → Int → List Int → List Int → List Bool → Option (Int)
 | 0, _, _, _, _, _, _, _, _ => none
 | k + 1, x5, x16, x17, x18, x777000, x777001, x777002, x777003 => if x18 < x17 then (if 0 ≤ x18 then (if x18 < (x16.length : Int) then ((impl_System_plus.f x777000 x777001 x777002 x777003 x5 (rd x16 x18)).bind fun t780 => (impl_SumGrades.l0 k t780 x16 x17 (wrap64 (x18 + 1)) x777000 x777001 x777002 x777003)) else (none)) else (none)) else (some x5)
end
def impl_SumGrades.f (k : Nat) (a0_0 : Int) (l0_1 : List Int) (l0_2 : List Int) (l0_3 : List Bool) (l1 : List Int) : Option (Int) := (impl_IsSystem.f k a0_0 l0_1 l0_2 l0_3).bind fun t777 => (if t777 = true then ((slices_ContainsFunc_int_int.f k l1 (fun z0_ => impl_SumGrades_1.f z0_ a0_0 l0_1 l0_2 l0_3)).bind fun t778 => (impl_SumGrades.j0 k l1 t778 a0_0 l0_1 l0_2 l0_3)) else (impl_SumGrades.j0 k l1 true a0_0 l0_1 l0_2 l0_3))
set_option maxHeartbeats 8000000 in
set_option maxRecDepth 100000 in
theorem impl_SumGrades.calls (k : Nat) (a0_0 : Int) (A0_1 : Option Addr) (c0_1 : Nat) (l0_1 : List Int) (A0_2 : Option Addr) (c0_2 : Nat) (l0_2 : List Int) (A0_3 : Option Addr) (c0_3 : Nat) (l0_3 : List Bool) (A1 : Option Addr) (c1 : Nat) (l1 : List Int) (r : Int) (w : World) (hr0_1 : Kd.C (Kd.int .i64) w A0_1 l0_1.length l0_1) (hc0_1 : l0_1.length ≤ c0_1) (hr0_2 : Kd.C (Kd.int .i64) w A0_2 l0_2.length l0_2) (hc0_2 : l0_2.length ≤ c0_2) (hr0_3 : Kd.C Kd.bool w A0_3 l0_3.length l0_3) (hc0_3 : l0_3.length ≤ c0_3) (hr1 : Kd.C (Kd.int .i64) w A1 l1.length l1) (hc1 : l1.length ≤ c1) (h : impl_SumGrades.f k a0_0 l0_1 l0_2 l0_3 l1 = some r) :
  Calls Try.prog 34 #[.agg #[.int .i64 a0_0, .slice A0_1 l0_1.length c0_1, .slice A0_2 l0_2.length c0_2, .slice A0_3 l0_3.length c0_3], .slice A1 l1.length c1] w fun e w' => e = .returned (.int .i64 r) ∧ Below w.heap.size w w' := by
 have hu27 := Try.underlying27
 have HR0_1 := sd_ hr0_1
 have HC0_1 := sd_ hc0_1
 clear hr0_1 hc0_1
 have HR0_2 := sd_ hr0_2
 have HC0_2 := sd_ hc0_2
 clear hr0_2 hc0_2
 have HR0_3 := sd_ hr0_3
 have HC0_3 := sd_ hc0_3
 clear hr0_3 hc0_3
 have HR1 := sd_ hr1
 have HC1 := sd_ hc1
 clear hr1 hc1
 have HB := sd_ (Below.refl w.heap.size w)
 have H : ((impl_IsSystem.f k a0_0 l0_1 l0_2 l0_3).bind fun t777 => (if t777 = true then ((slices_ContainsFunc_int_int.f k l1 (fun z0_ => impl_SumGrades_1.f z0_ a0_0 l0_1 l0_2 l0_3)).bind fun t778 => (impl_SumGrades.j0 k l1 t778 a0_0 l0_1 l0_2 l0_3)) else (impl_SumGrades.j0 k l1 true a0_0 l0_1 l0_2 l0_3))) = some r := h
 clear h
 have HC3 := sd_ H
 clear H
 go_enter Try.func34, Try.ntmps34
 go_upto_region 1 with (first | ((with_reducible refine gate_dst (N := 2) rfl ?_); refine bx_ (N := 2) (cs := #[.int .i64 a0_0, .slice A0_1 l0_1.length c0_1, .slice A0_2 l0_2.length c0_2, .slice A0_3 l0_3.length c0_3]) (t := 27) ?_; intro gb776 hg w4 hbox hb; have BK776 := sd_ (hbox); have GW776 := sd_ (gs_ hg (bw0_ HB.out)); have GE776 := sd_ (gs_ hg (bw0_ HB.out)); replace HB := sd_ (below_step (bw0_ HB.out) hb); clear hb hbox hg))
 (try simp only [Act.put, List.setIfInBounds_toArray, List.set_cons_zero, List.set_cons_succ])
 go_cut [15] (fun v15 wc => ∃ (kq : Nat) (x15_2 : Bool), v15 = .bool x15_2 ∧ Aside0 (impl_SumGrades.j0 kq l1 x15_2 a0_0 l0_1 l0_2 l0_3 = some r) ∧ Aside0 (kq ≤ k) ∧ Aside0 (wc.heap[gb776]? = some (.cells #[.int .i64 a0_0, (.slice A0_1 l0_1.length c0_1), (.slice A0_2 l0_2.length c0_2), (.slice A0_3 l0_3.length c0_3)] 27 (0, 0))) ∧ Aside0 (Below w.heap.size w wc))
 case first =>
  have H := HC3.out
  clear HC3
  replace H := Option.bind_eq_some_iff.mp H
  obtain ⟨t777, A50, H⟩ := H
  try dsimp only at H
  have A5 := sd_ A50
  clear A50
  by_cases c6 : t777 = true
  ·subst c6
   have H1 : ((slices_ContainsFunc_int_int.f k l1 (fun z0_ => impl_SumGrades_1.f z0_ a0_0 l0_1 l0_2 l0_3)).bind fun t778 => (impl_SumGrades.j0 k l1 t778 a0_0 l0_1 l0_2 l0_3)) = some r := by rw [if_pos rfl] at H; exact H
   clear H
   have H := H1
   clear H1
   replace H := Option.bind_eq_some_iff.mp H
   obtain ⟨t778, A70, H⟩ := H
   try dsimp only at H
   have A7 := sd_ A70
   clear A70
   have H' := sd_ H
   clear H
   obtain ⟨hcz8_0, hcz8_1, hcz8_2, hcz8_3, hfz8_0, hfz8_1, hfz8_2, hfz8_3⟩ := bf4_ BK776.out
   go_wp2_with (first | ((with_reducible refine gate_callee (f := 31) rfl ?_); refine goesL_ (some 9) rfl rfl Try.func31 (by kernel_rfl) rfl #[.agg #[.int .i64 a0_0, .slice A0_1 l0_1.length c0_1, .slice A0_2 l0_2.length c0_2, .slice A0_3 l0_3.length c0_3]] rfl la_ ?_; (with_reducible refine (impl_IsSystem.calls k a0_0 _ _ l0_1 _ _ l0_2 _ _ l0_3 true _ (kc_ HR0_1.out HB.out) HC0_1.out (kc_ HR0_2.out HB.out) HC0_2.out (kc_ HR0_3.out HB.out) HC0_3.out A5.out).mono ?_); rintro e w9 ⟨rfl, hb⟩; refine ⟨_, rfl, ?_⟩; replace BK776 := sd_ (bb_ BK776.out hb); replace HB := sd_ (below_step (bw1_ HB.out GE776.out) hb); (try clear hb)) | (go_at_call 74; (with_reducible refine (slices_ContainsFunc_int_int.calls k _ _ l1 (fun z0_ => impl_SumGrades_1.f z0_ a0_0 l0_1 l0_2 l0_3) 98 #[] #[.pointer (some ⟨gb776, 0, none⟩)] t778 _ ?side1 ?side2 ?side3 ?side4 A7.out).mono ?_); (case side1 => exact kc_ HR1.out HB.out); (case side2 => exact HC1.out); (case side3 => exact ⟨_, Try.func98, (by kernel_rfl), rfl⟩); (case side4 => intro z0_0 rr0_0 w9_0  hb9_0 h9_0; refine calls_of_args (args' := #[.int .i64 z0_0, .pointer (some ⟨gb776, 0, none⟩)]) (by first | rfl | simp) ?_; refine (impl_SumGrades_1.calls z0_0 gb776 a0_0 _ _ l0_1 _ _ l0_2 _ _ l0_3 rr0_0 w9_0 (Kd.C_below (by exact kc_ HR0_1.out HB.out) hb9_0) (by exact HC0_1.out) (Kd.C_below (by exact kc_ HR0_2.out HB.out) hb9_0) (by exact HC0_2.out) (Kd.C_below (by exact kc_ HR0_3.out HB.out) hb9_0) (by exact HC0_3.out) (blk_below (bz_ BK776.out) hb9_0) h9_0).mono ?_; exact fun _ _ h_ => h_); rintro e w10 ⟨rfl, hb⟩; replace BK776 := sd_ (bb_ BK776.out hb); replace HB := sd_ (below_step (bw1_ HB.out GE776.out) hb); (try clear hb)))
   go_meet
   case rel => exact ⟨_, (t778), sm_, H', ⟨by first | omega | exact Nat.le_refl _⟩, ⟨by exact bz_ BK776.out⟩, ⟨bw1_ HB.out GE776.out⟩⟩
  replace c6 := Bool.eq_false_iff.mpr c6
  subst c6
  have H1 : (impl_SumGrades.j0 k l1 true a0_0 l0_1 l0_2 l0_3) = some r := by rw [if_neg (show ¬ (false = true) by decide)] at H; exact H
  clear H
  have H := H1
  clear H1
  have H' := sd_ H
  clear H
  obtain ⟨hcz11_0, hcz11_1, hcz11_2, hcz11_3, hfz11_0, hfz11_1, hfz11_2, hfz11_3⟩ := bf4_ BK776.out
  go_wp2_with (first | ((with_reducible refine gate_callee (f := 31) rfl ?_); refine goesL_ (some 9) rfl rfl Try.func31 (by kernel_rfl) rfl #[.agg #[.int .i64 a0_0, .slice A0_1 l0_1.length c0_1, .slice A0_2 l0_2.length c0_2, .slice A0_3 l0_3.length c0_3]] rfl la_ ?_; (with_reducible refine (impl_IsSystem.calls k a0_0 _ _ l0_1 _ _ l0_2 _ _ l0_3 false _ (kc_ HR0_1.out HB.out) HC0_1.out (kc_ HR0_2.out HB.out) HC0_2.out (kc_ HR0_3.out HB.out) HC0_3.out A5.out).mono ?_); rintro e w12 ⟨rfl, hb⟩; refine ⟨_, rfl, ?_⟩; replace BK776 := sd_ (bb_ BK776.out hb); replace HB := sd_ (below_step (bw1_ HB.out GE776.out) hb); (try clear hb)))
  go_meet
  case rel => exact ⟨_, (true), sm_, H', ⟨by first | omega | exact Nat.le_refl _⟩, ⟨by exact bz_ BK776.out⟩, ⟨bw1_ HB.out GE776.out⟩⟩
 case rest =>
  clear HC3
  try clear c1
  try clear c3
  obtain ⟨kq, x15_2, rfl, HA, HJ2, BK776, HB⟩ := hcut
  cases kq with
  | zero => exact absurd HA.out (by simp [impl_SumGrades.j0])
  | succ kj2 =>
   have H := HA.out
   clear HA
   simp only [impl_SumGrades.j0] at H
   by_cases c13 : x15_2 = true
   ·subst c13
    have H1 : (some (-1)) = some r := by rw [if_pos rfl] at H; exact H
    clear H
    have H := H1
    clear H1
    obtain rfl := Option.some.inj H
    go_wp2
    go_ret
    exact ⟨an_, bw1_ HB.out GE776.out⟩
   replace c13 := Bool.eq_false_iff.mpr c13
   subst c13
   have H1 : (impl_SumGrades.l0 kj2 0 l1 (l1.length : Int) 0 a0_0 l0_1 l0_2 l0_3) = some r := by rw [if_neg (show ¬ (false = true) by decide)] at H; exact H
   clear H
   have H := H1
   clear H1
   have H' := sd_ H
   clear H
   go_wp2
   go_loopg [5, 18] kj2 (fun kq v5 v18 w' => ∃ (x5_2 : Int) (x18_2 : Int), v5 = .int .i64 x5_2 ∧ v18 = .int .i64 x18_2 ∧ Aside0 (impl_SumGrades.l0 kq x5_2 l1 (l1.length : Int) x18_2 a0_0 l0_1 l0_2 l0_3 = some r) ∧ Aside0 (kq ≤ kj2) ∧ Aside0 (w'.heap[gb776]? = some (.cells #[.int .i64 a0_0, (.slice A0_1 l0_1.length c0_1), (.slice A0_2 l0_2.length c0_2), (.slice A0_3 l0_3.length c0_3)] 27 (0, 0))) ∧ Aside0 (Below w.heap.size w w'))
   case atStart => exact ⟨(0), (0), sm_, sm_, H', ⟨Nat.le_refl _⟩, ⟨by exact bz_ BK776.out⟩, ⟨bw1_ HB.out GE776.out⟩⟩
   case round =>
    clear H'
    try clear c1
    try clear p2
    try clear c3
    try clear c13
    obtain ⟨x5_2, x18_2, rfl, rfl, HA, HK2, BK776, HB⟩ := hrel
    cases gk with
    | zero => exact absurd HA.out (by simp [impl_SumGrades.l0])
    | succ k2 =>
     have H := HA.out
     clear HA
     simp only [impl_SumGrades.l0] at H
     by_cases c14 : x18_2 < (l1.length : Int)
     ·rw [if_pos c14] at H
      have c14b0 : decide (x18_2 < (l1.length : Int)) = true := decide_eq_true c14
      clear c14
      by_cases c15 : 0 ≤ x18_2
      ·rw [if_pos c15] at H
       have c15b0 : decide (0 ≤ x18_2) = true := decide_eq_true c15
       clear c15
       by_cases c16 : x18_2 < (l1.length : Int)
       ·rw [if_pos c16] at H
        have c16b0 : decide (x18_2 < (l1.length : Int)) = true := decide_eq_true c16
        clear c16
        replace H := Option.bind_eq_some_iff.mp H
        obtain ⟨t780, A170, H⟩ := H
        try dsimp only at H
        have A17 := sd_ A170
        clear A170
        have H' := sd_ H
        clear H
        have p779 : 0 ≤ (x18_2 : Int) := dt_
        have q779 : x18_2 < (l1.length : Int) := dt_
        obtain ⟨ad779, e779, hx779_0⟩ := Kd.at_int HR1.out x18_2 p779 q779
        cases e779
        replace hx779_0 := (HB.out.cell (World.block_lt_of_cell? w _ hx779_0)).trans hx779_0
        replace p779 := eq_true p779
        replace q779 := eq_true q779
        obtain ⟨hcz18_0, hcz18_1, hcz18_2, hcz18_3, hfz18_0, hfz18_1, hfz18_2, hfz18_3⟩ := bf4_ BK776.out
        go_wp2_with (first | ((with_reducible refine gate_callee (f := 67) rfl ?_); refine goesL_ (some 25) rfl rfl Try.func67 (by kernel_rfl) rfl #[.agg #[.int .i64 a0_0, .slice A0_1 l0_1.length c0_1, .slice A0_2 l0_2.length c0_2, .slice A0_3 l0_3.length c0_3], .int .i64 x5_2, .int .i64 (rd l1 x18_2)] rfl la_ ?_; (with_reducible refine (impl_System_plus.calls a0_0 _ _ l0_1 _ _ l0_2 _ _ l0_3 x5_2 (rd l1 x18_2) t780 _ (kc_ HR0_1.out HB.out) HC0_1.out (kc_ HR0_2.out HB.out) HC0_2.out (kc_ HR0_3.out HB.out) HC0_3.out A17.out).mono ?_); rintro e w19 ⟨rfl, hb⟩; refine ⟨_, rfl, ?_⟩; replace BK776 := sd_ (bb_ BK776.out hb); replace HB := sd_ (below_step (bw1_ HB.out GE776.out) hb); (try clear hb)))
        go_roundg k2
        case measure => have := HJ2.out; have := HK2.out; omega
        case rel => exact ⟨(t780), (wrap64 (x18_2 + 1)), sm_, sm_, H', ⟨by have := HJ2.out; have := HK2.out; omega⟩, ⟨by exact bz_ BK776.out⟩, ⟨bw1_ HB.out GE776.out⟩⟩
       rw [if_neg c16] at H
       exact absurd H (by simp)
      rw [if_neg c15] at H
      exact absurd H (by simp)
     rw [if_neg c14] at H
     have c14b0 : decide (x18_2 < (l1.length : Int)) = false := decide_eq_false c14
     clear c14
     obtain rfl := Option.some.inj H
     go_wp2
     go_ret
     exact ⟨an_, bw1_ HB.out GE776.out⟩

end Go.Proofs.Ytcdmnofomoadlaa.P
