-- Several texts in one (wip/tools/merge2.py).
import Derived.Test.YtcdmnofomoadlaaM1
import Derived.Test.YtcdmnofomoadlaaM2
section
namespace Go.Proofs.Ytcdmnofomoadlaa.P
open Go.RowKit Go.Proofs.YtcdmnofomoadlaaW.PrintWords Go.Proofs.YtcdmnofomoadlaaW.PrintLast Go.Proofs.YtcdmnofomoadlaaW.PrintMore
attribute [local go_sem] max2_int min2_int max_two min_two max_three min_three max_four min_four   -- for this text's walks alone
set_option linter.unusedVariables false
set_option linter.unusedSimpArgs false
/-! ### spec_l1Tables: function 101 -/
mutual
def spec_l1Tables.j0 : Nat → Bool → Int → List Int → List Int → List Bool → Option (Bool)
 | 0, _, _, _, _, _ => none
 | k + 1, x40, x141000, x141001, x141002, x141003 => if x40 = true then (some false) else (spec_l1Tables.l0 k 0 x141000 x141001 x141002 x141003)
def spec_l1Tables.l0 : Nat → Int → Int → List Int → List Int → List Bool → Option (Bool)
 | 0, _, _, _, _, _ => none
 | k + 1, x3, x141000, x141001, x141002, x141003 => if x3 < (x141001.length : Int) then (if 0 ≤ x3 then ((spec_l1In.f (rd x141001 x3) 0 (wrap64 (x141000 - 1))).bind fun t143 => (if t143 = true then (if x3 < (x141002.length : Int) then ((spec_l1In.f (rd x141002 x3) 0 (wrap64 (x141000 - 1))).bind fun t145 => (if t145 = true then (spec_l1Tables.l0 k (wrap64 (x3 + 1)) x141000 x141001 x141002 x141003) else (some false))) else (none)) else (some false))) else (none)) else (some true)
end
def spec_l1Tables.f (k : Nat) (a0_0 : Int) (l0_1 : List Int) (l0_2 : List Int) (l0_3 : List Bool) : Option (Bool) := (spec_l1In.f a0_0 2 16).bind fun t141 => (if t141 = true then (if (l0_1.length : Int) = (wrap64 (a0_0 * a0_0)) then (if (l0_2.length : Int) = (wrap64 (a0_0 * a0_0)) then (spec_l1Tables.j0 k ((l0_3.length : Int) != (wrap64 (a0_0 * a0_0))) a0_0 l0_1 l0_2 l0_3) else (spec_l1Tables.j0 k true a0_0 l0_1 l0_2 l0_3)) else (spec_l1Tables.j0 k true a0_0 l0_1 l0_2 l0_3)) else (spec_l1Tables.j0 k true a0_0 l0_1 l0_2 l0_3))
set_option maxHeartbeats 8000000 in
set_option maxRecDepth 100000 in
theorem spec_l1Tables.calls (k : Nat) (a0_0 : Int) (A0_1 : Option Addr) (c0_1 : Nat) (l0_1 : List Int) (A0_2 : Option Addr) (c0_2 : Nat) (l0_2 : List Int) (A0_3 : Option Addr) (c0_3 : Nat) (l0_3 : List Bool) (r : Bool) (w : World) (hr0_1 : Kd.C (Kd.int .i64) w A0_1 l0_1.length l0_1) (hc0_1 : l0_1.length ≤ c0_1) (hr0_2 : Kd.C (Kd.int .i64) w A0_2 l0_2.length l0_2) (hc0_2 : l0_2.length ≤ c0_2) (hr0_3 : Kd.C Kd.bool w A0_3 l0_3.length l0_3) (hc0_3 : l0_3.length ≤ c0_3) (h : spec_l1Tables.f k a0_0 l0_1 l0_2 l0_3 = some r) :
  Calls Try.prog 101 #[.agg #[.int .i64 a0_0, .slice A0_1 l0_1.length c0_1, .slice A0_2 l0_2.length c0_2, .slice A0_3 l0_3.length c0_3]] w fun e w' => e = .returned (.bool r) ∧ Below w.heap.size w w' := by
 have hu27 := Try.underlying27
 have HR0_1 := sd_ hr0_1
 have HC0_1 := sd_ hc0_1
 clear hr0_1 hc0_1
 have HR0_2 := sd_ hr0_2
 have HC0_2 := sd_ hc0_2
 clear hr0_2 hc0_2
 have HR0_3 := sd_ hr0_3
 have HC0_3 := sd_ hc0_3
 clear hr0_3 hc0_3
 have HB := sd_ (Below.refl w.heap.size w)
 have H : ((spec_l1In.f a0_0 2 16).bind fun t141 => (if t141 = true then (if (l0_1.length : Int) = (wrap64 (a0_0 * a0_0)) then (if (l0_2.length : Int) = (wrap64 (a0_0 * a0_0)) then (spec_l1Tables.j0 k ((l0_3.length : Int) != (wrap64 (a0_0 * a0_0))) a0_0 l0_1 l0_2 l0_3) else (spec_l1Tables.j0 k true a0_0 l0_1 l0_2 l0_3)) else (spec_l1Tables.j0 k true a0_0 l0_1 l0_2 l0_3)) else (spec_l1Tables.j0 k true a0_0 l0_1 l0_2 l0_3))) = some r := h
 clear h
 have HC2 := sd_ H
 clear H
 go_enter Try.func101, Try.ntmps101
 go_upto_region 1 with (first | ((with_reducible refine gate_dst (N := 1) rfl ?_); (try (refine gate_guard (by rfl) ?_; dsimp only)); refine bx_ (N := 1) (cs := #[.int .i64 a0_0, .slice A0_1 l0_1.length c0_1, .slice A0_2 l0_2.length c0_2, .slice A0_3 l0_3.length c0_3]) (t := 27) ?_; intro gb140 hg w3 hbox hb; have BK140 := sd_ (hbox); have GW140 := sd_ (gs_ hg (bw0_ HB.out)); have GE140 := sd_ (gs_ hg (bw0_ HB.out)); replace HB := sd_ (below_step (bw0_ HB.out) hb); clear hb hbox hg))
 (try simp only [Act.put, List.setIfInBounds_toArray, List.set_cons_zero, List.set_cons_succ])
 go_cut [40] (fun v40 wc => ∃ (kq : Nat) (x40_1 : Bool), v40 = .bool x40_1 ∧ Aside0 (spec_l1Tables.j0 kq x40_1 a0_0 l0_1 l0_2 l0_3 = some r) ∧ Aside0 (kq ≤ k) ∧ Aside0 (wc.heap[gb140]? = some (.cells #[.int .i64 a0_0, (.slice A0_1 l0_1.length c0_1), (.slice A0_2 l0_2.length c0_2), (.slice A0_3 l0_3.length c0_3)] 27 (0, 0))) ∧ Aside0 (Below w.heap.size w wc))
 case first =>
  have H := HC2.out
  clear HC2
  replace H := Option.bind_eq_some_iff.mp H
  obtain ⟨t141, A40, H⟩ := H
  try dsimp only at H
  have A4 := sd_ A40
  clear A40
  by_cases c5 : t141 = true
  ·subst c5
   have H1 : (if (l0_1.length : Int) = (wrap64 (a0_0 * a0_0)) then (if (l0_2.length : Int) = (wrap64 (a0_0 * a0_0)) then (spec_l1Tables.j0 k ((l0_3.length : Int) != (wrap64 (a0_0 * a0_0))) a0_0 l0_1 l0_2 l0_3) else (spec_l1Tables.j0 k true a0_0 l0_1 l0_2 l0_3)) else (spec_l1Tables.j0 k true a0_0 l0_1 l0_2 l0_3)) = some r := by rw [if_pos rfl] at H; exact H
   clear H
   have H := H1
   clear H1
   by_cases c6 : (l0_1.length : Int) = (wrap64 (a0_0 * a0_0))
   ·rw [if_pos c6] at H
    have c6b0 : ((l0_1.length : Int) == (wrap64 (a0_0 * a0_0))) = true := beq_iff_eq.mpr c6
    have c6b1 : ((l0_1.length : Int) != (wrap64 (a0_0 * a0_0))) = false := bne_eq_false_iff_eq.mpr c6
    clear c6
    (first | rw [c6b0] | (simp only [i64_w, i32_w]; rw [c6b0]) | skip)
    by_cases c7 : (l0_2.length : Int) = (wrap64 (a0_0 * a0_0))
    ·rw [if_pos c7] at H
     have c7b0 : ((l0_2.length : Int) == (wrap64 (a0_0 * a0_0))) = true := beq_iff_eq.mpr c7
     have c7b1 : ((l0_2.length : Int) != (wrap64 (a0_0 * a0_0))) = false := bne_eq_false_iff_eq.mpr c7
     clear c7
     have H' := sd_ H
     clear H
     obtain ⟨hcz8_0, hcz8_1, hcz8_2, hcz8_3, hfz8_0, hfz8_1, hfz8_2, hfz8_3⟩ := bf4_ BK140.out
     go_wp2_with (first | ((with_reducible refine gate_callee (f := 80) rfl ?_); refine goesL_ (some 6) rfl rfl Try.func80 (by kernel_rfl) rfl #[.int .i64 a0_0, .int .i64 2, .int .i64 16] rfl la_ ?_; (with_reducible refine (spec_l1In.calls a0_0 2 16 true _ A4.out).mono ?_); rintro e w' ⟨rfl, ⟨nd, rfl⟩⟩; refine ⟨_, rfl, ?_⟩))
     go_meet
     case rel => exact ⟨_, (((l0_3.length : Int) != (wrap64 (a0_0 * a0_0)))), sm_, H', ⟨by first | omega | exact Nat.le_refl _⟩, ⟨by exact bz_ BK140.out⟩, ⟨bw1_ HB.out GE140.out⟩⟩
    rw [if_neg c7] at H
    have c7b0 : ((l0_2.length : Int) == (wrap64 (a0_0 * a0_0))) = false := beq_eq_false_iff_ne.mpr c7
    have c7b1 : ((l0_2.length : Int) != (wrap64 (a0_0 * a0_0))) = true := bne_iff_ne.mpr c7
    have H' := sd_ H
    clear H
    obtain ⟨hcz9_0, hcz9_1, hcz9_2, hcz9_3, hfz9_0, hfz9_1, hfz9_2, hfz9_3⟩ := bf4_ BK140.out
    go_wp2_with (first | ((with_reducible refine gate_callee (f := 80) rfl ?_); refine goesL_ (some 6) rfl rfl Try.func80 (by kernel_rfl) rfl #[.int .i64 a0_0, .int .i64 2, .int .i64 16] rfl la_ ?_; (with_reducible refine (spec_l1In.calls a0_0 2 16 true _ A4.out).mono ?_); rintro e w' ⟨rfl, ⟨nd, rfl⟩⟩; refine ⟨_, rfl, ?_⟩))
    go_meet
    case rel => exact ⟨_, (true), sm_, H', ⟨by first | omega | exact Nat.le_refl _⟩, ⟨by exact bz_ BK140.out⟩, ⟨bw1_ HB.out GE140.out⟩⟩
   rw [if_neg c6] at H
   have c6b0 : ((l0_1.length : Int) == (wrap64 (a0_0 * a0_0))) = false := beq_eq_false_iff_ne.mpr c6
   have c6b1 : ((l0_1.length : Int) != (wrap64 (a0_0 * a0_0))) = true := bne_iff_ne.mpr c6
   (first | rw [c6b0] | (simp only [i64_w, i32_w]; rw [c6b0]) | skip)
   have H' := sd_ H
   clear H
   obtain ⟨hcz10_0, hcz10_1, hcz10_2, hcz10_3, hfz10_0, hfz10_1, hfz10_2, hfz10_3⟩ := bf4_ BK140.out
   go_wp2_with (first | ((with_reducible refine gate_callee (f := 80) rfl ?_); refine goesL_ (some 6) rfl rfl Try.func80 (by kernel_rfl) rfl #[.int .i64 a0_0, .int .i64 2, .int .i64 16] rfl la_ ?_; (with_reducible refine (spec_l1In.calls a0_0 2 16 true _ A4.out).mono ?_); rintro e w' ⟨rfl, ⟨nd, rfl⟩⟩; refine ⟨_, rfl, ?_⟩))
   go_meet
   case rel => exact ⟨_, (true), sm_, H', ⟨by first | omega | exact Nat.le_refl _⟩, ⟨by exact bz_ BK140.out⟩, ⟨bw1_ HB.out GE140.out⟩⟩
  replace c5 := Bool.eq_false_iff.mpr c5
  subst c5
  have H1 : (spec_l1Tables.j0 k true a0_0 l0_1 l0_2 l0_3) = some r := by rw [if_neg (show ¬ (false = true) by decide)] at H; exact H
  clear H
  have H := H1
  clear H1
  have H' := sd_ H
  clear H
  obtain ⟨hcz11_0, hcz11_1, hcz11_2, hcz11_3, hfz11_0, hfz11_1, hfz11_2, hfz11_3⟩ := bf4_ BK140.out
  go_wp2_with (first | ((with_reducible refine gate_callee (f := 80) rfl ?_); refine goesL_ (some 6) rfl rfl Try.func80 (by kernel_rfl) rfl #[.int .i64 a0_0, .int .i64 2, .int .i64 16] rfl la_ ?_; (with_reducible refine (spec_l1In.calls a0_0 2 16 false _ A4.out).mono ?_); rintro e w' ⟨rfl, ⟨nd, rfl⟩⟩; refine ⟨_, rfl, ?_⟩))
  go_meet
  case rel => exact ⟨_, (true), sm_, H', ⟨by first | omega | exact Nat.le_refl _⟩, ⟨by exact bz_ BK140.out⟩, ⟨bw1_ HB.out GE140.out⟩⟩
 case rest =>
  clear HC2
  try clear c1
  try clear p6
  try clear c10
  obtain ⟨kq, x40_1, rfl, HA, HJ1, BK140, HB⟩ := hcut
  cases kq with
  | zero => exact absurd HA.out (by simp [spec_l1Tables.j0])
  | succ kj1 =>
   have H := HA.out
   clear HA
   simp only [spec_l1Tables.j0] at H
   by_cases c12 : x40_1 = true
   ·subst c12
    have H1 : (some false) = some r := by rw [if_pos rfl] at H; exact H
    clear H
    have H := H1
    clear H1
    obtain rfl := Option.some.inj H
    go_wp2
    go_ret
    exact ⟨an_, bw1_ HB.out GE140.out⟩
   replace c12 := Bool.eq_false_iff.mpr c12
   subst c12
   have H1 : (spec_l1Tables.l0 kj1 0 a0_0 l0_1 l0_2 l0_3) = some r := by rw [if_neg (show ¬ (false = true) by decide)] at H; exact H
   clear H
   have H := H1
   clear H1
   have H' := sd_ H
   clear H
   go_wp2
   go_loopg [3] kj1 (fun kq v3 w' => ∃ (x3_2 : Int), v3 = .int .i64 x3_2 ∧ Aside0 (spec_l1Tables.l0 kq x3_2 a0_0 l0_1 l0_2 l0_3 = some r) ∧ Aside0 (kq ≤ kj1) ∧ Aside0 (w'.heap[gb140]? = some (.cells #[.int .i64 a0_0, (.slice A0_1 l0_1.length c0_1), (.slice A0_2 l0_2.length c0_2), (.slice A0_3 l0_3.length c0_3)] 27 (0, 0))) ∧ Aside0 (Below w.heap.size w w'))
   case atStart => exact ⟨(0), sm_, H', ⟨Nat.le_refl _⟩, ⟨by exact bz_ BK140.out⟩, ⟨bw1_ HB.out GE140.out⟩⟩
   case round =>
    clear H'
    try clear c1
    try clear p2
    try clear p6
    try clear c10
    try clear c12
    try clear p6
    obtain ⟨x3_2, rfl, HA, HK2, BK140, HB⟩ := hrel
    cases gk with
    | zero => exact absurd HA.out (by simp [spec_l1Tables.l0])
    | succ k2 =>
     have H := HA.out
     clear HA
     simp only [spec_l1Tables.l0] at H
     by_cases c13 : x3_2 < (l0_1.length : Int)
     ·rw [if_pos c13] at H
      have c13b0 : decide (x3_2 < (l0_1.length : Int)) = true := decide_eq_true c13
      clear c13
      by_cases c14 : 0 ≤ x3_2
      ·rw [if_pos c14] at H
       have c14b0 : decide (0 ≤ x3_2) = true := decide_eq_true c14
       clear c14
       replace H := Option.bind_eq_some_iff.mp H
       obtain ⟨t143, A150, H⟩ := H
       try dsimp only at H
       have A15 := sd_ A150
       clear A150
       by_cases c16 : t143 = true
       ·subst c16
        have H1 : (if x3_2 < (l0_2.length : Int) then ((spec_l1In.f (rd l0_2 x3_2) 0 (wrap64 (a0_0 - 1))).bind fun t145 => (if t145 = true then (spec_l1Tables.l0 k2 (wrap64 (x3_2 + 1)) a0_0 l0_1 l0_2 l0_3) else (some false))) else (none)) = some r := by rw [if_pos rfl] at H; exact H
        clear H
        have H := H1
        clear H1
        by_cases c17 : x3_2 < (l0_2.length : Int)
        ·rw [if_pos c17] at H
         have c17b0 : decide (x3_2 < (l0_2.length : Int)) = true := decide_eq_true c17
         clear c17
         replace H := Option.bind_eq_some_iff.mp H
         obtain ⟨t145, A180, H⟩ := H
         try dsimp only at H
         have A18 := sd_ A180
         clear A180
         by_cases c19 : t145 = true
         ·subst c19
          have H1 : (spec_l1Tables.l0 k2 (wrap64 (x3_2 + 1)) a0_0 l0_1 l0_2 l0_3) = some r := by rw [if_pos rfl] at H; exact H
          clear H
          have H := H1
          clear H1
          have H' := sd_ H
          clear H
          obtain ⟨hcz20_0, hcz20_1, hcz20_2, hcz20_3, hfz20_0, hfz20_1, hfz20_2, hfz20_3⟩ := bf4_ BK140.out
          try go_wp2
          have p142 : 0 ≤ (x3_2 : Int) := dt_
          have q142 : x3_2 < (l0_1.length : Int) := dt_
          obtain ⟨ad142, e142, hx142_0⟩ := Kd.at_int HR0_1.out x3_2 p142 q142
          cases e142
          replace hx142_0 := (HB.out.cell (World.block_lt_of_cell? w _ hx142_0)).trans hx142_0
          replace p142 := eq_true p142
          replace q142 := eq_true q142
          have p144 : 0 ≤ (x3_2 : Int) := dt_
          have q144 : x3_2 < (l0_2.length : Int) := dt_
          obtain ⟨ad144, e144, hx144_0⟩ := Kd.at_int HR0_2.out x3_2 p144 q144
          cases e144
          replace hx144_0 := (HB.out.cell (World.block_lt_of_cell? w _ hx144_0)).trans hx144_0
          replace p144 := eq_true p144
          replace q144 := eq_true q144
          refine qb_region (by kernel_rfl) (by kernel_rfl) ?_
          repeat ((first | (apply qb_skip; (focus rfl)) | (refine qb_callN 56 rfl ?_; apply qb_call 56 rfl Try.func80 (by kernel_rfl) rfl rfl; (focus rfl); (focus (exact fun wq9 hb9 => qb_d hb9 (spec_l1In.calls (rd l0_1 x3_2) 0 (wrap64 (a0_0 - 1)) true _ A15.out))); (focus (rfl))) | (refine qb_callN 67 rfl ?_; apply qb_call 67 rfl Try.func80 (by kernel_rfl) rfl rfl; (focus rfl); (focus (exact fun wq9 hb9 => qb_d hb9 (spec_l1In.calls (rd l0_2 x3_2) 0 (wrap64 (a0_0 - 1)) true _ A18.out))); (focus (rfl))) | (apply qb_val; (focus rfl); (focus (intro wq9 _; go_simp; with_reducible rfl))) | (apply qb_val; (focus rfl); (focus (intro wq9 hb9_; have hb9 : Below wr.heap.size wr wq9 := hb9_; have BK140 := sd_ (blk_below BK140.out hb9); have hc9_140_0 : wq9.cell? ⟨gb140, 0, none⟩ = some (.int .i64 a0_0) := (blk_cell BK140.out 0).trans rfl; have hc9_140_1 : wq9.cell? ⟨gb140, 1, none⟩ = some (.slice (some ad142) l0_1.length c0_1) := (blk_cell BK140.out 1).trans rfl; have hc9_140_2 : wq9.cell? ⟨gb140, 2, none⟩ = some (.slice (some ad144) l0_2.length c0_2) := (blk_cell BK140.out 2).trans rfl; have hc9_140_3 : wq9.cell? ⟨gb140, 3, none⟩ = some (.slice A0_3 l0_3.length c0_3) := (blk_cell BK140.out 3).trans rfl; have hx142_0 := (hb9.cell (World.block_lt_of_cell? _ _ hx142_0)).trans hx142_0; have hx144_0 := (hb9.cell (World.block_lt_of_cell? _ _ hx144_0)).trans hx144_0; go_simp; with_reducible rfl)))); (focus (simp only [Act.put, List.setIfInBounds_toArray, List.set_cons_zero, List.set_cons_succ, i64_w, i32_w]; rfl)))
          refine qb_nil ?_
          intro w21 hb
          replace BK140 := sd_ (blk_below BK140.out hb)
          replace HB := sd_ (below_step HB.out hb)
          clear hb
          (try clear HQ)
          try go_wp2
          go_roundg k2
          case measure => have := HJ1.out; have := HK2.out; omega
          case rel => exact ⟨(wrap64 (x3_2 + 1)), sm_, H', ⟨by have := HJ1.out; have := HK2.out; omega⟩, ⟨by exact bz_ BK140.out⟩, ⟨bw1_ HB.out GE140.out⟩⟩
         replace c19 := Bool.eq_false_iff.mpr c19
         subst c19
         have H1 : (some false) = some r := by rw [if_neg (show ¬ (false = true) by decide)] at H; exact H
         clear H
         have H := H1
         clear H1
         obtain rfl := Option.some.inj H
         obtain ⟨hcz22_0, hcz22_1, hcz22_2, hcz22_3, hfz22_0, hfz22_1, hfz22_2, hfz22_3⟩ := bf4_ BK140.out
         try go_wp2
         have p142 : 0 ≤ (x3_2 : Int) := dt_
         have q142 : x3_2 < (l0_1.length : Int) := dt_
         obtain ⟨ad142, e142, hx142_0⟩ := Kd.at_int HR0_1.out x3_2 p142 q142
         cases e142
         replace hx142_0 := (HB.out.cell (World.block_lt_of_cell? w _ hx142_0)).trans hx142_0
         replace p142 := eq_true p142
         replace q142 := eq_true q142
         have p144 : 0 ≤ (x3_2 : Int) := dt_
         have q144 : x3_2 < (l0_2.length : Int) := dt_
         obtain ⟨ad144, e144, hx144_0⟩ := Kd.at_int HR0_2.out x3_2 p144 q144
         cases e144
         replace hx144_0 := (HB.out.cell (World.block_lt_of_cell? w _ hx144_0)).trans hx144_0
         replace p144 := eq_true p144
         replace q144 := eq_true q144
         refine qb_region (by kernel_rfl) (by kernel_rfl) ?_
         repeat ((first | (apply qb_skip; (focus rfl)) | (refine qb_callN 56 rfl ?_; apply qb_call 56 rfl Try.func80 (by kernel_rfl) rfl rfl; (focus rfl); (focus (exact fun wq9 hb9 => qb_d hb9 (spec_l1In.calls (rd l0_1 x3_2) 0 (wrap64 (a0_0 - 1)) true _ A15.out))); (focus (rfl))) | (refine qb_callN 67 rfl ?_; apply qb_call 67 rfl Try.func80 (by kernel_rfl) rfl rfl; (focus rfl); (focus (exact fun wq9 hb9 => qb_d hb9 (spec_l1In.calls (rd l0_2 x3_2) 0 (wrap64 (a0_0 - 1)) false _ A18.out))); (focus (rfl))) | (apply qb_val; (focus rfl); (focus (intro wq9 _; go_simp; with_reducible rfl))) | (apply qb_val; (focus rfl); (focus (intro wq9 hb9_; have hb9 : Below wr.heap.size wr wq9 := hb9_; have BK140 := sd_ (blk_below BK140.out hb9); have hc9_140_0 : wq9.cell? ⟨gb140, 0, none⟩ = some (.int .i64 a0_0) := (blk_cell BK140.out 0).trans rfl; have hc9_140_1 : wq9.cell? ⟨gb140, 1, none⟩ = some (.slice (some ad142) l0_1.length c0_1) := (blk_cell BK140.out 1).trans rfl; have hc9_140_2 : wq9.cell? ⟨gb140, 2, none⟩ = some (.slice (some ad144) l0_2.length c0_2) := (blk_cell BK140.out 2).trans rfl; have hc9_140_3 : wq9.cell? ⟨gb140, 3, none⟩ = some (.slice A0_3 l0_3.length c0_3) := (blk_cell BK140.out 3).trans rfl; have hx142_0 := (hb9.cell (World.block_lt_of_cell? _ _ hx142_0)).trans hx142_0; have hx144_0 := (hb9.cell (World.block_lt_of_cell? _ _ hx144_0)).trans hx144_0; go_simp; with_reducible rfl)))); (focus (simp only [Act.put, List.setIfInBounds_toArray, List.set_cons_zero, List.set_cons_succ, i64_w, i32_w]; rfl)))
         refine qb_nil ?_
         intro w23 hb
         replace BK140 := sd_ (blk_below BK140.out hb)
         replace HB := sd_ (below_step HB.out hb)
         clear hb
         (try clear HQ)
         try go_wp2
         go_ret
         exact ⟨an_, bw1_ HB.out GE140.out⟩
        rw [if_neg c17] at H
        exact absurd H (by simp)
       replace c16 := Bool.eq_false_iff.mpr c16
       subst c16
       have H1 : (some false) = some r := by rw [if_neg (show ¬ (false = true) by decide)] at H; exact H
       clear H
       have H := H1
       clear H1
       obtain rfl := Option.some.inj H
       obtain ⟨hcz24_0, hcz24_1, hcz24_2, hcz24_3, hfz24_0, hfz24_1, hfz24_2, hfz24_3⟩ := bf4_ BK140.out
       try go_wp2
       have p142 : 0 ≤ (x3_2 : Int) := dt_
       have q142 : x3_2 < (l0_1.length : Int) := dt_
       obtain ⟨ad142, e142, hx142_0⟩ := Kd.at_int HR0_1.out x3_2 p142 q142
       cases e142
       replace hx142_0 := (HB.out.cell (World.block_lt_of_cell? w _ hx142_0)).trans hx142_0
       replace p142 := eq_true p142
       replace q142 := eq_true q142
       refine qb_region (by kernel_rfl) (by kernel_rfl) ?_
       repeat ((first | (apply qb_skip; (focus rfl)) | (refine qb_callN 56 rfl ?_; apply qb_call 56 rfl Try.func80 (by kernel_rfl) rfl rfl; (focus rfl); (focus (exact fun wq9 hb9 => qb_d hb9 (spec_l1In.calls (rd l0_1 x3_2) 0 (wrap64 (a0_0 - 1)) false _ A15.out))); (focus (rfl))) | (apply qb_val; (focus rfl); (focus (intro wq9 _; go_simp; with_reducible rfl))) | (apply qb_val; (focus rfl); (focus (intro wq9 hb9_; have hb9 : Below wr.heap.size wr wq9 := hb9_; have BK140 := sd_ (blk_below BK140.out hb9); have hc9_140_0 : wq9.cell? ⟨gb140, 0, none⟩ = some (.int .i64 a0_0) := (blk_cell BK140.out 0).trans rfl; have hc9_140_1 : wq9.cell? ⟨gb140, 1, none⟩ = some (.slice (some ad142) l0_1.length c0_1) := (blk_cell BK140.out 1).trans rfl; have hc9_140_2 : wq9.cell? ⟨gb140, 2, none⟩ = some (.slice A0_2 l0_2.length c0_2) := (blk_cell BK140.out 2).trans rfl; have hc9_140_3 : wq9.cell? ⟨gb140, 3, none⟩ = some (.slice A0_3 l0_3.length c0_3) := (blk_cell BK140.out 3).trans rfl; have hx142_0 := (hb9.cell (World.block_lt_of_cell? _ _ hx142_0)).trans hx142_0; go_simp; with_reducible rfl)))); (focus (simp only [Act.put, List.setIfInBounds_toArray, List.set_cons_zero, List.set_cons_succ, i64_w, i32_w]; rfl)))
       refine qb_nil ?_
       intro w25 hb
       replace BK140 := sd_ (blk_below BK140.out hb)
       replace HB := sd_ (below_step HB.out hb)
       clear hb
       (try clear HQ)
       try go_wp2
       go_ret
       exact ⟨an_, bw1_ HB.out GE140.out⟩
      rw [if_neg c14] at H
      exact absurd H (by simp)
     rw [if_neg c13] at H
     have c13b0 : decide (x3_2 < (l0_1.length : Int)) = false := decide_eq_false c13
     clear c13
     obtain rfl := Option.some.inj H
     obtain ⟨hcz26_0, hcz26_1, hcz26_2, hcz26_3, hfz26_0, hfz26_1, hfz26_2, hfz26_3⟩ := bf4_ BK140.out
     go_wp2
     go_ret
     exact ⟨an_, bw1_ HB.out GE140.out⟩


/-! ### spec_l1One: function 102 -/
def spec_l1One.f (a0_0 : Int) (l0_1 : List Int) (l0_2 : List Int) (l0_3 : List Bool) (a1 : Int) : Option (Bool) := (spec_l1Add.f a0_0 l0_1 l0_2 l0_3 0 a1).bind fun t153 => (if t153 = a1 then ((spec_l1Mul.f a0_0 l0_1 l0_2 l0_3 1 a1).bind fun t154 => (if t154 = a1 then ((spec_l1Mul.f a0_0 l0_1 l0_2 l0_3 a1 1).bind fun t155 => (if t155 = a1 then ((spec_l1Mul.f a0_0 l0_1 l0_2 l0_3 0 a1).bind fun t156 => (if t156 = 0 then ((spec_l1Mul.f a0_0 l0_1 l0_2 l0_3 a1 0).bind fun t157 => (if t157 = 0 then ((spec_l1Le.f a0_0 l0_1 l0_2 l0_3 a1 a1).bind fun t158 => (some t158)) else (some false))) else (some false))) else (some false))) else (some false))) else (some false))
set_option maxHeartbeats 8000000 in
set_option maxRecDepth 100000 in
theorem spec_l1One.calls (a0_0 : Int) (A0_1 : Option Addr) (c0_1 : Nat) (l0_1 : List Int) (A0_2 : Option Addr) (c0_2 : Nat) (l0_2 : List Int) (A0_3 : Option Addr) (c0_3 : Nat) (l0_3 : List Bool) (a1 : Int) (r : Bool) (w : World) (hr0_1 : Kd.C (Kd.int .i64) w A0_1 l0_1.length l0_1) (hc0_1 : l0_1.length ≤ c0_1) (hr0_2 : Kd.C (Kd.int .i64) w A0_2 l0_2.length l0_2) (hc0_2 : l0_2.length ≤ c0_2) (hr0_3 : Kd.C Kd.bool w A0_3 l0_3.length l0_3) (hc0_3 : l0_3.length ≤ c0_3) (h : spec_l1One.f a0_0 l0_1 l0_2 l0_3 a1 = some r) :
  Calls Try.prog 102 #[.agg #[.int .i64 a0_0, .slice A0_1 l0_1.length c0_1, .slice A0_2 l0_2.length c0_2, .slice A0_3 l0_3.length c0_3], .int .i64 a1] w fun e w' => e = .returned (.bool r) ∧ Below w.heap.size w w' := by
 have hu27 := Try.underlying27
 have HR0_1 := sd_ hr0_1
 have HC0_1 := sd_ hc0_1
 clear hr0_1 hc0_1
 have HR0_2 := sd_ hr0_2
 have HC0_2 := sd_ hc0_2
 clear hr0_2 hc0_2
 have HR0_3 := sd_ hr0_3
 have HC0_3 := sd_ hc0_3
 clear hr0_3 hc0_3
 have HB := sd_ (Below.refl w.heap.size w)
 have H : ((spec_l1Add.f a0_0 l0_1 l0_2 l0_3 0 a1).bind fun t153 => (if t153 = a1 then ((spec_l1Mul.f a0_0 l0_1 l0_2 l0_3 1 a1).bind fun t154 => (if t154 = a1 then ((spec_l1Mul.f a0_0 l0_1 l0_2 l0_3 a1 1).bind fun t155 => (if t155 = a1 then ((spec_l1Mul.f a0_0 l0_1 l0_2 l0_3 0 a1).bind fun t156 => (if t156 = 0 then ((spec_l1Mul.f a0_0 l0_1 l0_2 l0_3 a1 0).bind fun t157 => (if t157 = 0 then ((spec_l1Le.f a0_0 l0_1 l0_2 l0_3 a1 a1).bind fun t158 => (some t158)) else (some false))) else (some false))) else (some false))) else (some false))) else (some false))) = some r := h
 clear h
 replace H := Option.bind_eq_some_iff.mp H
 obtain ⟨t153, A30, H⟩ := H
 try dsimp only at H
 have A3 := sd_ A30
 clear A30
 by_cases c4 : t153 = a1
 ·rw [if_pos c4] at H
  have c4b0 : (t153 == a1) = true := beq_iff_eq.mpr c4
  have c4b1 : (t153 != a1) = false := bne_eq_false_iff_eq.mpr c4
  clear c4
  replace H := Option.bind_eq_some_iff.mp H
  obtain ⟨t154, A50, H⟩ := H
  try dsimp only at H
  have A5 := sd_ A50
  clear A50
  by_cases c6 : t154 = a1
  ·rw [if_pos c6] at H
   have c6b0 : (t154 == a1) = true := beq_iff_eq.mpr c6
   have c6b1 : (t154 != a1) = false := bne_eq_false_iff_eq.mpr c6
   clear c6
   replace H := Option.bind_eq_some_iff.mp H
   obtain ⟨t155, A70, H⟩ := H
   try dsimp only at H
   have A7 := sd_ A70
   clear A70
   by_cases c8 : t155 = a1
   ·rw [if_pos c8] at H
    have c8b0 : (t155 == a1) = true := beq_iff_eq.mpr c8
    have c8b1 : (t155 != a1) = false := bne_eq_false_iff_eq.mpr c8
    clear c8
    replace H := Option.bind_eq_some_iff.mp H
    obtain ⟨t156, A90, H⟩ := H
    try dsimp only at H
    have A9 := sd_ A90
    clear A90
    by_cases c10 : t156 = 0
    ·rw [if_pos c10] at H
     have c10b0 : (t156 == 0) = true := beq_iff_eq.mpr c10
     have c10b1 : (t156 != 0) = false := bne_eq_false_iff_eq.mpr c10
     clear c10
     replace H := Option.bind_eq_some_iff.mp H
     obtain ⟨t157, A110, H⟩ := H
     try dsimp only at H
     have A11 := sd_ A110
     clear A110
     by_cases c12 : t157 = 0
     ·rw [if_pos c12] at H
      have c12b0 : (t157 == 0) = true := beq_iff_eq.mpr c12
      have c12b1 : (t157 != 0) = false := bne_eq_false_iff_eq.mpr c12
      clear c12
      replace H := Option.bind_eq_some_iff.mp H
      obtain ⟨t158, A130, H⟩ := H
      try dsimp only at H
      have A13 := sd_ A130
      clear A130
      obtain rfl := Option.some.inj H
      go_enter Try.func102, Try.ntmps102
      go_wp2_with (first | ((with_reducible refine gate_dst (N := 2) rfl ?_); refine bx_ (N := 2) (cs := #[.int .i64 a0_0, .slice A0_1 l0_1.length c0_1, .slice A0_2 l0_2.length c0_2, .slice A0_3 l0_3.length c0_3]) (t := 27) ?_; intro gb152 hg w14 hbox hb; have BK152 := sd_ (hbox); have GW152 := sd_ (gs_ hg (bw0_ HB.out)); have GE152 := sd_ (gs_ hg (bw0_ HB.out)); replace HB := sd_ (below_step (bw0_ HB.out) hb); clear hb hbox hg; obtain ⟨hcz15_0, hcz15_1, hcz15_2, hcz15_3, hfz15_0, hfz15_1, hfz15_2, hfz15_3⟩ := bf4_ BK152.out) | ((with_reducible refine gate_callee (f := 88) rfl ?_); refine goesL_ (some 7) rfl rfl Try.func88 (by kernel_rfl) rfl #[.agg #[.int .i64 a0_0, .slice A0_1 l0_1.length c0_1, .slice A0_2 l0_2.length c0_2, .slice A0_3 l0_3.length c0_3], .int .i64 0, .int .i64 a1] rfl la_ ?_; (with_reducible refine (spec_l1Add.calls a0_0 _ _ l0_1 _ _ l0_2 _ _ l0_3 0 a1 t153 _ (kc_ HR0_1.out HB.out) HC0_1.out (kc_ HR0_2.out HB.out) HC0_2.out (kc_ HR0_3.out HB.out) HC0_3.out A3.out).mono ?_); rintro e w16 ⟨rfl, hb⟩; refine ⟨_, rfl, ?_⟩; replace BK152 := sd_ (bb_ BK152.out hb); replace HB := sd_ (below_step (bw1_ HB.out GE152.out) hb); (try clear hb); obtain ⟨hcz17_0, hcz17_1, hcz17_2, hcz17_3, hfz17_0, hfz17_1, hfz17_2, hfz17_3⟩ := bf4_ BK152.out) | (go_at_call 89; (with_reducible refine (spec_l1Mul.calls a0_0 _ _ l0_1 _ _ l0_2 _ _ l0_3 1 a1 t154 _ (kc_ HR0_1.out HB.out) HC0_1.out (kc_ HR0_2.out HB.out) HC0_2.out (kc_ HR0_3.out HB.out) HC0_3.out A5.out).mono ?_); rintro e w18 ⟨rfl, hb⟩; replace BK152 := sd_ (bb_ BK152.out hb); replace HB := sd_ (below_step (bw1_ HB.out GE152.out) hb); (try clear hb); obtain ⟨hcz19_0, hcz19_1, hcz19_2, hcz19_3, hfz19_0, hfz19_1, hfz19_2, hfz19_3⟩ := bf4_ BK152.out) | (go_at_call 89; (with_reducible refine (spec_l1Mul.calls a0_0 _ _ l0_1 _ _ l0_2 _ _ l0_3 a1 1 t155 _ (kc_ HR0_1.out HB.out) HC0_1.out (kc_ HR0_2.out HB.out) HC0_2.out (kc_ HR0_3.out HB.out) HC0_3.out A7.out).mono ?_); rintro e w20 ⟨rfl, hb⟩; replace BK152 := sd_ (bb_ BK152.out hb); replace HB := sd_ (below_step (bw1_ HB.out GE152.out) hb); (try clear hb); obtain ⟨hcz21_0, hcz21_1, hcz21_2, hcz21_3, hfz21_0, hfz21_1, hfz21_2, hfz21_3⟩ := bf4_ BK152.out) | (go_at_call 89; (with_reducible refine (spec_l1Mul.calls a0_0 _ _ l0_1 _ _ l0_2 _ _ l0_3 0 a1 t156 _ (kc_ HR0_1.out HB.out) HC0_1.out (kc_ HR0_2.out HB.out) HC0_2.out (kc_ HR0_3.out HB.out) HC0_3.out A9.out).mono ?_); rintro e w22 ⟨rfl, hb⟩; replace BK152 := sd_ (bb_ BK152.out hb); replace HB := sd_ (below_step (bw1_ HB.out GE152.out) hb); (try clear hb); obtain ⟨hcz23_0, hcz23_1, hcz23_2, hcz23_3, hfz23_0, hfz23_1, hfz23_2, hfz23_3⟩ := bf4_ BK152.out) | (go_at_call 89; (with_reducible refine (spec_l1Mul.calls a0_0 _ _ l0_1 _ _ l0_2 _ _ l0_3 a1 0 t157 _ (kc_ HR0_1.out HB.out) HC0_1.out (kc_ HR0_2.out HB.out) HC0_2.out (kc_ HR0_3.out HB.out) HC0_3.out A11.out).mono ?_); rintro e w24 ⟨rfl, hb⟩; replace BK152 := sd_ (bb_ BK152.out hb); replace HB := sd_ (below_step (bw1_ HB.out GE152.out) hb); (try clear hb); obtain ⟨hcz25_0, hcz25_1, hcz25_2, hcz25_3, hfz25_0, hfz25_1, hfz25_2, hfz25_3⟩ := bf4_ BK152.out) | (go_at_call 90; (with_reducible refine (spec_l1Le.calls a0_0 _ _ l0_1 _ _ l0_2 _ _ l0_3 a1 a1 t158 _ (kc_ HR0_1.out HB.out) HC0_1.out (kc_ HR0_2.out HB.out) HC0_2.out (kc_ HR0_3.out HB.out) HC0_3.out A13.out).mono ?_); rintro e w26 ⟨rfl, hb⟩; replace BK152 := sd_ (bb_ BK152.out hb); replace HB := sd_ (below_step (bw1_ HB.out GE152.out) hb); (try clear hb)))
      go_ret
      exact ⟨an_, bw1_ HB.out GE152.out⟩
     rw [if_neg c12] at H
     have c12b0 : (t157 == 0) = false := beq_eq_false_iff_ne.mpr c12
     have c12b1 : (t157 != 0) = true := bne_iff_ne.mpr c12
     obtain rfl := Option.some.inj H
     go_enter Try.func102, Try.ntmps102
     go_wp2_with (first | ((with_reducible refine gate_dst (N := 2) rfl ?_); refine bx_ (N := 2) (cs := #[.int .i64 a0_0, .slice A0_1 l0_1.length c0_1, .slice A0_2 l0_2.length c0_2, .slice A0_3 l0_3.length c0_3]) (t := 27) ?_; intro gb152 hg w27 hbox hb; have BK152 := sd_ (hbox); have GW152 := sd_ (gs_ hg (bw0_ HB.out)); have GE152 := sd_ (gs_ hg (bw0_ HB.out)); replace HB := sd_ (below_step (bw0_ HB.out) hb); clear hb hbox hg; obtain ⟨hcz28_0, hcz28_1, hcz28_2, hcz28_3, hfz28_0, hfz28_1, hfz28_2, hfz28_3⟩ := bf4_ BK152.out) | ((with_reducible refine gate_callee (f := 88) rfl ?_); refine goesL_ (some 7) rfl rfl Try.func88 (by kernel_rfl) rfl #[.agg #[.int .i64 a0_0, .slice A0_1 l0_1.length c0_1, .slice A0_2 l0_2.length c0_2, .slice A0_3 l0_3.length c0_3], .int .i64 0, .int .i64 a1] rfl la_ ?_; (with_reducible refine (spec_l1Add.calls a0_0 _ _ l0_1 _ _ l0_2 _ _ l0_3 0 a1 t153 _ (kc_ HR0_1.out HB.out) HC0_1.out (kc_ HR0_2.out HB.out) HC0_2.out (kc_ HR0_3.out HB.out) HC0_3.out A3.out).mono ?_); rintro e w29 ⟨rfl, hb⟩; refine ⟨_, rfl, ?_⟩; replace BK152 := sd_ (bb_ BK152.out hb); replace HB := sd_ (below_step (bw1_ HB.out GE152.out) hb); (try clear hb); obtain ⟨hcz30_0, hcz30_1, hcz30_2, hcz30_3, hfz30_0, hfz30_1, hfz30_2, hfz30_3⟩ := bf4_ BK152.out) | (go_at_call 89; (with_reducible refine (spec_l1Mul.calls a0_0 _ _ l0_1 _ _ l0_2 _ _ l0_3 1 a1 t154 _ (kc_ HR0_1.out HB.out) HC0_1.out (kc_ HR0_2.out HB.out) HC0_2.out (kc_ HR0_3.out HB.out) HC0_3.out A5.out).mono ?_); rintro e w31 ⟨rfl, hb⟩; replace BK152 := sd_ (bb_ BK152.out hb); replace HB := sd_ (below_step (bw1_ HB.out GE152.out) hb); (try clear hb); obtain ⟨hcz32_0, hcz32_1, hcz32_2, hcz32_3, hfz32_0, hfz32_1, hfz32_2, hfz32_3⟩ := bf4_ BK152.out) | (go_at_call 89; (with_reducible refine (spec_l1Mul.calls a0_0 _ _ l0_1 _ _ l0_2 _ _ l0_3 a1 1 t155 _ (kc_ HR0_1.out HB.out) HC0_1.out (kc_ HR0_2.out HB.out) HC0_2.out (kc_ HR0_3.out HB.out) HC0_3.out A7.out).mono ?_); rintro e w33 ⟨rfl, hb⟩; replace BK152 := sd_ (bb_ BK152.out hb); replace HB := sd_ (below_step (bw1_ HB.out GE152.out) hb); (try clear hb); obtain ⟨hcz34_0, hcz34_1, hcz34_2, hcz34_3, hfz34_0, hfz34_1, hfz34_2, hfz34_3⟩ := bf4_ BK152.out) | (go_at_call 89; (with_reducible refine (spec_l1Mul.calls a0_0 _ _ l0_1 _ _ l0_2 _ _ l0_3 0 a1 t156 _ (kc_ HR0_1.out HB.out) HC0_1.out (kc_ HR0_2.out HB.out) HC0_2.out (kc_ HR0_3.out HB.out) HC0_3.out A9.out).mono ?_); rintro e w35 ⟨rfl, hb⟩; replace BK152 := sd_ (bb_ BK152.out hb); replace HB := sd_ (below_step (bw1_ HB.out GE152.out) hb); (try clear hb); obtain ⟨hcz36_0, hcz36_1, hcz36_2, hcz36_3, hfz36_0, hfz36_1, hfz36_2, hfz36_3⟩ := bf4_ BK152.out) | (go_at_call 89; (with_reducible refine (spec_l1Mul.calls a0_0 _ _ l0_1 _ _ l0_2 _ _ l0_3 a1 0 t157 _ (kc_ HR0_1.out HB.out) HC0_1.out (kc_ HR0_2.out HB.out) HC0_2.out (kc_ HR0_3.out HB.out) HC0_3.out A11.out).mono ?_); rintro e w37 ⟨rfl, hb⟩; replace BK152 := sd_ (bb_ BK152.out hb); replace HB := sd_ (below_step (bw1_ HB.out GE152.out) hb); (try clear hb)))
     go_ret
     exact ⟨an_, bw1_ HB.out GE152.out⟩
    rw [if_neg c10] at H
    have c10b0 : (t156 == 0) = false := beq_eq_false_iff_ne.mpr c10
    have c10b1 : (t156 != 0) = true := bne_iff_ne.mpr c10
    obtain rfl := Option.some.inj H
    go_enter Try.func102, Try.ntmps102
    go_wp2_with (first | ((with_reducible refine gate_dst (N := 2) rfl ?_); refine bx_ (N := 2) (cs := #[.int .i64 a0_0, .slice A0_1 l0_1.length c0_1, .slice A0_2 l0_2.length c0_2, .slice A0_3 l0_3.length c0_3]) (t := 27) ?_; intro gb152 hg w38 hbox hb; have BK152 := sd_ (hbox); have GW152 := sd_ (gs_ hg (bw0_ HB.out)); have GE152 := sd_ (gs_ hg (bw0_ HB.out)); replace HB := sd_ (below_step (bw0_ HB.out) hb); clear hb hbox hg; obtain ⟨hcz39_0, hcz39_1, hcz39_2, hcz39_3, hfz39_0, hfz39_1, hfz39_2, hfz39_3⟩ := bf4_ BK152.out) | ((with_reducible refine gate_callee (f := 88) rfl ?_); refine goesL_ (some 7) rfl rfl Try.func88 (by kernel_rfl) rfl #[.agg #[.int .i64 a0_0, .slice A0_1 l0_1.length c0_1, .slice A0_2 l0_2.length c0_2, .slice A0_3 l0_3.length c0_3], .int .i64 0, .int .i64 a1] rfl la_ ?_; (with_reducible refine (spec_l1Add.calls a0_0 _ _ l0_1 _ _ l0_2 _ _ l0_3 0 a1 t153 _ (kc_ HR0_1.out HB.out) HC0_1.out (kc_ HR0_2.out HB.out) HC0_2.out (kc_ HR0_3.out HB.out) HC0_3.out A3.out).mono ?_); rintro e w40 ⟨rfl, hb⟩; refine ⟨_, rfl, ?_⟩; replace BK152 := sd_ (bb_ BK152.out hb); replace HB := sd_ (below_step (bw1_ HB.out GE152.out) hb); (try clear hb); obtain ⟨hcz41_0, hcz41_1, hcz41_2, hcz41_3, hfz41_0, hfz41_1, hfz41_2, hfz41_3⟩ := bf4_ BK152.out) | (go_at_call 89; (with_reducible refine (spec_l1Mul.calls a0_0 _ _ l0_1 _ _ l0_2 _ _ l0_3 1 a1 t154 _ (kc_ HR0_1.out HB.out) HC0_1.out (kc_ HR0_2.out HB.out) HC0_2.out (kc_ HR0_3.out HB.out) HC0_3.out A5.out).mono ?_); rintro e w42 ⟨rfl, hb⟩; replace BK152 := sd_ (bb_ BK152.out hb); replace HB := sd_ (below_step (bw1_ HB.out GE152.out) hb); (try clear hb); obtain ⟨hcz43_0, hcz43_1, hcz43_2, hcz43_3, hfz43_0, hfz43_1, hfz43_2, hfz43_3⟩ := bf4_ BK152.out) | (go_at_call 89; (with_reducible refine (spec_l1Mul.calls a0_0 _ _ l0_1 _ _ l0_2 _ _ l0_3 a1 1 t155 _ (kc_ HR0_1.out HB.out) HC0_1.out (kc_ HR0_2.out HB.out) HC0_2.out (kc_ HR0_3.out HB.out) HC0_3.out A7.out).mono ?_); rintro e w44 ⟨rfl, hb⟩; replace BK152 := sd_ (bb_ BK152.out hb); replace HB := sd_ (below_step (bw1_ HB.out GE152.out) hb); (try clear hb); obtain ⟨hcz45_0, hcz45_1, hcz45_2, hcz45_3, hfz45_0, hfz45_1, hfz45_2, hfz45_3⟩ := bf4_ BK152.out) | (go_at_call 89; (with_reducible refine (spec_l1Mul.calls a0_0 _ _ l0_1 _ _ l0_2 _ _ l0_3 0 a1 t156 _ (kc_ HR0_1.out HB.out) HC0_1.out (kc_ HR0_2.out HB.out) HC0_2.out (kc_ HR0_3.out HB.out) HC0_3.out A9.out).mono ?_); rintro e w46 ⟨rfl, hb⟩; replace BK152 := sd_ (bb_ BK152.out hb); replace HB := sd_ (below_step (bw1_ HB.out GE152.out) hb); (try clear hb)))
    go_ret
    exact ⟨an_, bw1_ HB.out GE152.out⟩
   rw [if_neg c8] at H
   have c8b0 : (t155 == a1) = false := beq_eq_false_iff_ne.mpr c8
   have c8b1 : (t155 != a1) = true := bne_iff_ne.mpr c8
   obtain rfl := Option.some.inj H
   go_enter Try.func102, Try.ntmps102
   go_wp2_with (first | ((with_reducible refine gate_dst (N := 2) rfl ?_); refine bx_ (N := 2) (cs := #[.int .i64 a0_0, .slice A0_1 l0_1.length c0_1, .slice A0_2 l0_2.length c0_2, .slice A0_3 l0_3.length c0_3]) (t := 27) ?_; intro gb152 hg w47 hbox hb; have BK152 := sd_ (hbox); have GW152 := sd_ (gs_ hg (bw0_ HB.out)); have GE152 := sd_ (gs_ hg (bw0_ HB.out)); replace HB := sd_ (below_step (bw0_ HB.out) hb); clear hb hbox hg; obtain ⟨hcz48_0, hcz48_1, hcz48_2, hcz48_3, hfz48_0, hfz48_1, hfz48_2, hfz48_3⟩ := bf4_ BK152.out) | ((with_reducible refine gate_callee (f := 88) rfl ?_); refine goesL_ (some 7) rfl rfl Try.func88 (by kernel_rfl) rfl #[.agg #[.int .i64 a0_0, .slice A0_1 l0_1.length c0_1, .slice A0_2 l0_2.length c0_2, .slice A0_3 l0_3.length c0_3], .int .i64 0, .int .i64 a1] rfl la_ ?_; (with_reducible refine (spec_l1Add.calls a0_0 _ _ l0_1 _ _ l0_2 _ _ l0_3 0 a1 t153 _ (kc_ HR0_1.out HB.out) HC0_1.out (kc_ HR0_2.out HB.out) HC0_2.out (kc_ HR0_3.out HB.out) HC0_3.out A3.out).mono ?_); rintro e w49 ⟨rfl, hb⟩; refine ⟨_, rfl, ?_⟩; replace BK152 := sd_ (bb_ BK152.out hb); replace HB := sd_ (below_step (bw1_ HB.out GE152.out) hb); (try clear hb); obtain ⟨hcz50_0, hcz50_1, hcz50_2, hcz50_3, hfz50_0, hfz50_1, hfz50_2, hfz50_3⟩ := bf4_ BK152.out) | (go_at_call 89; (with_reducible refine (spec_l1Mul.calls a0_0 _ _ l0_1 _ _ l0_2 _ _ l0_3 1 a1 t154 _ (kc_ HR0_1.out HB.out) HC0_1.out (kc_ HR0_2.out HB.out) HC0_2.out (kc_ HR0_3.out HB.out) HC0_3.out A5.out).mono ?_); rintro e w51 ⟨rfl, hb⟩; replace BK152 := sd_ (bb_ BK152.out hb); replace HB := sd_ (below_step (bw1_ HB.out GE152.out) hb); (try clear hb); obtain ⟨hcz52_0, hcz52_1, hcz52_2, hcz52_3, hfz52_0, hfz52_1, hfz52_2, hfz52_3⟩ := bf4_ BK152.out) | (go_at_call 89; (with_reducible refine (spec_l1Mul.calls a0_0 _ _ l0_1 _ _ l0_2 _ _ l0_3 a1 1 t155 _ (kc_ HR0_1.out HB.out) HC0_1.out (kc_ HR0_2.out HB.out) HC0_2.out (kc_ HR0_3.out HB.out) HC0_3.out A7.out).mono ?_); rintro e w53 ⟨rfl, hb⟩; replace BK152 := sd_ (bb_ BK152.out hb); replace HB := sd_ (below_step (bw1_ HB.out GE152.out) hb); (try clear hb)))
   go_ret
   exact ⟨an_, bw1_ HB.out GE152.out⟩
  rw [if_neg c6] at H
  have c6b0 : (t154 == a1) = false := beq_eq_false_iff_ne.mpr c6
  have c6b1 : (t154 != a1) = true := bne_iff_ne.mpr c6
  obtain rfl := Option.some.inj H
  go_enter Try.func102, Try.ntmps102
  go_wp2_with (first | ((with_reducible refine gate_dst (N := 2) rfl ?_); refine bx_ (N := 2) (cs := #[.int .i64 a0_0, .slice A0_1 l0_1.length c0_1, .slice A0_2 l0_2.length c0_2, .slice A0_3 l0_3.length c0_3]) (t := 27) ?_; intro gb152 hg w54 hbox hb; have BK152 := sd_ (hbox); have GW152 := sd_ (gs_ hg (bw0_ HB.out)); have GE152 := sd_ (gs_ hg (bw0_ HB.out)); replace HB := sd_ (below_step (bw0_ HB.out) hb); clear hb hbox hg; obtain ⟨hcz55_0, hcz55_1, hcz55_2, hcz55_3, hfz55_0, hfz55_1, hfz55_2, hfz55_3⟩ := bf4_ BK152.out) | ((with_reducible refine gate_callee (f := 88) rfl ?_); refine goesL_ (some 7) rfl rfl Try.func88 (by kernel_rfl) rfl #[.agg #[.int .i64 a0_0, .slice A0_1 l0_1.length c0_1, .slice A0_2 l0_2.length c0_2, .slice A0_3 l0_3.length c0_3], .int .i64 0, .int .i64 a1] rfl la_ ?_; (with_reducible refine (spec_l1Add.calls a0_0 _ _ l0_1 _ _ l0_2 _ _ l0_3 0 a1 t153 _ (kc_ HR0_1.out HB.out) HC0_1.out (kc_ HR0_2.out HB.out) HC0_2.out (kc_ HR0_3.out HB.out) HC0_3.out A3.out).mono ?_); rintro e w56 ⟨rfl, hb⟩; refine ⟨_, rfl, ?_⟩; replace BK152 := sd_ (bb_ BK152.out hb); replace HB := sd_ (below_step (bw1_ HB.out GE152.out) hb); (try clear hb); obtain ⟨hcz57_0, hcz57_1, hcz57_2, hcz57_3, hfz57_0, hfz57_1, hfz57_2, hfz57_3⟩ := bf4_ BK152.out) | (go_at_call 89; (with_reducible refine (spec_l1Mul.calls a0_0 _ _ l0_1 _ _ l0_2 _ _ l0_3 1 a1 t154 _ (kc_ HR0_1.out HB.out) HC0_1.out (kc_ HR0_2.out HB.out) HC0_2.out (kc_ HR0_3.out HB.out) HC0_3.out A5.out).mono ?_); rintro e w58 ⟨rfl, hb⟩; replace BK152 := sd_ (bb_ BK152.out hb); replace HB := sd_ (below_step (bw1_ HB.out GE152.out) hb); (try clear hb)))
  go_ret
  exact ⟨an_, bw1_ HB.out GE152.out⟩
 rw [if_neg c4] at H
 have c4b0 : (t153 == a1) = false := beq_eq_false_iff_ne.mpr c4
 have c4b1 : (t153 != a1) = true := bne_iff_ne.mpr c4
 obtain rfl := Option.some.inj H
 go_enter Try.func102, Try.ntmps102
 go_wp2_with (first | ((with_reducible refine gate_dst (N := 2) rfl ?_); refine bx_ (N := 2) (cs := #[.int .i64 a0_0, .slice A0_1 l0_1.length c0_1, .slice A0_2 l0_2.length c0_2, .slice A0_3 l0_3.length c0_3]) (t := 27) ?_; intro gb152 hg w59 hbox hb; have BK152 := sd_ (hbox); have GW152 := sd_ (gs_ hg (bw0_ HB.out)); have GE152 := sd_ (gs_ hg (bw0_ HB.out)); replace HB := sd_ (below_step (bw0_ HB.out) hb); clear hb hbox hg; obtain ⟨hcz60_0, hcz60_1, hcz60_2, hcz60_3, hfz60_0, hfz60_1, hfz60_2, hfz60_3⟩ := bf4_ BK152.out) | ((with_reducible refine gate_callee (f := 88) rfl ?_); refine goesL_ (some 7) rfl rfl Try.func88 (by kernel_rfl) rfl #[.agg #[.int .i64 a0_0, .slice A0_1 l0_1.length c0_1, .slice A0_2 l0_2.length c0_2, .slice A0_3 l0_3.length c0_3], .int .i64 0, .int .i64 a1] rfl la_ ?_; (with_reducible refine (spec_l1Add.calls a0_0 _ _ l0_1 _ _ l0_2 _ _ l0_3 0 a1 t153 _ (kc_ HR0_1.out HB.out) HC0_1.out (kc_ HR0_2.out HB.out) HC0_2.out (kc_ HR0_3.out HB.out) HC0_3.out A3.out).mono ?_); rintro e w61 ⟨rfl, hb⟩; refine ⟨_, rfl, ?_⟩; replace BK152 := sd_ (bb_ BK152.out hb); replace HB := sd_ (below_step (bw1_ HB.out GE152.out) hb); (try clear hb)))
 go_ret
 exact ⟨an_, bw1_ HB.out GE152.out⟩


/-! ### spec_l1Byte: function 131 -/
def spec_l1Byte.f (s0_0 : List Int) (s0_1 : Int) (s0_2 : Int) : Option (Int × Int × Int) := if s0_1 < (s0_0.length : Int) then (if 0 ≤ s0_1 then (some (Go.bits .and .i64 (wrap64 ((Go.bits .and .i64 (Go.bits .xor .i64 ((wrap64 ((wrap64 (s0_2 * 6364136223846793005)) + 1442695040888963407)) / 8589934592) ((wrap64 ((wrap64 (s0_2 * 6364136223846793005)) + 1442695040888963407)) / 35184372088832)) 255) + (wrap64 (rd s0_0 s0_1)))) 255, wrap64 (s0_1 + 1), wrap64 ((wrap64 (s0_2 * 6364136223846793005)) + 1442695040888963407))) else (none)) else (some (Go.bits .and .i64 (Go.bits .xor .i64 ((wrap64 ((wrap64 (s0_2 * 6364136223846793005)) + 1442695040888963407)) / 8589934592) ((wrap64 ((wrap64 (s0_2 * 6364136223846793005)) + 1442695040888963407)) / 35184372088832)) 255, s0_1, wrap64 ((wrap64 (s0_2 * 6364136223846793005)) + 1442695040888963407)))
set_option maxHeartbeats 8000000 in
set_option maxRecDepth 100000 in
theorem spec_l1Byte.calls (g : Nat) (s0_0 : List Int) (s0_1 : Int) (s0_2 : Int) (r1 : Int) (r2 : Int) (r3 : Int) (w0 w : World) (hI : IsS96 w0 w g s0_0 s0_1 s0_2) (hB : Below w0.heap.size w0 w) (h : spec_l1Byte.f s0_0 s0_1 s0_2 = some (r1, r2, r3)) :
  Calls Try.prog 131 #[.pointer (some ⟨g, 0, none⟩)] w fun e w' => e = .returned (.int .i64 r1) ∧ IsS96 w0 w' g s0_0 r2 r3 ∧ Below w0.heap.size w0 w' ∧ KeepBut w w' g none := by
 have HI0 := sd_ hI
 have HK := sd_ (KeepBut.refl w g none)
 have HL := sd_ hB.size
 clear hI
 have HW0 := sd_ hB.size
 have HB := sd_ hB
 clear hB
 have H : (if s0_1 < (s0_0.length : Int) then (if 0 ≤ s0_1 then (some (Go.bits .and .i64 (wrap64 ((Go.bits .and .i64 (Go.bits .xor .i64 ((wrap64 ((wrap64 (s0_2 * 6364136223846793005)) + 1442695040888963407)) / 8589934592) ((wrap64 ((wrap64 (s0_2 * 6364136223846793005)) + 1442695040888963407)) / 35184372088832)) 255) + (wrap64 (rd s0_0 s0_1)))) 255, wrap64 (s0_1 + 1), wrap64 ((wrap64 (s0_2 * 6364136223846793005)) + 1442695040888963407))) else (none)) else (some (Go.bits .and .i64 (Go.bits .xor .i64 ((wrap64 ((wrap64 (s0_2 * 6364136223846793005)) + 1442695040888963407)) / 8589934592) ((wrap64 ((wrap64 (s0_2 * 6364136223846793005)) + 1442695040888963407)) / 35184372088832)) 255, s0_1, wrap64 ((wrap64 (s0_2 * 6364136223846793005)) + 1442695040888963407)))) = some (r1, r2, r3) := h
 clear h
 by_cases c2 : s0_1 < (s0_0.length : Int)
 ·rw [if_pos c2] at H
  have c2b0 : decide (s0_1 < (s0_0.length : Int)) = true := decide_eq_true c2
  clear c2
  by_cases c3 : 0 ≤ s0_1
  ·rw [if_pos c3] at H
   have c3b0 : decide (0 ≤ s0_1) = true := decide_eq_true c3
   clear c3
   simp only [Option.some.injEq, Prod.mk.injEq] at H
   obtain ⟨rfl, rfl, rfl⟩ := H
   obtain ⟨ASz4_0, cSz4_0, HGz4, hgz4, HSz4_0⟩ := HI0.out
   have hcz4_0 := cellS96_0 HGz4
   have hcz4_1 := cellS96_1 HGz4
   have hcz4_2 := cellS96_2 HGz4
   have hfz4_1 := blk_frozen HGz4 1
   have hfz4_2 := blk_frozen HGz4 2
   clear HGz4 hgz4
   have p242 : 0 ≤ (s0_1 : Int) := dt_
   have q242 : s0_1 < (s0_0.length : Int) := dt_
   obtain ⟨ad242, e242, hx242_0⟩ := Kd.at_int HSz4_0 s0_1 p242 q242
   cases e242
   have hn242_0 : ad242.block ≠ g := Nat.ne_of_lt (Nat.lt_of_lt_of_le (by have := World.block_lt_of_cell? _ _ hx242_0; first | rwa [add_block] at this | exact this) (IsS96.ge HI0.out))
   replace hx242_0 := pw_cell_below HB.out hx242_0
   replace hx242_0 := (cell_far (p := ⟨g, 2, none⟩) (by first | (rw [add_block]; exact hn242_0) | (show (Addr.add _ _).block ≠ _; rw [add_block]; exact hn242_0) | exact hn242_0) (.int .i64 (wrap64 ((wrap64 (s0_2 * 6364136223846793005)) + 1442695040888963407)))).trans hx242_0
   (try have hy242_0 := fun (n_ : Nat) => (show (((w.drewN n_).setCell ⟨g, 2, none⟩ (.int .i64 (wrap64 ((wrap64 (s0_2 * 6364136223846793005)) + 1442695040888963407))))).cell? _ = some _ from hx242_0))
   clear hn242_0
   replace p242 := eq_true p242
   replace q242 := eq_true q242
   go_enter Try.func131, Try.ntmps131
   go_wp2
   repeat (go_quiet (fail); try go_wp2)
   go_ret
   exact ⟨an_, by repeat (first | (with_reducible first | exact HI0.out | apply IsS96.alloc | apply IsS96.drewN | apply IsS96.drew | apply IsS96.set_1 | apply IsS96.set_2) | exact HI0.out), by repeat (first | (with_reducible first | exact HB.out | apply below_alloc | apply pw_below_drewN | apply below_drew1 | refine below_set ?_ (IsS96.ge HI0.out)) | exact HB.out), by repeat (first | (with_reducible first | exact HK.out | apply KeepBut.set_ | apply keep_drewN | apply keep_drew | apply keep_alloc) | exact HK.out)⟩
  rw [if_neg c3] at H
  exact absurd H (by simp)
 rw [if_neg c2] at H
 have c2b0 : decide (s0_1 < (s0_0.length : Int)) = false := decide_eq_false c2
 clear c2
 simp only [Option.some.injEq, Prod.mk.injEq] at H
 obtain ⟨rfl, rfl, rfl⟩ := H
 obtain ⟨ASz5_0, cSz5_0, HGz5, hgz5, HSz5_0⟩ := HI0.out
 have hcz5_0 := cellS96_0 HGz5
 have hcz5_1 := cellS96_1 HGz5
 have hcz5_2 := cellS96_2 HGz5
 have hfz5_1 := blk_frozen HGz5 1
 have hfz5_2 := blk_frozen HGz5 2
 clear HGz5 hgz5
 go_enter Try.func131, Try.ntmps131
 go_wp2
 repeat (go_quiet (fail); try go_wp2)
 go_ret
 exact ⟨an_, by repeat (first | (with_reducible first | exact HI0.out | apply IsS96.alloc | apply IsS96.drewN | apply IsS96.drew | apply IsS96.set_1 | apply IsS96.set_2) | exact HI0.out), by repeat (first | (with_reducible first | exact HB.out | apply below_alloc | apply pw_below_drewN | apply below_drew1 | refine below_set ?_ (IsS96.ge HI0.out)) | exact HB.out), by repeat (first | (with_reducible first | exact HK.out | apply KeepBut.set_ | apply keep_drewN | apply keep_drew | apply keep_alloc) | exact HK.out)⟩


/-! ### spec_l1Below: function 112 -/
def spec_l1Below.f (s0_0 : List Int) (s0_1 : Int) (s0_2 : Int) (a1 : Int) : Option (Int × Int × Int) := if a1 ≤ 0 then (some (0, s0_1, s0_2)) else (if a1 ≤ 256 then ((spec_l1Byte.f s0_0 s0_1 s0_2).bind fun bt243 => (if a1 = 0 then (none) else (some (Int.tmod bt243.1 a1, bt243.2.1, bt243.2.2)))) else ((spec_l1Byte.f s0_0 s0_1 s0_2).bind fun bt246 => ((spec_l1Byte.f s0_0 bt246.2.1 bt246.2.2).bind fun bt249 => ((spec_l1Byte.f s0_0 bt249.2.1 bt249.2.2).bind fun bt252 => ((spec_l1Byte.f s0_0 bt252.2.1 bt252.2.2).bind fun bt255 => (if a1 = 0 then (none) else (some (Int.tmod (wrap64 ((wrap64 ((wrap64 ((wrap64 (bt246.1 * 16777216)) + (wrap64 (bt249.1 * 65536)))) + (wrap64 (bt252.1 * 256)))) + bt255.1)) a1, bt255.2.1, bt255.2.2))))))))
set_option maxHeartbeats 8000000 in
set_option maxRecDepth 100000 in
theorem spec_l1Below.calls (g : Nat) (s0_0 : List Int) (s0_1 : Int) (s0_2 : Int) (a1 : Int) (r1 : Int) (r2 : Int) (r3 : Int) (w0 w : World) (hI : IsS96 w0 w g s0_0 s0_1 s0_2) (hB : Below w0.heap.size w0 w) (h : spec_l1Below.f s0_0 s0_1 s0_2 a1 = some (r1, r2, r3)) :
  Calls Try.prog 112 #[.pointer (some ⟨g, 0, none⟩), .int .i64 a1] w fun e w' => e = .returned (.int .i64 r1) ∧ IsS96 w0 w' g s0_0 r2 r3 ∧ Below w0.heap.size w0 w' ∧ KeepBut w w' g none := by
 have HI0 := sd_ hI
 have HK := sd_ (KeepBut.refl w g none)
 have HL := sd_ hB.size
 clear hI
 have HW0 := sd_ hB.size
 have HB := sd_ hB
 clear hB
 have H : (if a1 ≤ 0 then (some (0, s0_1, s0_2)) else (if a1 ≤ 256 then ((spec_l1Byte.f s0_0 s0_1 s0_2).bind fun bt243 => (if a1 = 0 then (none) else (some (Int.tmod bt243.1 a1, bt243.2.1, bt243.2.2)))) else ((spec_l1Byte.f s0_0 s0_1 s0_2).bind fun bt246 => ((spec_l1Byte.f s0_0 bt246.2.1 bt246.2.2).bind fun bt249 => ((spec_l1Byte.f s0_0 bt249.2.1 bt249.2.2).bind fun bt252 => ((spec_l1Byte.f s0_0 bt252.2.1 bt252.2.2).bind fun bt255 => (if a1 = 0 then (none) else (some (Int.tmod (wrap64 ((wrap64 ((wrap64 ((wrap64 (bt246.1 * 16777216)) + (wrap64 (bt249.1 * 65536)))) + (wrap64 (bt252.1 * 256)))) + bt255.1)) a1, bt255.2.1, bt255.2.2))))))))) = some (r1, r2, r3) := h
 clear h
 by_cases c3 : a1 ≤ 0
 ·rw [if_pos c3] at H
  have c3b0 : decide (a1 ≤ 0) = true := decide_eq_true c3
  clear c3
  simp only [Option.some.injEq, Prod.mk.injEq] at H
  obtain ⟨rfl, rfl, rfl⟩ := H
  go_enter Try.func112, Try.ntmps112
  go_wp2
  go_ret
  exact ⟨an_, by repeat (first | (with_reducible first | exact HI0.out | apply IsS96.alloc | apply IsS96.drewN | apply IsS96.drew | apply IsS96.set_1 | apply IsS96.set_2) | exact HI0.out), by repeat (first | (with_reducible first | exact HB.out | apply below_alloc | apply pw_below_drewN | apply below_drew1 | refine below_set ?_ (IsS96.ge HI0.out)) | exact HB.out), by repeat (first | (with_reducible first | exact HK.out | apply KeepBut.set_ | apply keep_drewN | apply keep_drew | apply keep_alloc) | exact HK.out)⟩
 rw [if_neg c3] at H
 have c3b0 : decide (a1 ≤ 0) = false := decide_eq_false c3
 clear c3
 by_cases c4 : a1 ≤ 256
 ·rw [if_pos c4] at H
  have c4b0 : decide (a1 ≤ 256) = true := decide_eq_true c4
  clear c4
  replace H := Option.bind_eq_some_iff.mp H
  obtain ⟨⟨t243, t244, t245⟩, A50, H⟩ := H
  try dsimp only at H
  have A5 := sd_ A50
  clear A50
  by_cases c6 : a1 = 0
  ·rw [if_pos c6] at H
   exact absurd H (by simp)
  rw [if_neg c6] at H
  have c6b0 : (a1 == 0) = false := beq_eq_false_iff_ne.mpr c6
  have c6b1 : (a1 != 0) = true := bne_iff_ne.mpr c6
  simp only [Option.some.injEq, Prod.mk.injEq] at H
  obtain ⟨rfl, rfl, rfl⟩ := H
  go_enter Try.func112, Try.ntmps112
  go_wp2_with (first | ((with_reducible refine gate_callee (f := 131) rfl ?_); refine goesL_ (some 14) rfl rfl Try.func131 (by kernel_rfl) rfl #[.pointer (some ⟨g, 0, none⟩)] rfl la_ ?_; (with_reducible refine (spec_l1Byte.calls g s0_0 s0_1 s0_2 t243 t244 t245 w0 _ ?side1 ?side2 A5.out).mono ?_); (case side1 => repeat (first | (with_reducible first | exact HI0.out | apply IsS96.alloc | apply IsS96.drewN | apply IsS96.drew | apply IsS96.set_1 | apply IsS96.set_2) | exact HI0.out)); (case side2 => repeat (first | (with_reducible first | exact HB.out | apply below_alloc | apply pw_below_drewN | apply below_drew1 | refine below_set ?_ (IsS96.ge HI0.out)) | exact HB.out)); rintro e w7 ⟨rfl, hi, hb, hk⟩; refine ⟨_, rfl, ?_⟩; replace HK := sd_ (KeepBut.trans (by repeat (first | (with_reducible first | exact HK.out | apply KeepBut.set_ | apply keep_drewN | apply keep_drew | apply keep_alloc) | exact HK.out)) hk (.inl rfl)); replace HB := sd_ (hb); replace HI0 := sd_ (hi); (try clear hb); (try clear hk); (try clear hi)))
  go_ret
  exact ⟨an_, by repeat (first | (with_reducible first | exact HI0.out | apply IsS96.alloc | apply IsS96.drewN | apply IsS96.drew | apply IsS96.set_1 | apply IsS96.set_2) | exact HI0.out), by repeat (first | (with_reducible first | exact HB.out | apply below_alloc | apply pw_below_drewN | apply below_drew1 | refine below_set ?_ (IsS96.ge HI0.out)) | exact HB.out), by repeat (first | (with_reducible first | exact HK.out | apply KeepBut.set_ | apply keep_drewN | apply keep_drew | apply keep_alloc) | exact HK.out)⟩
 rw [if_neg c4] at H
 have c4b0 : decide (a1 ≤ 256) = false := decide_eq_false c4
 clear c4
 replace H := Option.bind_eq_some_iff.mp H
 obtain ⟨⟨t246, t247, t248⟩, A80, H⟩ := H
 try dsimp only at H
 have A8 := sd_ A80
 clear A80
 replace H := Option.bind_eq_some_iff.mp H
 obtain ⟨⟨t249, t250, t251⟩, A90, H⟩ := H
 try dsimp only at H
 have A9 := sd_ A90
 clear A90
 replace H := Option.bind_eq_some_iff.mp H
 obtain ⟨⟨t252, t253, t254⟩, A100, H⟩ := H
 try dsimp only at H
 have A10 := sd_ A100
 clear A100
 replace H := Option.bind_eq_some_iff.mp H
 obtain ⟨⟨t255, t256, t257⟩, A110, H⟩ := H
 try dsimp only at H
 have A11 := sd_ A110
 clear A110
 by_cases c12 : a1 = 0
 ·rw [if_pos c12] at H
  exact absurd H (by simp)
 rw [if_neg c12] at H
 have c12b0 : (a1 == 0) = false := beq_eq_false_iff_ne.mpr c12
 have c12b1 : (a1 != 0) = true := bne_iff_ne.mpr c12
 simp only [Option.some.injEq, Prod.mk.injEq] at H
 obtain ⟨rfl, rfl, rfl⟩ := H
 go_enter Try.func112, Try.ntmps112
 go_wp2_with (first | ((with_reducible refine gate_callee (f := 131) rfl ?_); refine goesL_ (some 18) rfl rfl Try.func131 (by kernel_rfl) rfl #[.pointer (some ⟨g, 0, none⟩)] rfl la_ ?_; (with_reducible refine (spec_l1Byte.calls g s0_0 s0_1 s0_2 t246 t247 t248 w0 _ ?side1 ?side2 A8.out).mono ?_); (case side1 => repeat (first | (with_reducible first | exact HI0.out | apply IsS96.alloc | apply IsS96.drewN | apply IsS96.drew | apply IsS96.set_1 | apply IsS96.set_2) | exact HI0.out)); (case side2 => repeat (first | (with_reducible first | exact HB.out | apply below_alloc | apply pw_below_drewN | apply below_drew1 | refine below_set ?_ (IsS96.ge HI0.out)) | exact HB.out)); rintro e w13 ⟨rfl, hi, hb, hk⟩; refine ⟨_, rfl, ?_⟩; replace HK := sd_ (KeepBut.trans (by repeat (first | (with_reducible first | exact HK.out | apply KeepBut.set_ | apply keep_drewN | apply keep_drew | apply keep_alloc) | exact HK.out)) hk (.inl rfl)); replace HB := sd_ (hb); replace HI0 := sd_ (hi); (try clear hb); (try clear hk); (try clear hi)) | ((with_reducible refine gate_callee (f := 131) rfl ?_); refine goesL_ (some 20) rfl rfl Try.func131 (by kernel_rfl) rfl #[.pointer (some ⟨g, 0, none⟩)] rfl la_ ?_; (with_reducible refine (spec_l1Byte.calls g s0_0 t247 t248 t249 t250 t251 w0 _ ?side1 ?side2 A9.out).mono ?_); (case side1 => repeat (first | (with_reducible first | exact HI0.out | apply IsS96.alloc | apply IsS96.drewN | apply IsS96.drew | apply IsS96.set_1 | apply IsS96.set_2) | exact HI0.out)); (case side2 => repeat (first | (with_reducible first | exact HB.out | apply below_alloc | apply pw_below_drewN | apply below_drew1 | refine below_set ?_ (IsS96.ge HI0.out)) | exact HB.out)); rintro e w14 ⟨rfl, hi, hb, hk⟩; refine ⟨_, rfl, ?_⟩; replace HK := sd_ (KeepBut.trans (by repeat (first | (with_reducible first | exact HK.out | apply KeepBut.set_ | apply keep_drewN | apply keep_drew | apply keep_alloc) | exact HK.out)) hk (.inl rfl)); replace HB := sd_ (hb); replace HI0 := sd_ (hi); (try clear hb); (try clear hk); (try clear hi)) | ((with_reducible refine gate_callee (f := 131) rfl ?_); refine goesL_ (some 22) rfl rfl Try.func131 (by kernel_rfl) rfl #[.pointer (some ⟨g, 0, none⟩)] rfl la_ ?_; (with_reducible refine (spec_l1Byte.calls g s0_0 t250 t251 t252 t253 t254 w0 _ ?side1 ?side2 A10.out).mono ?_); (case side1 => repeat (first | (with_reducible first | exact HI0.out | apply IsS96.alloc | apply IsS96.drewN | apply IsS96.drew | apply IsS96.set_1 | apply IsS96.set_2) | exact HI0.out)); (case side2 => repeat (first | (with_reducible first | exact HB.out | apply below_alloc | apply pw_below_drewN | apply below_drew1 | refine below_set ?_ (IsS96.ge HI0.out)) | exact HB.out)); rintro e w15 ⟨rfl, hi, hb, hk⟩; refine ⟨_, rfl, ?_⟩; replace HK := sd_ (KeepBut.trans (by repeat (first | (with_reducible first | exact HK.out | apply KeepBut.set_ | apply keep_drewN | apply keep_drew | apply keep_alloc) | exact HK.out)) hk (.inl rfl)); replace HB := sd_ (hb); replace HI0 := sd_ (hi); (try clear hb); (try clear hk); (try clear hi)) | ((with_reducible refine gate_callee (f := 131) rfl ?_); refine goesL_ (some 24) rfl rfl Try.func131 (by kernel_rfl) rfl #[.pointer (some ⟨g, 0, none⟩)] rfl la_ ?_; (with_reducible refine (spec_l1Byte.calls g s0_0 t253 t254 t255 t256 t257 w0 _ ?side1 ?side2 A11.out).mono ?_); (case side1 => repeat (first | (with_reducible first | exact HI0.out | apply IsS96.alloc | apply IsS96.drewN | apply IsS96.drew | apply IsS96.set_1 | apply IsS96.set_2) | exact HI0.out)); (case side2 => repeat (first | (with_reducible first | exact HB.out | apply below_alloc | apply pw_below_drewN | apply below_drew1 | refine below_set ?_ (IsS96.ge HI0.out)) | exact HB.out)); rintro e w16 ⟨rfl, hi, hb, hk⟩; refine ⟨_, rfl, ?_⟩; replace HK := sd_ (KeepBut.trans (by repeat (first | (with_reducible first | exact HK.out | apply KeepBut.set_ | apply keep_drewN | apply keep_drew | apply keep_alloc) | exact HK.out)) hk (.inl rfl)); replace HB := sd_ (hb); replace HI0 := sd_ (hi); (try clear hb); (try clear hk); (try clear hi)))
 go_ret
 exact ⟨an_, by repeat (first | (with_reducible first | exact HI0.out | apply IsS96.alloc | apply IsS96.drewN | apply IsS96.drew | apply IsS96.set_1 | apply IsS96.set_2) | exact HI0.out), by repeat (first | (with_reducible first | exact HB.out | apply below_alloc | apply pw_below_drewN | apply below_drew1 | refine below_set ?_ (IsS96.ge HI0.out)) | exact HB.out), by repeat (first | (with_reducible first | exact HK.out | apply KeepBut.set_ | apply keep_drewN | apply keep_drew | apply keep_alloc) | exact HK.out)⟩

end Go.Proofs.Ytcdmnofomoadlaa.P
end
