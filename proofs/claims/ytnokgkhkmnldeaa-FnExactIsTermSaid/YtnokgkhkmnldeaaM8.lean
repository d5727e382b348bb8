-- Several texts in one (wip/tools/merge.py).
import Derived.Test.YtnokgkhkmnldeaaM1
import Derived.Test.YtnokgkhkmnldeaaM6
import Derived.Test.YtnokgkhkmnldeaaM5
import Derived.Test.YtnokgkhkmnldeaaM7
section
namespace Go.Proofs.Ytnokgkhkmnldeaa.P
open Go.RowKit Go.Proofs.YtnokgkhkmnldeaaW.PrintWords Go.Proofs.YtnokgkhkmnldeaaW.PrintLast Go.Proofs.YtnokgkhkmnldeaaW.PrintMore
attribute [local go_sem] max2_int min2_int max_two min_two max_three min_three max_four min_four   -- for this text's walks alone
set_option linter.unusedVariables false
set_option linter.unusedSimpArgs false

/-! ### impl_isTypeOf: function 63 -/
def impl_isTypeOf.l0 : Nat → List Int → Int → Int → Int → List Int → List Int → List Bool → Option (Bool)
 | 0, _, _, _, _, _, _, _ => none
 | k + 1, x12, x13, x14, x355000, x355001, x355002, x355003 => if x14 < x13 then (if 0 ≤ x14 then (if x14 < (x12.length : Int) then ((impl_shape.f (rd x12 x14)).bind fun bt357 => (if bt357.1 = 3 then ((impl_System_has.f x355000 x355001 x355002 x355003 bt357.2).bind fun t359 => (if t359 = true then (impl_isTypeOf.l0 k x12 x13 (wrap64 (x14 + 1)) x355000 x355001 x355002 x355003) else (some false))) else (if bt357.1 = 4 then ((impl_System_has.f x355000 x355001 x355002 x355003 bt357.2).bind fun t360 => (if t360 = true then (impl_isTypeOf.l0 k x12 x13 (wrap64 (x14 + 1)) x355000 x355001 x355002 x355003) else (some false))) else (impl_isTypeOf.l0 k x12 x13 (wrap64 (x14 + 1)) x355000 x355001 x355002 x355003)))) else (none)) else (none)) else (some true)
def impl_isTypeOf.f (k : Nat) (a0_0 : Int) (l0_1 : List Int) (l0_2 : List Int) (l0_3 : List Bool) (l1 : List Int) : Option (Bool) := (impl_isWrittenType.f k l1).bind fun t355 => (if t355 = true then (impl_isTypeOf.l0 k l1 (l1.length : Int) 0 a0_0 l0_1 l0_2 l0_3) else (some false))
set_option maxHeartbeats 8000000 in
set_option maxRecDepth 100000 in
theorem impl_isTypeOf.calls (k : Nat) (a0_0 : Int) (A0_1 : Option Addr) (c0_1 : Nat) (l0_1 : List Int) (A0_2 : Option Addr) (c0_2 : Nat) (l0_2 : List Int) (A0_3 : Option Addr) (c0_3 : Nat) (l0_3 : List Bool) (A1 : Option Addr) (c1 : Nat) (l1 : List Int) (r : Bool) (w : World) (hr0_1 : Kd.C (Kd.int .i64) w A0_1 l0_1.length l0_1) (hc0_1 : l0_1.length ≤ c0_1) (hr0_2 : Kd.C (Kd.int .i64) w A0_2 l0_2.length l0_2) (hc0_2 : l0_2.length ≤ c0_2) (hr0_3 : Kd.C Kd.bool w A0_3 l0_3.length l0_3) (hc0_3 : l0_3.length ≤ c0_3) (hr1 : Kd.C (Kd.int .i64) w A1 l1.length l1) (hc1 : l1.length ≤ c1) (h : impl_isTypeOf.f k a0_0 l0_1 l0_2 l0_3 l1 = some r) :
  Calls Try.prog 63 #[.agg #[.int .i64 a0_0, .slice A0_1 l0_1.length c0_1, .slice A0_2 l0_2.length c0_2, .slice A0_3 l0_3.length c0_3], .slice A1 l1.length c1] w fun e w' => e = .returned (.bool r) ∧ Below w.heap.size w w' := by
 have hu37 := Try.underlying37
 have HR0_1 := sd_ hr0_1
 have HC0_1 := sd_ hc0_1
 clear hr0_1 hc0_1
 have HR0_2 := sd_ hr0_2
 have HC0_2 := sd_ hc0_2
 clear hr0_2 hc0_2
 have HR0_3 := sd_ hr0_3
 have HC0_3 := sd_ hc0_3
 clear hr0_3 hc0_3
 have HR1 := sd_ hr1
 have HC1 := sd_ hc1
 clear hr1 hc1
 have HB := sd_ (Below.refl w.heap.size w)
 have H : ((impl_isWrittenType.f k l1).bind fun t355 => (if t355 = true then (impl_isTypeOf.l0 k l1 (l1.length : Int) 0 a0_0 l0_1 l0_2 l0_3) else (some false))) = some r := h
 clear h
 replace H := Option.bind_eq_some_iff.mp H
 obtain ⟨t355, A30, H⟩ := H
 try dsimp only at H
 have A3 := sd_ A30
 clear A30
 have HP4 := sd_ H
 clear H
 go_enter Try.func63, Try.ntmps63
 go_upto_if 11 with (first | ((with_reducible refine gate_dst (N := 2) rfl ?_); refine box_event ?hg (N := 2) ?hd (cs := #[.int .i64 a0_0, .slice A0_1 l0_1.length c0_1, .slice A0_2 l0_2.length c0_2, .slice A0_3 l0_3.length c0_3]) (t := 37) ?hr ?_; (case hd => rfl); (case hg => rfl); (case hr => first | (go_simp; done) | (go_simp; rfl)); intro gb354 hg w5 hbox hb; have BK354 := sd_ (hbox); have GW354 := sd_ ((by rw [hg]; exact (below_size (bw0_ HB.out)) : w.heap.size ≤ gb354)); have GE354 := sd_ ((by rw [hg]; exact (below_size (bw0_ HB.out)) : w.heap.size ≤ gb354)); replace HB := sd_ (below_step (bw0_ HB.out) hb); clear hb hbox hg) | ((with_reducible refine gate_callee (f := 49) rfl ?_); refine goesL_ (some 10) rfl rfl Try.func49 (by kernel_rfl) rfl #[.slice A1 l1.length c1] rfl (by (try simp only [List.map_toArray, List.map_cons, List.map_nil]); first | done | rfl | (simp only [List.length_drop, List.length_take]; rfl)) ?_; (with_reducible refine (impl_isWrittenType.calls k _ _ l1 t355 _ ?side1 ?side2 A3.out).mono ?_); (case side1 => exact kc_ HR1.out HB.out); (case side2 => exact HC1.out); rintro e w' ⟨rfl, ⟨nd, rfl⟩⟩; refine ⟨_, rfl, ?_⟩))
 have H := HP4.out
 clear HP4
 by_cases c6 : t355 = true
 ·subst c6
  have H1 : (impl_isTypeOf.l0 k l1 (l1.length : Int) 0 a0_0 l0_1 l0_2 l0_3) = some r := by rw [if_pos rfl] at H; exact H
  clear H
  have H := H1
  clear H1
  have H' := sd_ H
  clear H
  go_wp2
  go_loopg [14] k (fun kq v14 w' => ∃ (x14_1 : Int), v14 = .int .i64 x14_1 ∧ Aside0 (impl_isTypeOf.l0 kq l1 (l1.length : Int) x14_1 a0_0 l0_1 l0_2 l0_3 = some r) ∧ Aside0 (kq ≤ k) ∧ Aside0 (w'.heap[gb354]? = some (.cells #[.int .i64 a0_0, (.slice A0_1 l0_1.length c0_1), (.slice A0_2 l0_2.length c0_2), (.slice A0_3 l0_3.length c0_3)] 37 (0, 0))) ∧ Aside0 (Below w.heap.size w w'))
  case atStart => exact ⟨(0), (by first | rfl | (simp; done) | (simp [*]; done)), H', ⟨Nat.le_refl _⟩, ⟨by (with_reducible repeat (first | refine blk_drewN ?_ _ | refine blk_drew ?_ | refine blk_alloc ?_ _)); exact BK354.out⟩, ⟨bw1_ HB.out GE354.out⟩⟩
  case round =>
   clear H'
   try clear c1
   try clear p2
   try clear c4
   try clear c6
   obtain ⟨x14_1, rfl, HA, HK1, BK354, HB⟩ := hrel
   cases gk with
   | zero => exact absurd HA.out (by simp [impl_isTypeOf.l0])
   | succ k1 =>
    have H := HA.out
    clear HA
    simp only [impl_isTypeOf.l0] at H
    by_cases c7 : x14_1 < (l1.length : Int)
    ·rw [if_pos c7] at H
     have c7b0 : decide (x14_1 < (l1.length : Int)) = true := decide_eq_true c7
     clear c7
     (first | rw [c7b0] | (simp only [i64_w, i32_w]; rw [c7b0]) | skip)
     by_cases c8 : 0 ≤ x14_1
     ·rw [if_pos c8] at H
      have c8b0 : decide (0 ≤ x14_1) = true := decide_eq_true c8
      clear c8
      by_cases c9 : x14_1 < (l1.length : Int)
      ·rw [if_pos c9] at H
       have c9b0 : decide (x14_1 < (l1.length : Int)) = true := decide_eq_true c9
       clear c9
       replace H := Option.bind_eq_some_iff.mp H
       obtain ⟨⟨t357, t358⟩, A100, H⟩ := H
       try dsimp only at H
       have A10 := sd_ A100
       clear A100
       by_cases c11 : t357 = 3
       ·rw [if_pos c11] at H
        have c11b0 : (t357 == 3) = true := beq_iff_eq.mpr c11
        have c11b1 : (t357 != 3) = false := bne_eq_false_iff_eq.mpr c11
        clear c11
        replace H := Option.bind_eq_some_iff.mp H
        obtain ⟨t359, A120, H⟩ := H
        try dsimp only at H
        have A12 := sd_ A120
        clear A120
        have HP13 := sd_ H
        clear H
        have p356 : 0 ≤ (x14_1 : Int) := of_decide_eq_true (by first | (with_reducible assumption) | assumption)
        have q356 : x14_1 < (l1.length : Int) := of_decide_eq_true (by first | (with_reducible assumption) | assumption)
        obtain ⟨ad356, e356, hx356_0⟩ := Kd.at_int HR1.out x14_1 p356 q356
        cases e356
        replace hx356_0 := (HB.out.cell (World.block_lt_of_cell? w _ hx356_0)).trans hx356_0
        replace p356 := eq_true p356
        replace q356 := eq_true q356
        go_upto_if 34 with (first | ((with_reducible refine gate_callee (f := 56) rfl ?_); refine goesL_ (some 20) rfl rfl Try.func56 (by kernel_rfl) rfl #[.int .i64 (rd l1 x14_1)] rfl (by (try simp only [List.map_toArray, List.map_cons, List.map_nil]); first | done | rfl | (simp only [List.length_drop, List.length_take]; rfl)) ?_; (with_reducible refine (impl_shape.calls (rd l1 x14_1) t357 t358 _ A10.out).mono ?_); rintro e w' ⟨rfl, ⟨nd, rfl⟩⟩; refine ⟨_, rfl, ?_⟩; have hcz14_0 : wr.cell? ⟨gb354, 0, none⟩ = some (.int .i64 a0_0) := (blk_cell BK354.out 0).trans rfl; have hcz14_1 : wr.cell? ⟨gb354, 1, none⟩ = some (.slice A0_1 l0_1.length c0_1) := (blk_cell BK354.out 1).trans rfl; have hcz14_2 : wr.cell? ⟨gb354, 2, none⟩ = some (.slice A0_2 l0_2.length c0_2) := (blk_cell BK354.out 2).trans rfl; have hcz14_3 : wr.cell? ⟨gb354, 3, none⟩ = some (.slice A0_3 l0_3.length c0_3) := (blk_cell BK354.out 3).trans rfl; have hfz14_0 := blk_frozen BK354.out 0; have hfz14_1 := blk_frozen BK354.out 1; have hfz14_2 := blk_frozen BK354.out 2; have hfz14_3 := blk_frozen BK354.out 3) | (go_at_call 91; (with_reducible refine (impl_System_has.calls a0_0 _ _ l0_1 _ _ l0_2 _ _ l0_3 t358 t359 _ ?side1 ?side2 ?side3 ?side4 ?side5 ?side6 A12.out).mono ?_); (case side1 => repeat (first | exact (Kd.C_below HR0_1.out (bw1_ HB.out GE354.out)) | (with_reducible refine Kd.C_alloc ?_ _) | (with_reducible refine Kd.C_drewN ?_ _) | (with_reducible refine Kd.C_drew ?_))); (case side2 => exact HC0_1.out); (case side3 => repeat (first | exact (Kd.C_below HR0_2.out (bw1_ HB.out GE354.out)) | (with_reducible refine Kd.C_alloc ?_ _) | (with_reducible refine Kd.C_drewN ?_ _) | (with_reducible refine Kd.C_drew ?_))); (case side4 => exact HC0_2.out); (case side5 => repeat (first | exact (Kd.C_below HR0_3.out (bw1_ HB.out GE354.out)) | (with_reducible refine Kd.C_alloc ?_ _) | (with_reducible refine Kd.C_drewN ?_ _) | (with_reducible refine Kd.C_drew ?_))); (case side6 => exact HC0_3.out); rintro e w15 ⟨rfl, hb⟩; replace BK354 := sd_ (bb_ BK354.out hb); replace HB := sd_ (below_step (bw1_ HB.out GE354.out) hb); (try clear hb); (try clear hb2); (try clear hk); (try clear hi)))
        have H := HP13.out
        clear HP13
        by_cases c16 : t359 = true
        ·subst c16
         have H1 : (impl_isTypeOf.l0 k1 l1 (l1.length : Int) (wrap64 (x14_1 + 1)) a0_0 l0_1 l0_2 l0_3) = some r := by rw [if_pos rfl] at H; exact H
         clear H
         have H := H1
         clear H1
         have H' := sd_ H
         clear H
         go_wp2
         go_roundg k1
         case measure => have := HK1.out; omega
         case rel => exact ⟨(wrap64 (x14_1 + 1)), (by first | rfl | (simp; done) | (simp [*]; done)), H', ⟨by have := HK1.out; omega⟩, ⟨by (with_reducible repeat (first | refine blk_drewN ?_ _ | refine blk_drew ?_ | refine blk_alloc ?_ _)); exact BK354.out⟩, ⟨bw1_ HB.out GE354.out⟩⟩
        ·replace c16 := Bool.eq_false_iff.mpr c16
         subst c16
         have H1 : (some false) = some r := by rw [if_neg (show ¬ (false = true) by decide)] at H; exact H
         clear H
         have H := H1
         clear H1
         obtain rfl := Option.some.inj H
         go_wp2
         go_ret
         exact ⟨an_, bw1_ HB.out GE354.out⟩
       ·rw [if_neg c11] at H
        have c11b0 : (t357 == 3) = false := beq_eq_false_iff_ne.mpr c11
        have c11b1 : (t357 != 3) = true := bne_iff_ne.mpr c11
        by_cases c17 : t357 = 4
        ·rw [if_pos c17] at H
         have c17b0 : (t357 == 4) = true := beq_iff_eq.mpr c17
         have c17b1 : (t357 != 4) = false := bne_eq_false_iff_eq.mpr c17
         clear c17
         replace H := Option.bind_eq_some_iff.mp H
         obtain ⟨t360, A180, H⟩ := H
         try dsimp only at H
         have A18 := sd_ A180
         clear A180
         have HP19 := sd_ H
         clear H
         have p356 : 0 ≤ (x14_1 : Int) := of_decide_eq_true (by first | (with_reducible assumption) | assumption)
         have q356 : x14_1 < (l1.length : Int) := of_decide_eq_true (by first | (with_reducible assumption) | assumption)
         obtain ⟨ad356, e356, hx356_0⟩ := Kd.at_int HR1.out x14_1 p356 q356
         cases e356
         replace hx356_0 := (HB.out.cell (World.block_lt_of_cell? w _ hx356_0)).trans hx356_0
         replace p356 := eq_true p356
         replace q356 := eq_true q356
         go_upto_if 34 with (first | ((with_reducible refine gate_callee (f := 56) rfl ?_); refine goesL_ (some 20) rfl rfl Try.func56 (by kernel_rfl) rfl #[.int .i64 (rd l1 x14_1)] rfl (by (try simp only [List.map_toArray, List.map_cons, List.map_nil]); first | done | rfl | (simp only [List.length_drop, List.length_take]; rfl)) ?_; (with_reducible refine (impl_shape.calls (rd l1 x14_1) t357 t358 _ A10.out).mono ?_); rintro e w' ⟨rfl, ⟨nd, rfl⟩⟩; refine ⟨_, rfl, ?_⟩; have hcz20_0 : wr.cell? ⟨gb354, 0, none⟩ = some (.int .i64 a0_0) := (blk_cell BK354.out 0).trans rfl; have hcz20_1 : wr.cell? ⟨gb354, 1, none⟩ = some (.slice A0_1 l0_1.length c0_1) := (blk_cell BK354.out 1).trans rfl; have hcz20_2 : wr.cell? ⟨gb354, 2, none⟩ = some (.slice A0_2 l0_2.length c0_2) := (blk_cell BK354.out 2).trans rfl; have hcz20_3 : wr.cell? ⟨gb354, 3, none⟩ = some (.slice A0_3 l0_3.length c0_3) := (blk_cell BK354.out 3).trans rfl; have hfz20_0 := blk_frozen BK354.out 0; have hfz20_1 := blk_frozen BK354.out 1; have hfz20_2 := blk_frozen BK354.out 2; have hfz20_3 := blk_frozen BK354.out 3) | (go_at_call 91; (with_reducible refine (impl_System_has.calls a0_0 _ _ l0_1 _ _ l0_2 _ _ l0_3 t358 t360 _ ?side1 ?side2 ?side3 ?side4 ?side5 ?side6 A18.out).mono ?_); (case side1 => repeat (first | exact (Kd.C_below HR0_1.out (bw1_ HB.out GE354.out)) | (with_reducible refine Kd.C_alloc ?_ _) | (with_reducible refine Kd.C_drewN ?_ _) | (with_reducible refine Kd.C_drew ?_))); (case side2 => exact HC0_1.out); (case side3 => repeat (first | exact (Kd.C_below HR0_2.out (bw1_ HB.out GE354.out)) | (with_reducible refine Kd.C_alloc ?_ _) | (with_reducible refine Kd.C_drewN ?_ _) | (with_reducible refine Kd.C_drew ?_))); (case side4 => exact HC0_2.out); (case side5 => repeat (first | exact (Kd.C_below HR0_3.out (bw1_ HB.out GE354.out)) | (with_reducible refine Kd.C_alloc ?_ _) | (with_reducible refine Kd.C_drewN ?_ _) | (with_reducible refine Kd.C_drew ?_))); (case side6 => exact HC0_3.out); rintro e w21 ⟨rfl, hb⟩; replace BK354 := sd_ (bb_ BK354.out hb); replace HB := sd_ (below_step (bw1_ HB.out GE354.out) hb); (try clear hb); (try clear hb2); (try clear hk); (try clear hi)))
         have H := HP19.out
         clear HP19
         by_cases c22 : t360 = true
         ·subst c22
          have H1 : (impl_isTypeOf.l0 k1 l1 (l1.length : Int) (wrap64 (x14_1 + 1)) a0_0 l0_1 l0_2 l0_3) = some r := by rw [if_pos rfl] at H; exact H
          clear H
          have H := H1
          clear H1
          have H' := sd_ H
          clear H
          go_wp2
          go_roundg k1
          case measure => have := HK1.out; omega
          case rel => exact ⟨(wrap64 (x14_1 + 1)), (by first | rfl | (simp; done) | (simp [*]; done)), H', ⟨by have := HK1.out; omega⟩, ⟨by (with_reducible repeat (first | refine blk_drewN ?_ _ | refine blk_drew ?_ | refine blk_alloc ?_ _)); exact BK354.out⟩, ⟨bw1_ HB.out GE354.out⟩⟩
         ·replace c22 := Bool.eq_false_iff.mpr c22
          subst c22
          have H1 : (some false) = some r := by rw [if_neg (show ¬ (false = true) by decide)] at H; exact H
          clear H
          have H := H1
          clear H1
          obtain rfl := Option.some.inj H
          go_wp2
          go_ret
          exact ⟨an_, bw1_ HB.out GE354.out⟩
        ·rw [if_neg c17] at H
         have c17b0 : (t357 == 4) = false := beq_eq_false_iff_ne.mpr c17
         have c17b1 : (t357 != 4) = true := bne_iff_ne.mpr c17
         have H' := sd_ H
         clear H
         have p356 : 0 ≤ (x14_1 : Int) := of_decide_eq_true (by first | (with_reducible assumption) | assumption)
         have q356 : x14_1 < (l1.length : Int) := of_decide_eq_true (by first | (with_reducible assumption) | assumption)
         obtain ⟨ad356, e356, hx356_0⟩ := Kd.at_int HR1.out x14_1 p356 q356
         cases e356
         replace hx356_0 := (HB.out.cell (World.block_lt_of_cell? w _ hx356_0)).trans hx356_0
         replace p356 := eq_true p356
         replace q356 := eq_true q356
         go_wp2_with (first | ((with_reducible refine gate_callee (f := 56) rfl ?_); refine goesL_ (some 20) rfl rfl Try.func56 (by kernel_rfl) rfl #[.int .i64 (rd l1 x14_1)] rfl (by (try simp only [List.map_toArray, List.map_cons, List.map_nil]); first | done | rfl | (simp only [List.length_drop, List.length_take]; rfl)) ?_; (with_reducible refine (impl_shape.calls (rd l1 x14_1) t357 t358 _ A10.out).mono ?_); rintro e w' ⟨rfl, ⟨nd, rfl⟩⟩; refine ⟨_, rfl, ?_⟩))
         go_roundg k1
         case measure => have := HK1.out; omega
         case rel => exact ⟨(wrap64 (x14_1 + 1)), (by first | rfl | (simp; done) | (simp [*]; done)), H', ⟨by have := HK1.out; omega⟩, ⟨by (with_reducible repeat (first | refine blk_drewN ?_ _ | refine blk_drew ?_ | refine blk_alloc ?_ _)); exact BK354.out⟩, ⟨bw1_ HB.out GE354.out⟩⟩
      ·rw [if_neg c9] at H
       exact absurd H (by simp)
     ·rw [if_neg c8] at H
      exact absurd H (by simp)
    ·rw [if_neg c7] at H
     have c7b0 : decide (x14_1 < (l1.length : Int)) = false := decide_eq_false c7
     clear c7
     (first | rw [c7b0] | (simp only [i64_w, i32_w]; rw [c7b0]) | skip)
     obtain rfl := Option.some.inj H
     go_wp2
     go_ret
     exact ⟨an_, bw1_ HB.out GE354.out⟩
 ·replace c6 := Bool.eq_false_iff.mpr c6
  subst c6
  have H1 : (some false) = some r := by rw [if_neg (show ¬ (false = true) by decide)] at H; exact H
  clear H
  have H := H1
  clear H1
  obtain rfl := Option.some.inj H
  go_wp2
  go_ret
  exact ⟨an_, bw1_ HB.out GE354.out⟩


/-! ### impl_System_below: function 94 -/
def impl_System_below.f (a0_0 : Int) (l0_1 : List Int) (l0_2 : List Int) (l0_3 : List Bool) (a1 : Int) (a2 : Int) : Option (Bool) := if 0 ≤ (wrap64 ((wrap64 (a1 * a0_0)) + a2)) then (if (wrap64 ((wrap64 (a1 * a0_0)) + a2)) < (l0_3.length : Int) then (some (rdOf false l0_3 (wrap64 ((wrap64 (a1 * a0_0)) + a2)))) else (none)) else (none)
set_option maxHeartbeats 8000000 in
set_option maxRecDepth 100000 in
theorem impl_System_below.calls (a0_0 : Int) (A0_1 : Option Addr) (c0_1 : Nat) (l0_1 : List Int) (A0_2 : Option Addr) (c0_2 : Nat) (l0_2 : List Int) (A0_3 : Option Addr) (c0_3 : Nat) (l0_3 : List Bool) (a1 : Int) (a2 : Int) (r : Bool) (w : World) (hr0_1 : Kd.C (Kd.int .i64) w A0_1 l0_1.length l0_1) (hc0_1 : l0_1.length ≤ c0_1) (hr0_2 : Kd.C (Kd.int .i64) w A0_2 l0_2.length l0_2) (hc0_2 : l0_2.length ≤ c0_2) (hr0_3 : Kd.C Kd.bool w A0_3 l0_3.length l0_3) (hc0_3 : l0_3.length ≤ c0_3) (h : impl_System_below.f a0_0 l0_1 l0_2 l0_3 a1 a2 = some r) :
  Calls Try.prog 94 #[.agg #[.int .i64 a0_0, .slice A0_1 l0_1.length c0_1, .slice A0_2 l0_2.length c0_2, .slice A0_3 l0_3.length c0_3], .int .i64 a1, .int .i64 a2] w fun e w' => e = .returned (.bool r) ∧ Below w.heap.size w w' := by
 have hu37 := Try.underlying37
 have HR0_1 := sd_ hr0_1
 have HC0_1 := sd_ hc0_1
 clear hr0_1 hc0_1
 have HR0_2 := sd_ hr0_2
 have HC0_2 := sd_ hc0_2
 clear hr0_2 hc0_2
 have HR0_3 := sd_ hr0_3
 have HC0_3 := sd_ hc0_3
 clear hr0_3 hc0_3
 have HB := sd_ (Below.refl w.heap.size w)
 have H : (if 0 ≤ (wrap64 ((wrap64 (a1 * a0_0)) + a2)) then (if (wrap64 ((wrap64 (a1 * a0_0)) + a2)) < (l0_3.length : Int) then (some (rdOf false l0_3 (wrap64 ((wrap64 (a1 * a0_0)) + a2)))) else (none)) else (none)) = some r := h
 clear h
 obtain ⟨ji4, hji4⟩ : ∃ j_ : Int, (wrap64 ((wrap64 (a1 * a0_0)) + a2)) = j_ := ⟨_, rfl⟩
 replace H : (if 0 ≤ (ji4) then (if (ji4) < (l0_3.length : Int) then (some (rdOf false l0_3 (ji4))) else (none)) else (none)) = some r := by first | (rw [hji4] at H; exact H) | (simp only [hji4] at H ⊢; exact H)
 have hji4w : (IntKind.i64.wrap ((wrap64 (a1 * a0_0)) + a2)) = ji4 := (i64_w _).trans hji4
 by_cases c5 : 0 ≤ (ji4)
 ·rw [if_pos c5] at H
  have c5b0 : decide (0 ≤ (ji4)) = true := decide_eq_true c5
  clear c5
  by_cases c6 : (ji4) < (l0_3.length : Int)
  ·rw [if_pos c6] at H
   have c6b0 : decide ((ji4) < (l0_3.length : Int)) = true := decide_eq_true c6
   clear c6
   obtain rfl := Option.some.inj H
   go_enter Try.func94, Try.ntmps94
   go_wp2_with (first | ((with_reducible refine gate_dst (N := 3) rfl ?_); refine box_event ?hg (N := 3) ?hd (cs := #[.int .i64 a0_0, .slice A0_1 l0_1.length c0_1, .slice A0_2 l0_2.length c0_2, .slice A0_3 l0_3.length c0_3]) (t := 37) ?hr ?_; (case hd => rfl); (case hg => rfl); (case hr => first | (go_simp; done) | (go_simp; rfl)); intro gb365 hg w7 hbox hb; have BK365 := sd_ (hbox); have GW365 := sd_ ((by rw [hg]; exact (below_size (bw0_ HB.out)) : w.heap.size ≤ gb365)); have GE365 := sd_ ((by rw [hg]; exact (below_size (bw0_ HB.out)) : w.heap.size ≤ gb365)); replace HB := sd_ (below_step (bw0_ HB.out) hb); clear hb hbox hg; have hcz8_0 : w7.cell? ⟨gb365, 0, none⟩ = some (.int .i64 a0_0) := (blk_cell BK365.out 0).trans rfl; have hcz8_1 : w7.cell? ⟨gb365, 1, none⟩ = some (.slice A0_1 l0_1.length c0_1) := (blk_cell BK365.out 1).trans rfl; have hcz8_2 : w7.cell? ⟨gb365, 2, none⟩ = some (.slice A0_2 l0_2.length c0_2) := (blk_cell BK365.out 2).trans rfl; have hcz8_3 : w7.cell? ⟨gb365, 3, none⟩ = some (.slice A0_3 l0_3.length c0_3) := (blk_cell BK365.out 3).trans rfl; have hfz8_0 := blk_frozen BK365.out 0; have hfz8_1 := blk_frozen BK365.out 1; have hfz8_2 := blk_frozen BK365.out 2; have hfz8_3 := blk_frozen BK365.out 3; have p366 : 0 ≤ ((ji4) : Int) := of_decide_eq_true (by first | (with_reducible assumption) | assumption); have q366 : (ji4) < (l0_3.length : Int) := of_decide_eq_true (by first | (with_reducible assumption) | assumption); obtain ⟨ad366, e366, hx366_0⟩ := Kd.at_bool HR0_3.out (ji4) p366 q366; cases e366; replace hx366_0 := (HB.out.cell (World.block_lt_of_cell? w _ hx366_0)).trans hx366_0; replace p366 := eq_true p366; replace q366 := eq_true q366))
   go_ret
   exact ⟨by first | rfl | (simp [errW_none, errW_some] <;> rfl) | (simp only [← hji4]; first | rfl | (simp [errW_none, errW_some] <;> rfl)) | (simp [*, errW_none, errW_some] <;> rfl), bw1_ HB.out GE365.out⟩
  ·rw [if_neg c6] at H
   exact absurd H (by simp)
 ·rw [if_neg c5] at H
  exact absurd H (by simp)


/-! ### impl_System_join: function 95 -/
mutual
def impl_System_join.l0 : Nat → Int → Int → Int → Int → List Int → List Int → List Bool → Option (Int)
 | 0, _, _, _, _, _, _, _ => none
 | k + 1, x1, x2, x7, x368000, x368001, x368002, x368003 => if x7 < x368000 then ((impl_System_below.f x368000 x368001 x368002 x368003 x1 x7).bind fun t368 => (if t368 = true then ((impl_System_below.f x368000 x368001 x368002 x368003 x2 x7).bind fun t369 => (impl_System_join.j1 k x1 x2 x7 (!t369) x368000 x368001 x368002 x368003)) else (impl_System_join.j1 k x1 x2 x7 true x368000 x368001 x368002 x368003))) else (some (-1))
def impl_System_join.j1 : Nat → Int → Int → Int → Bool → Int → List Int → List Int → List Bool → Option (Int)
 | 0, _, _, _, _, _, _, _, _ => none
 | k + 1, x1, x2, x7, x27, x368000, x368001, x368002, x368003 => if x27 = true then (impl_System_join.l0 k x1 x2 (wrap64 (x7 + 1)) x368000 x368001 x368002 x368003) else (impl_System_join.l1 k x1 x2 x7 true 0 x368000 x368001 x368002 x368003)
def impl_System_join.l1 : Nat → Int → Int → Int → Bool → Int → Int → List Int → List Int → List Bool → Option (Int)
 | 0, _, _, _, _, _, _, _, _, _ => none
 | k + 1, x1, x2, x7, x8, x9, x368000, x368001, x368002, x368003 => if x9 < x368000 then (if x8 = true then ((impl_System_below.f x368000 x368001 x368002 x368003 x1 x9).bind fun t370 => (if t370 = true then ((impl_System_below.f x368000 x368001 x368002 x368003 x2 x9).bind fun t371 => (if t371 = true then ((impl_System_below.f x368000 x368001 x368002 x368003 x7 x9).bind fun t372 => (impl_System_join.l1 k x1 x2 x7 t372 (wrap64 (x9 + 1)) x368000 x368001 x368002 x368003)) else (impl_System_join.l1 k x1 x2 x7 true (wrap64 (x9 + 1)) x368000 x368001 x368002 x368003))) else (impl_System_join.l1 k x1 x2 x7 true (wrap64 (x9 + 1)) x368000 x368001 x368002 x368003))) else (impl_System_join.l1 k x1 x2 x7 false (wrap64 (x9 + 1)) x368000 x368001 x368002 x368003)) else (if x8 = true then (some x7) else (impl_System_join.l0 k x1 x2 (wrap64 (x7 + 1)) x368000 x368001 x368002 x368003))
end
def impl_System_join.f (k : Nat) (a0_0 : Int) (l0_1 : List Int) (l0_2 : List Int) (l0_3 : List Bool) (a1 : Int) (a2 : Int) : Option (Int) := impl_System_join.l0 k a1 a2 0 a0_0 l0_1 l0_2 l0_3
set_option maxHeartbeats 8000000 in
set_option maxRecDepth 100000 in
theorem impl_System_join.calls (k : Nat) (a0_0 : Int) (A0_1 : Option Addr) (c0_1 : Nat) (l0_1 : List Int) (A0_2 : Option Addr) (c0_2 : Nat) (l0_2 : List Int) (A0_3 : Option Addr) (c0_3 : Nat) (l0_3 : List Bool) (a1 : Int) (a2 : Int) (r : Int) (w : World) (hr0_1 : Kd.C (Kd.int .i64) w A0_1 l0_1.length l0_1) (hc0_1 : l0_1.length ≤ c0_1) (hr0_2 : Kd.C (Kd.int .i64) w A0_2 l0_2.length l0_2) (hc0_2 : l0_2.length ≤ c0_2) (hr0_3 : Kd.C Kd.bool w A0_3 l0_3.length l0_3) (hc0_3 : l0_3.length ≤ c0_3) (h : impl_System_join.f k a0_0 l0_1 l0_2 l0_3 a1 a2 = some r) :
  Calls Try.prog 95 #[.agg #[.int .i64 a0_0, .slice A0_1 l0_1.length c0_1, .slice A0_2 l0_2.length c0_2, .slice A0_3 l0_3.length c0_3], .int .i64 a1, .int .i64 a2] w fun e w' => e = .returned (.int .i64 r) ∧ Below w.heap.size w w' := by
 have hu37 := Try.underlying37
 have HR0_1 := sd_ hr0_1
 have HC0_1 := sd_ hc0_1
 clear hr0_1 hc0_1
 have HR0_2 := sd_ hr0_2
 have HC0_2 := sd_ hc0_2
 clear hr0_2 hc0_2
 have HR0_3 := sd_ hr0_3
 have HC0_3 := sd_ hc0_3
 clear hr0_3 hc0_3
 have HB := sd_ (Below.refl w.heap.size w)
 have H : (impl_System_join.l0 k a1 a2 0 a0_0 l0_1 l0_2 l0_3) = some r := h
 clear h
 have H' := sd_ H
 clear H
 go_enter Try.func95, Try.ntmps95
 go_wp2_with (first | ((with_reducible refine gate_dst (N := 3) rfl ?_); refine box_event ?hg (N := 3) ?hd (cs := #[.int .i64 a0_0, .slice A0_1 l0_1.length c0_1, .slice A0_2 l0_2.length c0_2, .slice A0_3 l0_3.length c0_3]) (t := 37) ?hr ?_; (case hd => rfl); (case hg => rfl); (case hr => first | (go_simp; done) | (go_simp; rfl)); intro gb367 hg w4 hbox hb; have BK367 := sd_ (hbox); have GW367 := sd_ ((by rw [hg]; exact (below_size (bw0_ HB.out)) : w.heap.size ≤ gb367)); have GE367 := sd_ ((by rw [hg]; exact (below_size (bw0_ HB.out)) : w.heap.size ≤ gb367)); replace HB := sd_ (below_step (bw0_ HB.out) hb); clear hb hbox hg))
 go_loopg [7] k (fun kq v7 w' => ∃ (x7_1 : Int), v7 = .int .i64 x7_1 ∧ Aside0 (impl_System_join.l0 kq a1 a2 x7_1 a0_0 l0_1 l0_2 l0_3 = some r) ∧ Aside0 (kq ≤ k) ∧ Aside0 (w'.heap[gb367]? = some (.cells #[.int .i64 a0_0, (.slice A0_1 l0_1.length c0_1), (.slice A0_2 l0_2.length c0_2), (.slice A0_3 l0_3.length c0_3)] 37 (0, 0))) ∧ Aside0 (Below w.heap.size w w'))
 case atStart => exact ⟨(0), (by first | rfl | (simp; done) | (simp [*]; done)), H', ⟨Nat.le_refl _⟩, ⟨by (with_reducible repeat (first | refine blk_drewN ?_ _ | refine blk_drew ?_ | refine blk_alloc ?_ _)); exact BK367.out⟩, ⟨bw1_ HB.out GE367.out⟩⟩
 case round =>
  clear H'
  try clear p2
  obtain ⟨x7_1, rfl, HA, HK1, BK367, HB⟩ := hrel
  cases gk with
  | zero => exact absurd HA.out (by simp [impl_System_join.l0])
  | succ k1 =>
   have H := HA.out
   clear HA
   simp only [impl_System_join.l0] at H
   by_cases c5 : x7_1 < a0_0
   ·rw [if_pos c5] at H
    have c5b0 : decide (x7_1 < a0_0) = true := decide_eq_true c5
    clear c5
    have HC6 := sd_ H
    clear H
    have hcz7_0 : wr.cell? ⟨gb367, 0, none⟩ = some (.int .i64 a0_0) := (blk_cell BK367.out 0).trans rfl
    have hcz7_1 : wr.cell? ⟨gb367, 1, none⟩ = some (.slice A0_1 l0_1.length c0_1) := (blk_cell BK367.out 1).trans rfl
    have hcz7_2 : wr.cell? ⟨gb367, 2, none⟩ = some (.slice A0_2 l0_2.length c0_2) := (blk_cell BK367.out 2).trans rfl
    have hcz7_3 : wr.cell? ⟨gb367, 3, none⟩ = some (.slice A0_3 l0_3.length c0_3) := (blk_cell BK367.out 3).trans rfl
    have hfz7_0 := blk_frozen BK367.out 0
    have hfz7_1 := blk_frozen BK367.out 1
    have hfz7_2 := blk_frozen BK367.out 2
    have hfz7_3 := blk_frozen BK367.out 3
    go_upto_region 4 with (fail)
    go_cut [27] (fun v27 wc => ∃ (kq : Nat) (x27_5 : Bool), v27 = .bool x27_5 ∧ Aside0 (impl_System_join.j1 kq a1 a2 x7_1 x27_5 a0_0 l0_1 l0_2 l0_3 = some r) ∧ Aside0 (kq ≤ k1) ∧ Aside0 (wc.heap[gb367]? = some (.cells #[.int .i64 a0_0, (.slice A0_1 l0_1.length c0_1), (.slice A0_2 l0_2.length c0_2), (.slice A0_3 l0_3.length c0_3)] 37 (0, 0))) ∧ Aside0 (Below w.heap.size w wc))
    case first =>
     have H := HC6.out
     clear HC6
     replace H := Option.bind_eq_some_iff.mp H
     obtain ⟨t368, A80, H⟩ := H
     try dsimp only at H
     have A8 := sd_ A80
     clear A80
     by_cases c9 : t368 = true
     ·subst c9
      have H1 : ((impl_System_below.f a0_0 l0_1 l0_2 l0_3 a2 x7_1).bind fun t369 => (impl_System_join.j1 k1 a1 a2 x7_1 (!t369) a0_0 l0_1 l0_2 l0_3)) = some r := by rw [if_pos rfl] at H; exact H
      clear H
      have H := H1
      clear H1
      replace H := Option.bind_eq_some_iff.mp H
      obtain ⟨t369, A100, H⟩ := H
      try dsimp only at H
      have A10 := sd_ A100
      clear A100
      have H' := sd_ H
      clear H
      have hcz11_0 : wr.cell? ⟨gb367, 0, none⟩ = some (.int .i64 a0_0) := (blk_cell BK367.out 0).trans rfl
      have hcz11_1 : wr.cell? ⟨gb367, 1, none⟩ = some (.slice A0_1 l0_1.length c0_1) := (blk_cell BK367.out 1).trans rfl
      have hcz11_2 : wr.cell? ⟨gb367, 2, none⟩ = some (.slice A0_2 l0_2.length c0_2) := (blk_cell BK367.out 2).trans rfl
      have hcz11_3 : wr.cell? ⟨gb367, 3, none⟩ = some (.slice A0_3 l0_3.length c0_3) := (blk_cell BK367.out 3).trans rfl
      have hfz11_0 := blk_frozen BK367.out 0
      have hfz11_1 := blk_frozen BK367.out 1
      have hfz11_2 := blk_frozen BK367.out 2
      have hfz11_3 := blk_frozen BK367.out 3
      go_wp2_with (first | ((with_reducible refine gate_callee (f := 94) rfl ?_); refine goesL_ (some 19) rfl rfl Try.func94 (by kernel_rfl) rfl #[.agg #[.int .i64 a0_0, .slice A0_1 l0_1.length c0_1, .slice A0_2 l0_2.length c0_2, .slice A0_3 l0_3.length c0_3], .int .i64 a1, .int .i64 x7_1] rfl (by (try simp only [List.map_toArray, List.map_cons, List.map_nil]); first | done | rfl | (simp only [List.length_drop, List.length_take]; rfl)) ?_; (with_reducible refine (impl_System_below.calls a0_0 _ _ l0_1 _ _ l0_2 _ _ l0_3 a1 x7_1 true _ ?side1 ?side2 ?side3 ?side4 ?side5 ?side6 A8.out).mono ?_); (case side1 => exact kc_ HR0_1.out HB.out); (case side2 => exact HC0_1.out); (case side3 => exact kc_ HR0_2.out HB.out); (case side4 => exact HC0_2.out); (case side5 => exact kc_ HR0_3.out HB.out); (case side6 => exact HC0_3.out); rintro e w12 ⟨rfl, hb⟩; refine ⟨_, rfl, ?_⟩; replace BK367 := sd_ (bb_ BK367.out hb); replace HB := sd_ (below_step (bw1_ HB.out GE367.out) hb); (try clear hb); (try clear hb2); (try clear hk); (try clear hi); have hcz13_0 : w12.cell? ⟨gb367, 0, none⟩ = some (.int .i64 a0_0) := (blk_cell BK367.out 0).trans rfl; have hcz13_1 : w12.cell? ⟨gb367, 1, none⟩ = some (.slice A0_1 l0_1.length c0_1) := (blk_cell BK367.out 1).trans rfl; have hcz13_2 : w12.cell? ⟨gb367, 2, none⟩ = some (.slice A0_2 l0_2.length c0_2) := (blk_cell BK367.out 2).trans rfl; have hcz13_3 : w12.cell? ⟨gb367, 3, none⟩ = some (.slice A0_3 l0_3.length c0_3) := (blk_cell BK367.out 3).trans rfl; have hfz13_0 := blk_frozen BK367.out 0; have hfz13_1 := blk_frozen BK367.out 1; have hfz13_2 := blk_frozen BK367.out 2; have hfz13_3 := blk_frozen BK367.out 3) | (go_at_call 94; (with_reducible refine (impl_System_below.calls a0_0 _ _ l0_1 _ _ l0_2 _ _ l0_3 a2 x7_1 t369 _ ?side1 ?side2 ?side3 ?side4 ?side5 ?side6 A10.out).mono ?_); (case side1 => exact kc_ HR0_1.out HB.out); (case side2 => exact HC0_1.out); (case side3 => exact kc_ HR0_2.out HB.out); (case side4 => exact HC0_2.out); (case side5 => exact kc_ HR0_3.out HB.out); (case side6 => exact HC0_3.out); rintro e w14 ⟨rfl, hb⟩; replace BK367 := sd_ (bb_ BK367.out hb); replace HB := sd_ (below_step (bw1_ HB.out GE367.out) hb); (try clear hb); (try clear hb2); (try clear hk); (try clear hi)))
      go_meet
      case rel => exact ⟨_, (!t369), (by first | rfl | (simp; done) | (simp [*]; done)), H', ⟨by have := HK1.out; first | omega | exact Nat.le_refl _⟩, ⟨by (with_reducible repeat (first | refine blk_drewN ?_ _ | refine blk_drew ?_ | refine blk_alloc ?_ _)); exact BK367.out⟩, ⟨bw1_ HB.out GE367.out⟩⟩
     ·replace c9 := Bool.eq_false_iff.mpr c9
      subst c9
      have H1 : (impl_System_join.j1 k1 a1 a2 x7_1 true a0_0 l0_1 l0_2 l0_3) = some r := by rw [if_neg (show ¬ (false = true) by decide)] at H; exact H
      clear H
      have H := H1
      clear H1
      have H' := sd_ H
      clear H
      have hcz15_0 : wr.cell? ⟨gb367, 0, none⟩ = some (.int .i64 a0_0) := (blk_cell BK367.out 0).trans rfl
      have hcz15_1 : wr.cell? ⟨gb367, 1, none⟩ = some (.slice A0_1 l0_1.length c0_1) := (blk_cell BK367.out 1).trans rfl
      have hcz15_2 : wr.cell? ⟨gb367, 2, none⟩ = some (.slice A0_2 l0_2.length c0_2) := (blk_cell BK367.out 2).trans rfl
      have hcz15_3 : wr.cell? ⟨gb367, 3, none⟩ = some (.slice A0_3 l0_3.length c0_3) := (blk_cell BK367.out 3).trans rfl
      have hfz15_0 := blk_frozen BK367.out 0
      have hfz15_1 := blk_frozen BK367.out 1
      have hfz15_2 := blk_frozen BK367.out 2
      have hfz15_3 := blk_frozen BK367.out 3
      go_wp2_with (first | ((with_reducible refine gate_callee (f := 94) rfl ?_); refine goesL_ (some 19) rfl rfl Try.func94 (by kernel_rfl) rfl #[.agg #[.int .i64 a0_0, .slice A0_1 l0_1.length c0_1, .slice A0_2 l0_2.length c0_2, .slice A0_3 l0_3.length c0_3], .int .i64 a1, .int .i64 x7_1] rfl (by (try simp only [List.map_toArray, List.map_cons, List.map_nil]); first | done | rfl | (simp only [List.length_drop, List.length_take]; rfl)) ?_; (with_reducible refine (impl_System_below.calls a0_0 _ _ l0_1 _ _ l0_2 _ _ l0_3 a1 x7_1 false _ ?side1 ?side2 ?side3 ?side4 ?side5 ?side6 A8.out).mono ?_); (case side1 => exact kc_ HR0_1.out HB.out); (case side2 => exact HC0_1.out); (case side3 => exact kc_ HR0_2.out HB.out); (case side4 => exact HC0_2.out); (case side5 => exact kc_ HR0_3.out HB.out); (case side6 => exact HC0_3.out); rintro e w16 ⟨rfl, hb⟩; refine ⟨_, rfl, ?_⟩; replace BK367 := sd_ (bb_ BK367.out hb); replace HB := sd_ (below_step (bw1_ HB.out GE367.out) hb); (try clear hb); (try clear hb2); (try clear hk); (try clear hi)))
      go_meet
      case rel => exact ⟨_, (true), (by first | rfl | (simp; done) | (simp [*]; done)), H', ⟨by have := HK1.out; first | omega | exact Nat.le_refl _⟩, ⟨by (with_reducible repeat (first | refine blk_drewN ?_ _ | refine blk_drew ?_ | refine blk_alloc ?_ _)); exact BK367.out⟩, ⟨bw1_ HB.out GE367.out⟩⟩
    case rest =>
     clear HC6
     try clear p2
     try clear c5
     try clear c5b0
     try clear c9
     try clear hcz7_0
     try clear hcz7_1
     try clear hcz7_2
     try clear hcz7_3
     try clear hfz7_0
     try clear hfz7_1
     try clear hfz7_2
     try clear hfz7_3
     try clear p2
     obtain ⟨kq, x27_5, rfl, HA, HJ5, BK367, HB⟩ := hcut
     cases kq with
     | zero => exact absurd HA.out (by simp [impl_System_join.j1])
     | succ kj5 =>
      have H := HA.out
      clear HA
      simp only [impl_System_join.j1] at H
      by_cases c17 : x27_5 = true
      ·subst c17
       have H1 : (impl_System_join.l0 kj5 a1 a2 (wrap64 (x7_1 + 1)) a0_0 l0_1 l0_2 l0_3) = some r := by rw [if_pos rfl] at H; exact H
       clear H
       have H := H1
       clear H1
       have H' := sd_ H
       clear H
       go_wp2
       go_roundg kj5
       case measure => have := HK1.out; have := HJ5.out; omega
       case rel => exact ⟨(wrap64 (x7_1 + 1)), (by first | rfl | (simp; done) | (simp [*]; done)), H', ⟨by have := HK1.out; have := HJ5.out; omega⟩, ⟨by (with_reducible repeat (first | refine blk_drewN ?_ _ | refine blk_drew ?_ | refine blk_alloc ?_ _)); exact BK367.out⟩, ⟨bw1_ HB.out GE367.out⟩⟩
      ·replace c17 := Bool.eq_false_iff.mpr c17
       subst c17
       have H1 : (impl_System_join.l1 kj5 a1 a2 x7_1 true 0 a0_0 l0_1 l0_2 l0_3) = some r := by rw [if_neg (show ¬ (false = true) by decide)] at H; exact H
       clear H
       have H := H1
       clear H1
       have H' := sd_ H
       clear H
       go_wp2
       go_loopg [8, 9] kj5 (fun kq v8 v9 w' => ∃ (x8_3 : Bool) (x9_3 : Int), v8 = .bool x8_3 ∧ v9 = .int .i64 x9_3 ∧ Aside0 (impl_System_join.l1 kq a1 a2 x7_1 x8_3 x9_3 a0_0 l0_1 l0_2 l0_3 = some r) ∧ Aside0 (kq ≤ kj5) ∧ Aside0 (w'.heap[gb367]? = some (.cells #[.int .i64 a0_0, (.slice A0_1 l0_1.length c0_1), (.slice A0_2 l0_2.length c0_2), (.slice A0_3 l0_3.length c0_3)] 37 (0, 0))) ∧ Aside0 (Below w.heap.size w w'))
       case atStart => exact ⟨(true), (0), (by first | rfl | (simp; done) | (simp [*]; done)), (by first | rfl | (simp; done) | (simp [*]; done)), H', ⟨Nat.le_refl _⟩, ⟨by (with_reducible repeat (first | refine blk_drewN ?_ _ | refine blk_drew ?_ | refine blk_alloc ?_ _)); exact BK367.out⟩, ⟨bw1_ HB.out GE367.out⟩⟩
       case round =>
        clear H'
        try clear c1
        try clear p2
        try clear c5
        try clear c5b0
        try clear c9
        try clear c17
        try clear hcz7_0
        try clear hcz7_1
        try clear hcz7_2
        try clear hcz7_3
        try clear hfz7_0
        try clear hfz7_1
        try clear hfz7_2
        try clear hfz7_3
        try clear p2
        obtain ⟨x8_3, x9_3, rfl, rfl, HA, HK3, BK367, HB⟩ := hrel
        cases gk with
        | zero => exact absurd HA.out (by simp [impl_System_join.l1])
        | succ k3 =>
         have H := HA.out
         clear HA
         simp only [impl_System_join.l1] at H
         by_cases c18 : x9_3 < a0_0
         ·rw [if_pos c18] at H
          have c18b0 : decide (x9_3 < a0_0) = true := decide_eq_true c18
          clear c18
          by_cases c19 : x8_3 = true
          ·subst c19
           have H1 : ((impl_System_below.f a0_0 l0_1 l0_2 l0_3 a1 x9_3).bind fun t370 => (if t370 = true then ((impl_System_below.f a0_0 l0_1 l0_2 l0_3 a2 x9_3).bind fun t371 => (if t371 = true then ((impl_System_below.f a0_0 l0_1 l0_2 l0_3 x7_1 x9_3).bind fun t372 => (impl_System_join.l1 k3 a1 a2 x7_1 t372 (wrap64 (x9_3 + 1)) a0_0 l0_1 l0_2 l0_3)) else (impl_System_join.l1 k3 a1 a2 x7_1 true (wrap64 (x9_3 + 1)) a0_0 l0_1 l0_2 l0_3))) else (impl_System_join.l1 k3 a1 a2 x7_1 true (wrap64 (x9_3 + 1)) a0_0 l0_1 l0_2 l0_3))) = some r := by rw [if_pos rfl] at H; exact H
           clear H
           have H := H1
           clear H1
           replace H := Option.bind_eq_some_iff.mp H
           obtain ⟨t370, A200, H⟩ := H
           try dsimp only at H
           have A20 := sd_ A200
           clear A200
           by_cases c21 : t370 = true
           ·subst c21
            have H1 : ((impl_System_below.f a0_0 l0_1 l0_2 l0_3 a2 x9_3).bind fun t371 => (if t371 = true then ((impl_System_below.f a0_0 l0_1 l0_2 l0_3 x7_1 x9_3).bind fun t372 => (impl_System_join.l1 k3 a1 a2 x7_1 t372 (wrap64 (x9_3 + 1)) a0_0 l0_1 l0_2 l0_3)) else (impl_System_join.l1 k3 a1 a2 x7_1 true (wrap64 (x9_3 + 1)) a0_0 l0_1 l0_2 l0_3))) = some r := by rw [if_pos rfl] at H; exact H
            clear H
            have H := H1
            clear H1
            replace H := Option.bind_eq_some_iff.mp H
            obtain ⟨t371, A220, H⟩ := H
            try dsimp only at H
            have A22 := sd_ A220
            clear A220
            by_cases c23 : t371 = true
            ·subst c23
             have H1 : ((impl_System_below.f a0_0 l0_1 l0_2 l0_3 x7_1 x9_3).bind fun t372 => (impl_System_join.l1 k3 a1 a2 x7_1 t372 (wrap64 (x9_3 + 1)) a0_0 l0_1 l0_2 l0_3)) = some r := by rw [if_pos rfl] at H; exact H
             clear H
             have H := H1
             clear H1
             replace H := Option.bind_eq_some_iff.mp H
             obtain ⟨t372, A240, H⟩ := H
             try dsimp only at H
             have A24 := sd_ A240
             clear A240
             have H' := sd_ H
             clear H
             have hcz25_0 : wr.cell? ⟨gb367, 0, none⟩ = some (.int .i64 a0_0) := (blk_cell BK367.out 0).trans rfl
             have hcz25_1 : wr.cell? ⟨gb367, 1, none⟩ = some (.slice A0_1 l0_1.length c0_1) := (blk_cell BK367.out 1).trans rfl
             have hcz25_2 : wr.cell? ⟨gb367, 2, none⟩ = some (.slice A0_2 l0_2.length c0_2) := (blk_cell BK367.out 2).trans rfl
             have hcz25_3 : wr.cell? ⟨gb367, 3, none⟩ = some (.slice A0_3 l0_3.length c0_3) := (blk_cell BK367.out 3).trans rfl
             have hfz25_0 := blk_frozen BK367.out 0
             have hfz25_1 := blk_frozen BK367.out 1
             have hfz25_2 := blk_frozen BK367.out 2
             have hfz25_3 := blk_frozen BK367.out 3
             go_wp2_with (first | (go_at_call 94; (with_reducible refine (impl_System_below.calls a0_0 _ _ l0_1 _ _ l0_2 _ _ l0_3 a1 x9_3 true _ ?side1 ?side2 ?side3 ?side4 ?side5 ?side6 A20.out).mono ?_); (case side1 => exact kc_ HR0_1.out HB.out); (case side2 => exact HC0_1.out); (case side3 => exact kc_ HR0_2.out HB.out); (case side4 => exact HC0_2.out); (case side5 => exact kc_ HR0_3.out HB.out); (case side6 => exact HC0_3.out); rintro e w26 ⟨rfl, hb⟩; replace BK367 := sd_ (bb_ BK367.out hb); replace HB := sd_ (below_step (bw1_ HB.out GE367.out) hb); (try clear hb); (try clear hb2); (try clear hk); (try clear hi); have hcz27_0 : w26.cell? ⟨gb367, 0, none⟩ = some (.int .i64 a0_0) := (blk_cell BK367.out 0).trans rfl; have hcz27_1 : w26.cell? ⟨gb367, 1, none⟩ = some (.slice A0_1 l0_1.length c0_1) := (blk_cell BK367.out 1).trans rfl; have hcz27_2 : w26.cell? ⟨gb367, 2, none⟩ = some (.slice A0_2 l0_2.length c0_2) := (blk_cell BK367.out 2).trans rfl; have hcz27_3 : w26.cell? ⟨gb367, 3, none⟩ = some (.slice A0_3 l0_3.length c0_3) := (blk_cell BK367.out 3).trans rfl; have hfz27_0 := blk_frozen BK367.out 0; have hfz27_1 := blk_frozen BK367.out 1; have hfz27_2 := blk_frozen BK367.out 2; have hfz27_3 := blk_frozen BK367.out 3) | (go_at_call 94; (with_reducible refine (impl_System_below.calls a0_0 _ _ l0_1 _ _ l0_2 _ _ l0_3 a2 x9_3 true _ ?side1 ?side2 ?side3 ?side4 ?side5 ?side6 A22.out).mono ?_); (case side1 => exact kc_ HR0_1.out HB.out); (case side2 => exact HC0_1.out); (case side3 => exact kc_ HR0_2.out HB.out); (case side4 => exact HC0_2.out); (case side5 => exact kc_ HR0_3.out HB.out); (case side6 => exact HC0_3.out); rintro e w28 ⟨rfl, hb⟩; replace BK367 := sd_ (bb_ BK367.out hb); replace HB := sd_ (below_step (bw1_ HB.out GE367.out) hb); (try clear hb); (try clear hb2); (try clear hk); (try clear hi); have hcz29_0 : w28.cell? ⟨gb367, 0, none⟩ = some (.int .i64 a0_0) := (blk_cell BK367.out 0).trans rfl; have hcz29_1 : w28.cell? ⟨gb367, 1, none⟩ = some (.slice A0_1 l0_1.length c0_1) := (blk_cell BK367.out 1).trans rfl; have hcz29_2 : w28.cell? ⟨gb367, 2, none⟩ = some (.slice A0_2 l0_2.length c0_2) := (blk_cell BK367.out 2).trans rfl; have hcz29_3 : w28.cell? ⟨gb367, 3, none⟩ = some (.slice A0_3 l0_3.length c0_3) := (blk_cell BK367.out 3).trans rfl; have hfz29_0 := blk_frozen BK367.out 0; have hfz29_1 := blk_frozen BK367.out 1; have hfz29_2 := blk_frozen BK367.out 2; have hfz29_3 := blk_frozen BK367.out 3) | (go_at_call 94; (with_reducible refine (impl_System_below.calls a0_0 _ _ l0_1 _ _ l0_2 _ _ l0_3 x7_1 x9_3 t372 _ ?side1 ?side2 ?side3 ?side4 ?side5 ?side6 A24.out).mono ?_); (case side1 => exact kc_ HR0_1.out HB.out); (case side2 => exact HC0_1.out); (case side3 => exact kc_ HR0_2.out HB.out); (case side4 => exact HC0_2.out); (case side5 => exact kc_ HR0_3.out HB.out); (case side6 => exact HC0_3.out); rintro e w30 ⟨rfl, hb⟩; replace BK367 := sd_ (bb_ BK367.out hb); replace HB := sd_ (below_step (bw1_ HB.out GE367.out) hb); (try clear hb); (try clear hb2); (try clear hk); (try clear hi)))
             go_roundg k3
             case measure => have := HK1.out; have := HJ5.out; have := HK3.out; omega
             case rel => exact ⟨(t372), (wrap64 (x9_3 + 1)), (by first | rfl | (simp; done) | (simp [*]; done)), (by first | rfl | (simp; done) | (simp [*]; done)), H', ⟨by have := HK1.out; have := HJ5.out; have := HK3.out; omega⟩, ⟨by (with_reducible repeat (first | refine blk_drewN ?_ _ | refine blk_drew ?_ | refine blk_alloc ?_ _)); exact BK367.out⟩, ⟨bw1_ HB.out GE367.out⟩⟩
            ·replace c23 := Bool.eq_false_iff.mpr c23
             subst c23
             have H1 : (impl_System_join.l1 k3 a1 a2 x7_1 true (wrap64 (x9_3 + 1)) a0_0 l0_1 l0_2 l0_3) = some r := by rw [if_neg (show ¬ (false = true) by decide)] at H; exact H
             clear H
             have H := H1
             clear H1
             have H' := sd_ H
             clear H
             have hcz31_0 : wr.cell? ⟨gb367, 0, none⟩ = some (.int .i64 a0_0) := (blk_cell BK367.out 0).trans rfl
             have hcz31_1 : wr.cell? ⟨gb367, 1, none⟩ = some (.slice A0_1 l0_1.length c0_1) := (blk_cell BK367.out 1).trans rfl
             have hcz31_2 : wr.cell? ⟨gb367, 2, none⟩ = some (.slice A0_2 l0_2.length c0_2) := (blk_cell BK367.out 2).trans rfl
             have hcz31_3 : wr.cell? ⟨gb367, 3, none⟩ = some (.slice A0_3 l0_3.length c0_3) := (blk_cell BK367.out 3).trans rfl
             have hfz31_0 := blk_frozen BK367.out 0
             have hfz31_1 := blk_frozen BK367.out 1
             have hfz31_2 := blk_frozen BK367.out 2
             have hfz31_3 := blk_frozen BK367.out 3
             go_wp2_with (first | (go_at_call 94; (with_reducible refine (impl_System_below.calls a0_0 _ _ l0_1 _ _ l0_2 _ _ l0_3 a1 x9_3 true _ ?side1 ?side2 ?side3 ?side4 ?side5 ?side6 A20.out).mono ?_); (case side1 => exact kc_ HR0_1.out HB.out); (case side2 => exact HC0_1.out); (case side3 => exact kc_ HR0_2.out HB.out); (case side4 => exact HC0_2.out); (case side5 => exact kc_ HR0_3.out HB.out); (case side6 => exact HC0_3.out); rintro e w32 ⟨rfl, hb⟩; replace BK367 := sd_ (bb_ BK367.out hb); replace HB := sd_ (below_step (bw1_ HB.out GE367.out) hb); (try clear hb); (try clear hb2); (try clear hk); (try clear hi); have hcz33_0 : w32.cell? ⟨gb367, 0, none⟩ = some (.int .i64 a0_0) := (blk_cell BK367.out 0).trans rfl; have hcz33_1 : w32.cell? ⟨gb367, 1, none⟩ = some (.slice A0_1 l0_1.length c0_1) := (blk_cell BK367.out 1).trans rfl; have hcz33_2 : w32.cell? ⟨gb367, 2, none⟩ = some (.slice A0_2 l0_2.length c0_2) := (blk_cell BK367.out 2).trans rfl; have hcz33_3 : w32.cell? ⟨gb367, 3, none⟩ = some (.slice A0_3 l0_3.length c0_3) := (blk_cell BK367.out 3).trans rfl; have hfz33_0 := blk_frozen BK367.out 0; have hfz33_1 := blk_frozen BK367.out 1; have hfz33_2 := blk_frozen BK367.out 2; have hfz33_3 := blk_frozen BK367.out 3) | (go_at_call 94; (with_reducible refine (impl_System_below.calls a0_0 _ _ l0_1 _ _ l0_2 _ _ l0_3 a2 x9_3 false _ ?side1 ?side2 ?side3 ?side4 ?side5 ?side6 A22.out).mono ?_); (case side1 => exact kc_ HR0_1.out HB.out); (case side2 => exact HC0_1.out); (case side3 => exact kc_ HR0_2.out HB.out); (case side4 => exact HC0_2.out); (case side5 => exact kc_ HR0_3.out HB.out); (case side6 => exact HC0_3.out); rintro e w34 ⟨rfl, hb⟩; replace BK367 := sd_ (bb_ BK367.out hb); replace HB := sd_ (below_step (bw1_ HB.out GE367.out) hb); (try clear hb); (try clear hb2); (try clear hk); (try clear hi)))
             go_roundg k3
             case measure => have := HK1.out; have := HJ5.out; have := HK3.out; omega
             case rel => exact ⟨(true), (wrap64 (x9_3 + 1)), (by first | rfl | (simp; done) | (simp [*]; done)), (by first | rfl | (simp; done) | (simp [*]; done)), H', ⟨by have := HK1.out; have := HJ5.out; have := HK3.out; omega⟩, ⟨by (with_reducible repeat (first | refine blk_drewN ?_ _ | refine blk_drew ?_ | refine blk_alloc ?_ _)); exact BK367.out⟩, ⟨bw1_ HB.out GE367.out⟩⟩
           ·replace c21 := Bool.eq_false_iff.mpr c21
            subst c21
            have H1 : (impl_System_join.l1 k3 a1 a2 x7_1 true (wrap64 (x9_3 + 1)) a0_0 l0_1 l0_2 l0_3) = some r := by rw [if_neg (show ¬ (false = true) by decide)] at H; exact H
            clear H
            have H := H1
            clear H1
            have H' := sd_ H
            clear H
            have hcz35_0 : wr.cell? ⟨gb367, 0, none⟩ = some (.int .i64 a0_0) := (blk_cell BK367.out 0).trans rfl
            have hcz35_1 : wr.cell? ⟨gb367, 1, none⟩ = some (.slice A0_1 l0_1.length c0_1) := (blk_cell BK367.out 1).trans rfl
            have hcz35_2 : wr.cell? ⟨gb367, 2, none⟩ = some (.slice A0_2 l0_2.length c0_2) := (blk_cell BK367.out 2).trans rfl
            have hcz35_3 : wr.cell? ⟨gb367, 3, none⟩ = some (.slice A0_3 l0_3.length c0_3) := (blk_cell BK367.out 3).trans rfl
            have hfz35_0 := blk_frozen BK367.out 0
            have hfz35_1 := blk_frozen BK367.out 1
            have hfz35_2 := blk_frozen BK367.out 2
            have hfz35_3 := blk_frozen BK367.out 3
            go_wp2_with (first | (go_at_call 94; (with_reducible refine (impl_System_below.calls a0_0 _ _ l0_1 _ _ l0_2 _ _ l0_3 a1 x9_3 false _ ?side1 ?side2 ?side3 ?side4 ?side5 ?side6 A20.out).mono ?_); (case side1 => exact kc_ HR0_1.out HB.out); (case side2 => exact HC0_1.out); (case side3 => exact kc_ HR0_2.out HB.out); (case side4 => exact HC0_2.out); (case side5 => exact kc_ HR0_3.out HB.out); (case side6 => exact HC0_3.out); rintro e w36 ⟨rfl, hb⟩; replace BK367 := sd_ (bb_ BK367.out hb); replace HB := sd_ (below_step (bw1_ HB.out GE367.out) hb); (try clear hb); (try clear hb2); (try clear hk); (try clear hi)))
            go_roundg k3
            case measure => have := HK1.out; have := HJ5.out; have := HK3.out; omega
            case rel => exact ⟨(true), (wrap64 (x9_3 + 1)), (by first | rfl | (simp; done) | (simp [*]; done)), (by first | rfl | (simp; done) | (simp [*]; done)), H', ⟨by have := HK1.out; have := HJ5.out; have := HK3.out; omega⟩, ⟨by (with_reducible repeat (first | refine blk_drewN ?_ _ | refine blk_drew ?_ | refine blk_alloc ?_ _)); exact BK367.out⟩, ⟨bw1_ HB.out GE367.out⟩⟩
          ·replace c19 := Bool.eq_false_iff.mpr c19
           subst c19
           have H1 : (impl_System_join.l1 k3 a1 a2 x7_1 false (wrap64 (x9_3 + 1)) a0_0 l0_1 l0_2 l0_3) = some r := by rw [if_neg (show ¬ (false = true) by decide)] at H; exact H
           clear H
           have H := H1
           clear H1
           have H' := sd_ H
           clear H
           have hcz37_0 : wr.cell? ⟨gb367, 0, none⟩ = some (.int .i64 a0_0) := (blk_cell BK367.out 0).trans rfl
           have hcz37_1 : wr.cell? ⟨gb367, 1, none⟩ = some (.slice A0_1 l0_1.length c0_1) := (blk_cell BK367.out 1).trans rfl
           have hcz37_2 : wr.cell? ⟨gb367, 2, none⟩ = some (.slice A0_2 l0_2.length c0_2) := (blk_cell BK367.out 2).trans rfl
           have hcz37_3 : wr.cell? ⟨gb367, 3, none⟩ = some (.slice A0_3 l0_3.length c0_3) := (blk_cell BK367.out 3).trans rfl
           have hfz37_0 := blk_frozen BK367.out 0
           have hfz37_1 := blk_frozen BK367.out 1
           have hfz37_2 := blk_frozen BK367.out 2
           have hfz37_3 := blk_frozen BK367.out 3
           go_wp2
           go_roundg k3
           case measure => have := HK1.out; have := HJ5.out; have := HK3.out; omega
           case rel => exact ⟨(false), (wrap64 (x9_3 + 1)), (by first | rfl | (simp; done) | (simp [*]; done)), (by first | rfl | (simp; done) | (simp [*]; done)), H', ⟨by have := HK1.out; have := HJ5.out; have := HK3.out; omega⟩, ⟨by (with_reducible repeat (first | refine blk_drewN ?_ _ | refine blk_drew ?_ | refine blk_alloc ?_ _)); exact BK367.out⟩, ⟨bw1_ HB.out GE367.out⟩⟩
         ·rw [if_neg c18] at H
          have c18b0 : decide (x9_3 < a0_0) = false := decide_eq_false c18
          clear c18
          by_cases c38 : x8_3 = true
          ·subst c38
           have H1 : (some x7_1) = some r := by rw [if_pos rfl] at H; exact H
           clear H
           have H := H1
           clear H1
           obtain rfl := Option.some.inj H
           have hcz39_0 : wr.cell? ⟨gb367, 0, none⟩ = some (.int .i64 a0_0) := (blk_cell BK367.out 0).trans rfl
           have hcz39_1 : wr.cell? ⟨gb367, 1, none⟩ = some (.slice A0_1 l0_1.length c0_1) := (blk_cell BK367.out 1).trans rfl
           have hcz39_2 : wr.cell? ⟨gb367, 2, none⟩ = some (.slice A0_2 l0_2.length c0_2) := (blk_cell BK367.out 2).trans rfl
           have hcz39_3 : wr.cell? ⟨gb367, 3, none⟩ = some (.slice A0_3 l0_3.length c0_3) := (blk_cell BK367.out 3).trans rfl
           have hfz39_0 := blk_frozen BK367.out 0
           have hfz39_1 := blk_frozen BK367.out 1
           have hfz39_2 := blk_frozen BK367.out 2
           have hfz39_3 := blk_frozen BK367.out 3
           go_wp2
           go_ret
           exact ⟨an_, bw1_ HB.out GE367.out⟩
          ·replace c38 := Bool.eq_false_iff.mpr c38
           subst c38
           have H1 : (impl_System_join.l0 k3 a1 a2 (wrap64 (x7_1 + 1)) a0_0 l0_1 l0_2 l0_3) = some r := by rw [if_neg (show ¬ (false = true) by decide)] at H; exact H
           clear H
           have H := H1
           clear H1
           have H' := sd_ H
           clear H
           have hcz40_0 : wr.cell? ⟨gb367, 0, none⟩ = some (.int .i64 a0_0) := (blk_cell BK367.out 0).trans rfl
           have hcz40_1 : wr.cell? ⟨gb367, 1, none⟩ = some (.slice A0_1 l0_1.length c0_1) := (blk_cell BK367.out 1).trans rfl
           have hcz40_2 : wr.cell? ⟨gb367, 2, none⟩ = some (.slice A0_2 l0_2.length c0_2) := (blk_cell BK367.out 2).trans rfl
           have hcz40_3 : wr.cell? ⟨gb367, 3, none⟩ = some (.slice A0_3 l0_3.length c0_3) := (blk_cell BK367.out 3).trans rfl
           have hfz40_0 := blk_frozen BK367.out 0
           have hfz40_1 := blk_frozen BK367.out 1
           have hfz40_2 := blk_frozen BK367.out 2
           have hfz40_3 := blk_frozen BK367.out 3
           go_wp2
           go_roundg k3
           case measure => have := HK1.out; have := HJ5.out; have := HK3.out; omega
           case rel => exact ⟨(wrap64 (x7_1 + 1)), (by first | rfl | (simp; done) | (simp [*]; done)), H', ⟨by have := HK1.out; have := HJ5.out; have := HK3.out; omega⟩, ⟨by (with_reducible repeat (first | refine blk_drewN ?_ _ | refine blk_drew ?_ | refine blk_alloc ?_ _)); exact BK367.out⟩, ⟨bw1_ HB.out GE367.out⟩⟩
   ·rw [if_neg c5] at H
    have c5b0 : decide (x7_1 < a0_0) = false := decide_eq_false c5
    clear c5
    obtain rfl := Option.some.inj H
    have hcz41_0 : wr.cell? ⟨gb367, 0, none⟩ = some (.int .i64 a0_0) := (blk_cell BK367.out 0).trans rfl
    have hcz41_1 : wr.cell? ⟨gb367, 1, none⟩ = some (.slice A0_1 l0_1.length c0_1) := (blk_cell BK367.out 1).trans rfl
    have hcz41_2 : wr.cell? ⟨gb367, 2, none⟩ = some (.slice A0_2 l0_2.length c0_2) := (blk_cell BK367.out 2).trans rfl
    have hcz41_3 : wr.cell? ⟨gb367, 3, none⟩ = some (.slice A0_3 l0_3.length c0_3) := (blk_cell BK367.out 3).trans rfl
    have hfz41_0 := blk_frozen BK367.out 0
    have hfz41_1 := blk_frozen BK367.out 1
    have hfz41_2 := blk_frozen BK367.out 2
    have hfz41_3 := blk_frozen BK367.out 3
    go_wp2
    go_ret
    exact ⟨an_, bw1_ HB.out GE367.out⟩


/-! ### spec_l2Typed: function 115 -/
def spec_l2Typed.f (a0 : Int) : Option (Bool) := if a0 = 6 then (some true) else (if a0 = 7 then (some true) else (some (a0 == 9)))
set_option maxHeartbeats 8000000 in
set_option maxRecDepth 100000 in
theorem spec_l2Typed.calls (a0 : Int) (r : Bool) (w : World) (h : spec_l2Typed.f a0 = some r) :
  Calls Try.prog 115 #[.int .i64 a0] w fun e w' => e = .returned (.bool r) ∧ Drawn0 w w' := by
 have H : (if a0 = 6 then (some true) else (if a0 = 7 then (some true) else (some (a0 == 9)))) = some r := h
 clear h
 by_cases c2 : a0 = 6
 ·rw [if_pos c2] at H
  have c2b0 : (a0 == 6) = true := beq_iff_eq.mpr c2
  have c2b1 : (a0 != 6) = false := bne_eq_false_iff_eq.mpr c2
  clear c2
  obtain rfl := Option.some.inj H
  go_enter Try.func115, Try.ntmps115
  go_wp2
  go_ret
  exact ⟨by first | rfl | (simp; done) | (simp [*]; done), by repeat (first | exact Drawn0.refl _ | apply Drawn0.step)⟩
 ·rw [if_neg c2] at H
  have c2b0 : (a0 == 6) = false := beq_eq_false_iff_ne.mpr c2
  have c2b1 : (a0 != 6) = true := bne_iff_ne.mpr c2
  by_cases c3 : a0 = 7
  ·rw [if_pos c3] at H
   have c3b0 : (a0 == 7) = true := beq_iff_eq.mpr c3
   have c3b1 : (a0 != 7) = false := bne_eq_false_iff_eq.mpr c3
   clear c3
   obtain rfl := Option.some.inj H
   go_enter Try.func115, Try.ntmps115
   go_wp2
   go_ret
   exact ⟨by first | rfl | (simp; done) | (simp [*]; done), by repeat (first | exact Drawn0.refl _ | apply Drawn0.step)⟩
  ·rw [if_neg c3] at H
   have c3b0 : (a0 == 7) = false := beq_eq_false_iff_ne.mpr c3
   have c3b1 : (a0 != 7) = true := bne_iff_ne.mpr c3
   obtain rfl := Option.some.inj H
   go_enter Try.func115, Try.ntmps115
   go_wp2
   go_ret
   exact ⟨by first | rfl | (simp; done) | (simp [*]; done), by repeat (first | exact Drawn0.refl _ | apply Drawn0.step)⟩

end Go.Proofs.Ytnokgkhkmnldeaa.P
end
