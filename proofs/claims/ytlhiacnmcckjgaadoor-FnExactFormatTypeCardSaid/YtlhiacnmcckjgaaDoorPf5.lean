-- Printed by this session's own program (wip/tools/mkprint.py) out of the translation. Not trusted: Lean checks it.
import Derived.Test.YtlhiacnmcckjgaaDoorP0
import Derived.Test.YtlhiacnmcckjgaaDoorPf14
import Derived.Test.YtlhiacnmcckjgaaDoorPf15
import Derived.Test.YtlhiacnmcckjgaaDoorPf16
import Derived.Test.YtlhiacnmcckjgaaDoorPf17
/-! short words -/
namespace Go.Proofs.YtlhiacnmcckjgaaDoor.P
open Go.RowKit Go.Proofs.YtlhiacnmcckjgaaDoorW.PrintWords Go.Proofs.YtlhiacnmcckjgaaDoorW.PrintLast Go.Proofs.YtlhiacnmcckjgaaDoorW.PrintMore
attribute [local go_sem] max2_int min2_int max_two min_two max_three min_three max_four min_four   -- for this text's walks alone
set_option linter.unusedVariables false
set_option linter.unusedSimpArgs false

/-! ### spec_FormatType: function 5 -/
def spec_FormatType.l0 : Nat → List Int → ByteArray → Int → Option (ByteArray)
 | 0, _, _, _ => none
 | k + 1, x0, x3, x4 => if x4 < (x0.length : Int) then (if 0 ≤ x4 then (if (rd x0 x4) = 0 then (if x3.size + 1 ≤ 9223372036854775807 then (spec_FormatType.l0 k x0 (x3 ++ (⟨#[110]⟩ : ByteArray)) (wrap64 (x4 + 1))) else (none)) else (if (rd x0 x4) = 1 then (if x3.size + 1 ≤ 9223372036854775807 then (spec_FormatType.l0 k x0 (x3 ++ (⟨#[42]⟩ : ByteArray)) (wrap64 (x4 + 1))) else (none)) else (if (rd x0 x4) = 2 then (if x3.size + 1 ≤ 9223372036854775807 then (spec_FormatType.l0 k x0 (x3 ++ (⟨#[43]⟩ : ByteArray)) (wrap64 (x4 + 1))) else (none)) else ((spec_l2Arrow.f (rd x0 x4)).bind fun t115 => (if t115 = true then (if x3.size + 1 ≤ 9223372036854775807 then ((spec_l2Grade.f (rd x0 x4)).bind fun t116 => ((spec_l2GradeText.f k t116).bind fun t117 => (if (x3 ++ (⟨#[62]⟩ : ByteArray)).size + t117.size ≤ 9223372036854775807 then (if ((x3 ++ (⟨#[62]⟩ : ByteArray)) ++ t117).size + 1 ≤ 9223372036854775807 then (spec_FormatType.l0 k x0 (((x3 ++ (⟨#[62]⟩ : ByteArray)) ++ t117) ++ (⟨#[46]⟩ : ByteArray)) (wrap64 (x4 + 1))) else (none)) else (none)))) else (none)) else (if x3.size + 1 ≤ 9223372036854775807 then ((spec_l2Grade.f (rd x0 x4)).bind fun t118 => ((spec_l2GradeText.f k t118).bind fun t119 => (if (x3 ++ (⟨#[33]⟩ : ByteArray)).size + t119.size ≤ 9223372036854775807 then (if ((x3 ++ (⟨#[33]⟩ : ByteArray)) ++ t119).size + 1 ≤ 9223372036854775807 then (spec_FormatType.l0 k x0 (((x3 ++ (⟨#[33]⟩ : ByteArray)) ++ t119) ++ (⟨#[46]⟩ : ByteArray)) (wrap64 (x4 + 1))) else (none)) else (none)))) else (none))))))) else (none)) else (some x3)
def spec_FormatType.f (k : Nat) (l0 : List Int) : Option (ByteArray) := (spec_l2Type.f k l0).bind fun t113 => (if t113 = true then (spec_FormatType.l0 k l0 (⟨#[]⟩ : ByteArray) 0) else (some (⟨#[]⟩ : ByteArray)))
set_option maxHeartbeats 8000000 in
set_option maxRecDepth 100000 in
theorem spec_FormatType.calls (k : Nat) (A0 : Option Addr) (c0 : Nat) (l0 : List Int) (r : ByteArray) (w : World) (hr0 : Kd.C (Kd.int .i64) w A0 l0.length l0) (hc0 : l0.length ≤ c0) (h : spec_FormatType.f k l0 = some r) :
  Calls Tryd.prog 5 #[.slice A0 l0.length c0] w fun e w' => e = .returned (.string r) ∧ Below w.heap.size w w' := by
 have HR0 := sd_ hr0
 have HC0 := sd_ hc0
 clear hr0 hc0
 have HB := sd_ (Below.refl w.heap.size w)
 have H : ((spec_l2Type.f k l0).bind fun t113 => (if t113 = true then (spec_FormatType.l0 k l0 (⟨#[]⟩ : ByteArray) 0) else (some (⟨#[]⟩ : ByteArray)))) = some r := h
 clear h
 replace H := Option.bind_eq_some_iff.mp H
 obtain ⟨t113, A20, H⟩ := H
 try dsimp only at H
 have A2 := sd_ A20
 clear A20
 by_cases c3 : t113 = true
 ·subst c3
  have H1 : (spec_FormatType.l0 k l0 (⟨#[]⟩ : ByteArray) 0) = some r := by rw [if_pos rfl] at H; exact H
  clear H
  have H := H1
  clear H1
  have H' := sd_ H
  clear H
  go_enter Tryd.func5, Tryd.ntmps5
  go_wp2_with (first | ((with_reducible refine gate_callee (f := 14) rfl ?_); refine goesL_ (some 7) rfl rfl Tryd.func14 (by kernel_rfl) rfl #[.slice A0 l0.length c0] rfl la_ ?_; (with_reducible refine (spec_l2Type.calls k _ _ l0 true _ (kp_ HR0.out) HC0.out A2.out).mono ?_); rintro e w' ⟨rfl, ⟨nd, rfl⟩⟩; refine ⟨_, rfl, ?_⟩))
  go_loopg [3, 4] k (fun kq v3 v4 w' => ∃ (x3_1 : ByteArray) (x4_1 : Int), v3 = .string x3_1 ∧ v4 = .int .i64 x4_1 ∧ Aside0 (spec_FormatType.l0 kq l0 x3_1 x4_1 = some r) ∧ Aside0 (kq ≤ k) ∧ Aside0 (Below w.heap.size w w'))
  case atStart => exact ⟨((⟨#[]⟩ : ByteArray)), (0), sm_, sm_, H', ⟨Nat.le_refl _⟩, ⟨bw0_ HB.out⟩⟩
  case round =>
   clear H'
   try clear c1
   try clear p2
   try clear c3
   obtain ⟨x3_1, x4_1, rfl, rfl, HA, HK1, HB⟩ := hrel
   cases gk with
   | zero => exact absurd HA.out (by simp [spec_FormatType.l0])
   | succ k1 =>
    have H := HA.out
    clear HA
    simp only [spec_FormatType.l0] at H
    by_cases c4 : x4_1 < (l0.length : Int)
    ·rw [if_pos c4] at H
     have c4b0 : decide (x4_1 < (l0.length : Int)) = true := decide_eq_true c4
     clear c4
     by_cases c5 : 0 ≤ x4_1
     ·rw [if_pos c5] at H
      have c5b0 : decide (0 ≤ x4_1) = true := decide_eq_true c5
      clear c5
      by_cases c6 : (rd l0 x4_1) = 0
      ·rw [if_pos c6] at H
       have c6b0 : ((rd l0 x4_1) == 0) = true := beq_iff_eq.mpr c6
       have c6b1 : ((rd l0 x4_1) != 0) = false := bne_eq_false_iff_eq.mpr c6
       clear c6
       by_cases c7 : x3_1.size + 1 ≤ 9223372036854775807
       ·rw [if_pos c7] at H
        have c7b0 := eq_true c7
        have c7b1 : decide (x3_1.size + 1 ≤ 9223372036854775807) = true := decide_eq_true c7
        try have c7b2 : (9223372036854775807 < x3_1.size + 1) = False := eq_false (Nat.not_lt.2 c7)
        have H' := sd_ H
        clear H
        have p114 : 0 ≤ (x4_1 : Int) := dt_
        have q114 : x4_1 < (l0.length : Int) := dt_
        obtain ⟨ad114, e114, hx114_0⟩ := Kd.at_int HR0.out x4_1 p114 q114
        cases e114
        replace hx114_0 := (HB.out.cell (World.block_lt_of_cell? w _ hx114_0)).trans hx114_0
        replace p114 := eq_true p114
        replace q114 := eq_true q114
        go_wp2
        go_roundg k1
        case measure => have := HK1.out; omega
        case rel => exact ⟨(x3_1 ++ (⟨#[110]⟩ : ByteArray)), (wrap64 (x4_1 + 1)), sm_, sm_, H', ⟨by have := HK1.out; omega⟩, ⟨bw0_ HB.out⟩⟩
       rw [if_neg c7] at H
       exact absurd H (by simp)
      rw [if_neg c6] at H
      have c6b0 : ((rd l0 x4_1) == 0) = false := beq_eq_false_iff_ne.mpr c6
      have c6b1 : ((rd l0 x4_1) != 0) = true := bne_iff_ne.mpr c6
      by_cases c8 : (rd l0 x4_1) = 1
      ·rw [if_pos c8] at H
       have c8b0 : ((rd l0 x4_1) == 1) = true := beq_iff_eq.mpr c8
       have c8b1 : ((rd l0 x4_1) != 1) = false := bne_eq_false_iff_eq.mpr c8
       clear c8
       by_cases c9 : x3_1.size + 1 ≤ 9223372036854775807
       ·rw [if_pos c9] at H
        have c9b0 := eq_true c9
        have c9b1 : decide (x3_1.size + 1 ≤ 9223372036854775807) = true := decide_eq_true c9
        try have c9b2 : (9223372036854775807 < x3_1.size + 1) = False := eq_false (Nat.not_lt.2 c9)
        have H' := sd_ H
        clear H
        have p114 : 0 ≤ (x4_1 : Int) := dt_
        have q114 : x4_1 < (l0.length : Int) := dt_
        obtain ⟨ad114, e114, hx114_0⟩ := Kd.at_int HR0.out x4_1 p114 q114
        cases e114
        replace hx114_0 := (HB.out.cell (World.block_lt_of_cell? w _ hx114_0)).trans hx114_0
        replace p114 := eq_true p114
        replace q114 := eq_true q114
        go_wp2
        go_roundg k1
        case measure => have := HK1.out; omega
        case rel => exact ⟨(x3_1 ++ (⟨#[42]⟩ : ByteArray)), (wrap64 (x4_1 + 1)), sm_, sm_, H', ⟨by have := HK1.out; omega⟩, ⟨bw0_ HB.out⟩⟩
       rw [if_neg c9] at H
       exact absurd H (by simp)
      rw [if_neg c8] at H
      have c8b0 : ((rd l0 x4_1) == 1) = false := beq_eq_false_iff_ne.mpr c8
      have c8b1 : ((rd l0 x4_1) != 1) = true := bne_iff_ne.mpr c8
      by_cases c10 : (rd l0 x4_1) = 2
      ·rw [if_pos c10] at H
       have c10b0 : ((rd l0 x4_1) == 2) = true := beq_iff_eq.mpr c10
       have c10b1 : ((rd l0 x4_1) != 2) = false := bne_eq_false_iff_eq.mpr c10
       clear c10
       by_cases c11 : x3_1.size + 1 ≤ 9223372036854775807
       ·rw [if_pos c11] at H
        have c11b0 := eq_true c11
        have c11b1 : decide (x3_1.size + 1 ≤ 9223372036854775807) = true := decide_eq_true c11
        try have c11b2 : (9223372036854775807 < x3_1.size + 1) = False := eq_false (Nat.not_lt.2 c11)
        have H' := sd_ H
        clear H
        have p114 : 0 ≤ (x4_1 : Int) := dt_
        have q114 : x4_1 < (l0.length : Int) := dt_
        obtain ⟨ad114, e114, hx114_0⟩ := Kd.at_int HR0.out x4_1 p114 q114
        cases e114
        replace hx114_0 := (HB.out.cell (World.block_lt_of_cell? w _ hx114_0)).trans hx114_0
        replace p114 := eq_true p114
        replace q114 := eq_true q114
        go_wp2
        go_roundg k1
        case measure => have := HK1.out; omega
        case rel => exact ⟨(x3_1 ++ (⟨#[43]⟩ : ByteArray)), (wrap64 (x4_1 + 1)), sm_, sm_, H', ⟨by have := HK1.out; omega⟩, ⟨bw0_ HB.out⟩⟩
       rw [if_neg c11] at H
       exact absurd H (by simp)
      rw [if_neg c10] at H
      have c10b0 : ((rd l0 x4_1) == 2) = false := beq_eq_false_iff_ne.mpr c10
      have c10b1 : ((rd l0 x4_1) != 2) = true := bne_iff_ne.mpr c10
      replace H := Option.bind_eq_some_iff.mp H
      obtain ⟨t115, A120, H⟩ := H
      try dsimp only at H
      have A12 := sd_ A120
      clear A120
      by_cases c13 : t115 = true
      ·subst c13
       have H1 : (if x3_1.size + 1 ≤ 9223372036854775807 then ((spec_l2Grade.f (rd l0 x4_1)).bind fun t116 => ((spec_l2GradeText.f k1 t116).bind fun t117 => (if (x3_1 ++ (⟨#[62]⟩ : ByteArray)).size + t117.size ≤ 9223372036854775807 then (if ((x3_1 ++ (⟨#[62]⟩ : ByteArray)) ++ t117).size + 1 ≤ 9223372036854775807 then (spec_FormatType.l0 k1 l0 (((x3_1 ++ (⟨#[62]⟩ : ByteArray)) ++ t117) ++ (⟨#[46]⟩ : ByteArray)) (wrap64 (x4_1 + 1))) else (none)) else (none)))) else (none)) = some r := by rw [if_pos rfl] at H; exact H
       clear H
       have H := H1
       clear H1
       by_cases c14 : x3_1.size + 1 ≤ 9223372036854775807
       ·rw [if_pos c14] at H
        have c14b0 := eq_true c14
        have c14b1 : decide (x3_1.size + 1 ≤ 9223372036854775807) = true := decide_eq_true c14
        try have c14b2 : (9223372036854775807 < x3_1.size + 1) = False := eq_false (Nat.not_lt.2 c14)
        replace H := Option.bind_eq_some_iff.mp H
        obtain ⟨t116, A150, H⟩ := H
        try dsimp only at H
        have A15 := sd_ A150
        clear A150
        replace H := Option.bind_eq_some_iff.mp H
        obtain ⟨t117, A160, H⟩ := H
        try dsimp only at H
        have A16 := sd_ A160
        clear A160
        by_cases c17 : (x3_1 ++ (⟨#[62]⟩ : ByteArray)).size + t117.size ≤ 9223372036854775807
        ·rw [if_pos c17] at H
         have c17b0 := eq_true c17
         have c17b1 : decide ((x3_1 ++ (⟨#[62]⟩ : ByteArray)).size + t117.size ≤ 9223372036854775807) = true := decide_eq_true c17
         try have c17b2 : (9223372036854775807 < (x3_1 ++ (⟨#[62]⟩ : ByteArray)).size + t117.size) = False := eq_false (Nat.not_lt.2 c17)
         have c17b3 := eq_false (Nat.not_lt.2 c17)
         simp only [ByteArray.size_append, show (⟨#[62]⟩ : ByteArray).size = 1 from rfl] at c17b3
         by_cases c18 : ((x3_1 ++ (⟨#[62]⟩ : ByteArray)) ++ t117).size + 1 ≤ 9223372036854775807
         ·rw [if_pos c18] at H
          have c18b0 := eq_true c18
          have c18b1 : decide (((x3_1 ++ (⟨#[62]⟩ : ByteArray)) ++ t117).size + 1 ≤ 9223372036854775807) = true := decide_eq_true c18
          try have c18b2 : (9223372036854775807 < ((x3_1 ++ (⟨#[62]⟩ : ByteArray)) ++ t117).size + 1) = False := eq_false (Nat.not_lt.2 c18)
          have c18b3 := eq_false (Nat.not_lt.2 c18)
          simp only [ByteArray.size_append, show (⟨#[62]⟩ : ByteArray).size = 1 from rfl] at c18b3
          have H' := sd_ H
          clear H
          have p114 : 0 ≤ (x4_1 : Int) := dt_
          have q114 : x4_1 < (l0.length : Int) := dt_
          obtain ⟨ad114, e114, hx114_0⟩ := Kd.at_int HR0.out x4_1 p114 q114
          cases e114
          replace hx114_0 := (HB.out.cell (World.block_lt_of_cell? w _ hx114_0)).trans hx114_0
          replace p114 := eq_true p114
          replace q114 := eq_true q114
          go_wp2_with (first | ((with_reducible refine gate_callee (f := 15) rfl ?_); refine goesL_ (some 43) rfl rfl Tryd.func15 (by kernel_rfl) rfl #[.int .i64 (rd l0 x4_1)] rfl la_ ?_; (with_reducible refine (spec_l2Arrow.calls (rd l0 x4_1) true _ A12.out).mono ?_); rintro e w' ⟨rfl, ⟨nd, rfl⟩⟩; refine ⟨_, rfl, ?_⟩) | ((with_reducible refine gate_callee (f := 17) rfl ?_); refine goesL_ (some 47) rfl rfl Tryd.func17 (by kernel_rfl) rfl #[.int .i64 (rd l0 x4_1)] rfl la_ ?_; (with_reducible refine (spec_l2Grade.calls (rd l0 x4_1) t116 _ A15.out).mono ?_); rintro e w' ⟨rfl, ⟨nd, rfl⟩⟩; refine ⟨_, rfl, ?_⟩) | ((with_reducible refine gate_callee (f := 16) rfl ?_); refine goesL_ (some 48) rfl rfl Tryd.func16 (by kernel_rfl) rfl #[.int .i64 t116] rfl la_ ?_; (with_reducible refine (spec_l2GradeText.calls k1 t116 t117 _ A16.out).mono ?_); rintro e w19 ⟨rfl, hb⟩; refine ⟨_, rfl, ?_⟩; have n0_ := sd_ (below_step (bw0_ HB.out) hb); clear HB; have HB := n0_; clear n0_))
          go_roundg k1
          case measure => have := HK1.out; omega
          case rel => exact ⟨(((x3_1 ++ (⟨#[62]⟩ : ByteArray)) ++ t117) ++ (⟨#[46]⟩ : ByteArray)), (wrap64 (x4_1 + 1)), sm_, sm_, H', ⟨by have := HK1.out; omega⟩, ⟨bw0_ HB.out⟩⟩
         rw [if_neg c18] at H
         exact absurd H (by simp)
        rw [if_neg c17] at H
        exact absurd H (by simp)
       rw [if_neg c14] at H
       exact absurd H (by simp)
      replace c13 := Bool.eq_false_iff.mpr c13
      subst c13
      have H1 : (if x3_1.size + 1 ≤ 9223372036854775807 then ((spec_l2Grade.f (rd l0 x4_1)).bind fun t118 => ((spec_l2GradeText.f k1 t118).bind fun t119 => (if (x3_1 ++ (⟨#[33]⟩ : ByteArray)).size + t119.size ≤ 9223372036854775807 then (if ((x3_1 ++ (⟨#[33]⟩ : ByteArray)) ++ t119).size + 1 ≤ 9223372036854775807 then (spec_FormatType.l0 k1 l0 (((x3_1 ++ (⟨#[33]⟩ : ByteArray)) ++ t119) ++ (⟨#[46]⟩ : ByteArray)) (wrap64 (x4_1 + 1))) else (none)) else (none)))) else (none)) = some r := by rw [if_neg (show ¬ (false = true) by decide)] at H; exact H
      clear H
      have H := H1
      clear H1
      by_cases c20 : x3_1.size + 1 ≤ 9223372036854775807
      ·rw [if_pos c20] at H
       have c20b0 := eq_true c20
       have c20b1 : decide (x3_1.size + 1 ≤ 9223372036854775807) = true := decide_eq_true c20
       try have c20b2 : (9223372036854775807 < x3_1.size + 1) = False := eq_false (Nat.not_lt.2 c20)
       replace H := Option.bind_eq_some_iff.mp H
       obtain ⟨t118, A210, H⟩ := H
       try dsimp only at H
       have A21 := sd_ A210
       clear A210
       replace H := Option.bind_eq_some_iff.mp H
       obtain ⟨t119, A220, H⟩ := H
       try dsimp only at H
       have A22 := sd_ A220
       clear A220
       by_cases c23 : (x3_1 ++ (⟨#[33]⟩ : ByteArray)).size + t119.size ≤ 9223372036854775807
       ·rw [if_pos c23] at H
        have c23b0 := eq_true c23
        have c23b1 : decide ((x3_1 ++ (⟨#[33]⟩ : ByteArray)).size + t119.size ≤ 9223372036854775807) = true := decide_eq_true c23
        try have c23b2 : (9223372036854775807 < (x3_1 ++ (⟨#[33]⟩ : ByteArray)).size + t119.size) = False := eq_false (Nat.not_lt.2 c23)
        have c23b3 := eq_false (Nat.not_lt.2 c23)
        simp only [ByteArray.size_append, show (⟨#[33]⟩ : ByteArray).size = 1 from rfl] at c23b3
        by_cases c24 : ((x3_1 ++ (⟨#[33]⟩ : ByteArray)) ++ t119).size + 1 ≤ 9223372036854775807
        ·rw [if_pos c24] at H
         have c24b0 := eq_true c24
         have c24b1 : decide (((x3_1 ++ (⟨#[33]⟩ : ByteArray)) ++ t119).size + 1 ≤ 9223372036854775807) = true := decide_eq_true c24
         try have c24b2 : (9223372036854775807 < ((x3_1 ++ (⟨#[33]⟩ : ByteArray)) ++ t119).size + 1) = False := eq_false (Nat.not_lt.2 c24)
         have c24b3 := eq_false (Nat.not_lt.2 c24)
         simp only [ByteArray.size_append, show (⟨#[33]⟩ : ByteArray).size = 1 from rfl] at c24b3
         have H' := sd_ H
         clear H
         have p114 : 0 ≤ (x4_1 : Int) := dt_
         have q114 : x4_1 < (l0.length : Int) := dt_
         obtain ⟨ad114, e114, hx114_0⟩ := Kd.at_int HR0.out x4_1 p114 q114
         cases e114
         replace hx114_0 := (HB.out.cell (World.block_lt_of_cell? w _ hx114_0)).trans hx114_0
         replace p114 := eq_true p114
         replace q114 := eq_true q114
         go_wp2_with (first | ((with_reducible refine gate_callee (f := 15) rfl ?_); refine goesL_ (some 43) rfl rfl Tryd.func15 (by kernel_rfl) rfl #[.int .i64 (rd l0 x4_1)] rfl la_ ?_; (with_reducible refine (spec_l2Arrow.calls (rd l0 x4_1) false _ A12.out).mono ?_); rintro e w' ⟨rfl, ⟨nd, rfl⟩⟩; refine ⟨_, rfl, ?_⟩) | ((with_reducible refine gate_callee (f := 17) rfl ?_); refine goesL_ (some 22) rfl rfl Tryd.func17 (by kernel_rfl) rfl #[.int .i64 (rd l0 x4_1)] rfl la_ ?_; (with_reducible refine (spec_l2Grade.calls (rd l0 x4_1) t118 _ A21.out).mono ?_); rintro e w' ⟨rfl, ⟨nd, rfl⟩⟩; refine ⟨_, rfl, ?_⟩) | ((with_reducible refine gate_callee (f := 16) rfl ?_); refine goesL_ (some 23) rfl rfl Tryd.func16 (by kernel_rfl) rfl #[.int .i64 t118] rfl la_ ?_; (with_reducible refine (spec_l2GradeText.calls k1 t118 t119 _ A22.out).mono ?_); rintro e w25 ⟨rfl, hb⟩; refine ⟨_, rfl, ?_⟩; have n0_ := sd_ (below_step (bw0_ HB.out) hb); clear HB; have HB := n0_; clear n0_))
         go_roundg k1
         case measure => have := HK1.out; omega
         case rel => exact ⟨(((x3_1 ++ (⟨#[33]⟩ : ByteArray)) ++ t119) ++ (⟨#[46]⟩ : ByteArray)), (wrap64 (x4_1 + 1)), sm_, sm_, H', ⟨by have := HK1.out; omega⟩, ⟨bw0_ HB.out⟩⟩
        rw [if_neg c24] at H
        exact absurd H (by simp)
       rw [if_neg c23] at H
       exact absurd H (by simp)
      rw [if_neg c20] at H
      exact absurd H (by simp)
     rw [if_neg c5] at H
     exact absurd H (by simp)
    rw [if_neg c4] at H
    have c4b0 : decide (x4_1 < (l0.length : Int)) = false := decide_eq_false c4
    clear c4
    obtain rfl := Option.some.inj H
    go_wp2
    go_ret
    exact ⟨an_, bw0_ HB.out⟩
 replace c3 := Bool.eq_false_iff.mpr c3
 subst c3
 have H1 : (some (⟨#[]⟩ : ByteArray)) = some r := by rw [if_neg (show ¬ (false = true) by decide)] at H; exact H
 clear H
 have H := H1
 clear H1
 obtain rfl := Option.some.inj H
 go_enter Tryd.func5, Tryd.ntmps5
 go_wp2_with (first | ((with_reducible refine gate_callee (f := 14) rfl ?_); refine goesL_ (some 7) rfl rfl Tryd.func14 (by kernel_rfl) rfl #[.slice A0 l0.length c0] rfl la_ ?_; (with_reducible refine (spec_l2Type.calls k _ _ l0 false _ (kp_ HR0.out) HC0.out A2.out).mono ?_); rintro e w' ⟨rfl, ⟨nd, rfl⟩⟩; refine ⟨_, rfl, ?_⟩))
 go_ret
 exact ⟨an_, bw0_ HB.out⟩

end Go.Proofs.YtlhiacnmcckjgaaDoor.P
