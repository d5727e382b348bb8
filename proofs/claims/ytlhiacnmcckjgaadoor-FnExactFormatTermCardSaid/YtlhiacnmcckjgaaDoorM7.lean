-- Several texts in one (wip/tools/merge.py).
import Derived.Test.YtlhiacnmcckjgaaDoorM1
import Derived.Test.YtlhiacnmcckjgaaDoorM3
import Derived.Test.YtlhiacnmcckjgaaDoorM4
import Derived.Test.YtlhiacnmcckjgaaDoorM6
import Derived.Test.YtlhiacnmcckjgaaDoorM2
import Derived.Test.YtlhiacnmcckjgaaDoorM5
section
namespace Go.Proofs.YtlhiacnmcckjgaaDoor.P
open Go.RowKit Go.Proofs.YtlhiacnmcckjgaaDoorW.PrintWords Go.Proofs.YtlhiacnmcckjgaaDoorW.PrintLast Go.Proofs.YtlhiacnmcckjgaaDoorW.PrintMore
attribute [local go_sem] max2_int min2_int max_two min_two max_three min_three max_four min_four   -- for this text's walks alone
set_option linter.unusedVariables false
set_option linter.unusedSimpArgs false

/-! ### spec_l2Text: function 23 -/
mutual
def spec_l2Text.j0 : Nat → ByteArray → Int → Int → List Int → List (S34) → Option (ByteArray)
 | 0, _, _, _, _, _ => none
 | k + 1, x3, x159000, x159001, x159002, x159003 => (spec_l2Typed.f x159000).bind fun t164 => (if t164 = true then (if x3.size + 1 ≤ 9223372036854775807 then ((spec_FormatType.f k x159002).bind fun t165 => (if (x3 ++ (⟨#[58]⟩ : ByteArray)).size + t165.size ≤ 9223372036854775807 then (spec_l2Text.j1 k ((x3 ++ (⟨#[58]⟩ : ByteArray)) ++ t165) x159000 x159001 x159002 x159003) else (none))) else (none)) else (spec_l2Text.j1 k x3 x159000 x159001 x159002 x159003))
def spec_l2Text.j1 : Nat → ByteArray → Int → Int → List Int → List (S34) → Option (ByteArray)
 | 0, _, _, _, _, _ => none
 | k + 1, x3, x159000, x159001, x159002, x159003 => spec_l2Text.l0 k x3 0 x159000 x159001 x159002 x159003
def spec_l2Text.l0 : Nat → ByteArray → Int → Int → Int → List Int → List (S34) → Option (ByteArray)
 | 0, _, _, _, _, _, _ => none
 | k + 1, x3, x4, x159000, x159001, x159002, x159003 => if x4 < (x159003.length : Int) then (if x4 = 0 then (if x3.size + 1 ≤ 9223372036854775807 then (if 0 ≤ x4 then ((spec_l2Text.f k ((rd_T34 x159003 x4).f0) ((rd_T34 x159003 x4).f1) ((rd_T34 x159003 x4).f2) ((rd_T34 x159003 x4).f3)).bind fun t167 => (if (x3 ++ (⟨#[40]⟩ : ByteArray)).size + t167.size ≤ 9223372036854775807 then (spec_l2Text.l0 k ((x3 ++ (⟨#[40]⟩ : ByteArray)) ++ t167) (wrap64 (x4 + 1)) x159000 x159001 x159002 x159003) else (none))) else (none)) else (none)) else (if x3.size + 1 ≤ 9223372036854775807 then (if 0 ≤ x4 then ((spec_l2Text.f k ((rd_T34 x159003 x4).f0) ((rd_T34 x159003 x4).f1) ((rd_T34 x159003 x4).f2) ((rd_T34 x159003 x4).f3)).bind fun t169 => (if (x3 ++ (⟨#[44]⟩ : ByteArray)).size + t169.size ≤ 9223372036854775807 then (spec_l2Text.l0 k ((x3 ++ (⟨#[44]⟩ : ByteArray)) ++ t169) (wrap64 (x4 + 1)) x159000 x159001 x159002 x159003) else (none))) else (none)) else (none))) else (if x3.size + 1 ≤ 9223372036854775807 then (some (x3 ++ (⟨#[41]⟩ : ByteArray))) else (none))
def spec_l2Text.f : Nat → Int → Int → List Int → List (S34) → Option (ByteArray)
 | 0, _, _, _, _ => none
 | k + 1, a0_0, a0_1, l0_2, l0_3 => if a0_0 = 0 then ((spec_l1Decimal.f k a0_1).bind fun t159 => (if 1 + t159.size ≤ 9223372036854775807 then (some ((⟨#[120]⟩ : ByteArray) ++ t159)) else (none))) else (if a0_0 = 1 then ((spec_l1Decimal.f k a0_1).bind fun t160 => (some t160)) else ((spec_l2Word.f a0_0).bind fun t161 => ((spec_l2Has.f a0_0).bind fun t162 => (if t162 = true then (if t161.size + 1 ≤ 9223372036854775807 then ((spec_l2GradeText.f k a0_1).bind fun t163 => (if (t161 ++ (⟨#[58]⟩ : ByteArray)).size + t163.size ≤ 9223372036854775807 then (spec_l2Text.j0 k ((t161 ++ (⟨#[58]⟩ : ByteArray)) ++ t163) a0_0 a0_1 l0_2 l0_3) else (none))) else (none)) else (spec_l2Text.j0 k t161 a0_0 a0_1 l0_2 l0_3)))))
end
set_option maxHeartbeats 8000000 in
set_option maxRecDepth 100000 in
theorem spec_l2Text.calls (k : Nat) : ∀ (a0_0 : Int) (a0_1 : Int) (A0_2 : Option Addr) (c0_2 : Nat) (l0_2 : List Int) (A0_3 : Option Addr) (c0_3 : Nat) (l0_3 : List (S34)) (r : ByteArray) (w : World) (hr0_2 : Kd.C (Kd.int .i64) w A0_2 l0_2.length l0_2) (hc0_2 : l0_2.length ≤ c0_2) (hr0_3 : Kd.C k34 w A0_3 l0_3.length l0_3) (hc0_3 : l0_3.length ≤ c0_3) (h : spec_l2Text.f k a0_0 a0_1 l0_2 l0_3 = some r),
  Calls Tryd.prog 23 #[.agg #[.int .i64 a0_0, .int .i64 a0_1, .slice A0_2 l0_2.length c0_2, .slice A0_3 l0_3.length c0_3]] w fun e w' => e = .returned (.string r) ∧ Below w.heap.size w w' := by
 induction k using Nat.strongRecOn with
 | _ k ih =>
 intro a0_0 a0_1 A0_2 c0_2 l0_2 A0_3 c0_3 l0_3 r w hr0_2 hc0_2 hr0_3 hc0_3 h
 cases k with
 | zero => exact absurd h (by simp [spec_l2Text.f])
 | succ k =>
 simp only [spec_l2Text.f] at h
 have hu34 := Tryd.underlying34
 have HR0_2 := sd_ hr0_2
 have HC0_2 := sd_ hc0_2
 clear hr0_2 hc0_2
 have HR0_3 := sd_ hr0_3
 have HC0_3 := sd_ hc0_3
 clear hr0_3 hc0_3
 have HB := sd_ (Below.refl w.heap.size w)
 have H : (if a0_0 = 0 then ((spec_l1Decimal.f k a0_1).bind fun t159 => (if 1 + t159.size ≤ 9223372036854775807 then (some ((⟨#[120]⟩ : ByteArray) ++ t159)) else (none))) else (if a0_0 = 1 then ((spec_l1Decimal.f k a0_1).bind fun t160 => (some t160)) else ((spec_l2Word.f a0_0).bind fun t161 => ((spec_l2Has.f a0_0).bind fun t162 => (if t162 = true then (if t161.size + 1 ≤ 9223372036854775807 then ((spec_l2GradeText.f k a0_1).bind fun t163 => (if (t161 ++ (⟨#[58]⟩ : ByteArray)).size + t163.size ≤ 9223372036854775807 then (spec_l2Text.j0 k ((t161 ++ (⟨#[58]⟩ : ByteArray)) ++ t163) a0_0 a0_1 l0_2 l0_3) else (none))) else (none)) else (spec_l2Text.j0 k t161 a0_0 a0_1 l0_2 l0_3)))))) = some r := h
 clear h
 have HP2 := sd_ H
 clear H
 go_enter Tryd.func23, Tryd.ntmps23
 go_upto_if 7 with (first | ((with_reducible refine gate_dst (N := 1) rfl ?_); refine bx_ (N := 1) (cs := #[.int .i64 a0_0, .int .i64 a0_1, .slice A0_2 l0_2.length c0_2, .slice A0_3 l0_3.length c0_3]) (t := 34) ?_; intro gb158 hg w3 hbox hb; have BK158 := sd_ (hbox); have GW158 := sd_ (gs_ hg (bw0_ HB.out)); have GE158 := sd_ (gs_ hg (bw0_ HB.out)); replace HB := sd_ (below_step (bw0_ HB.out) hb); clear hb hbox hg; obtain ⟨hcz4_0, hcz4_1, hcz4_2, hcz4_3, hfz4_0, hfz4_1, hfz4_2, hfz4_3⟩ := bf4_ BK158.out))
 have H := HP2.out
 clear HP2
 by_cases c5 : a0_0 = 0
 ·rw [if_pos c5] at H
  have c5b0 : (a0_0 == 0) = true := beq_iff_eq.mpr c5
  have c5b1 : (a0_0 != 0) = false := bne_eq_false_iff_eq.mpr c5
  clear c5
  (first | rw [c5b0] | (simp only [i64_w, i32_w]; rw [c5b0]) | skip)
  replace H := Option.bind_eq_some_iff.mp H
  obtain ⟨t159, A60, H⟩ := H
  try dsimp only at H
  have A6 := sd_ A60
  clear A60
  by_cases c7 : 1 + t159.size ≤ 9223372036854775807
  ·rw [if_pos c7] at H
   have c7b0 := eq_true c7
   have c7b1 : decide (1 + t159.size ≤ 9223372036854775807) = true := decide_eq_true c7
   try have c7b2 : (9223372036854775807 < 1 + t159.size) = False := eq_false (Nat.not_lt.2 c7)
   obtain rfl := Option.some.inj H
   obtain ⟨hcz8_0, hcz8_1, hcz8_2, hcz8_3, hfz8_0, hfz8_1, hfz8_2, hfz8_3⟩ := bf4_ BK158.out
   go_wp2_with (first | ((with_reducible refine gate_callee (f := 31) rfl ?_); refine goesL_ (some 10) rfl rfl Tryd.func31 (by kernel_rfl) rfl #[.int .i64 a0_1] rfl la_ ?_; (with_reducible refine (spec_l1Decimal.calls k a0_1 t159 _ A6.out).mono ?_); rintro e w9 ⟨rfl, hb⟩; refine ⟨_, rfl, ?_⟩; replace BK158 := sd_ (bb_ BK158.out hb); replace HB := sd_ (below_step (bw1_ HB.out GE158.out) hb); (try clear hb)))
   go_ret
   exact ⟨an_, bw1_ HB.out GE158.out⟩
  rw [if_neg c7] at H
  exact absurd H (by simp)
 rw [if_neg c5] at H
 have c5b0 : (a0_0 == 0) = false := beq_eq_false_iff_ne.mpr c5
 have c5b1 : (a0_0 != 0) = true := bne_iff_ne.mpr c5
 (first | rw [c5b0] | (simp only [i64_w, i32_w]; rw [c5b0]) | skip)
 by_cases c10 : a0_0 = 1
 ·rw [if_pos c10] at H
  have c10b0 : (a0_0 == 1) = true := beq_iff_eq.mpr c10
  have c10b1 : (a0_0 != 1) = false := bne_eq_false_iff_eq.mpr c10
  clear c10
  replace H := Option.bind_eq_some_iff.mp H
  obtain ⟨t160, A110, H⟩ := H
  try dsimp only at H
  have A11 := sd_ A110
  clear A110
  obtain rfl := Option.some.inj H
  obtain ⟨hcz12_0, hcz12_1, hcz12_2, hcz12_3, hfz12_0, hfz12_1, hfz12_2, hfz12_3⟩ := bf4_ BK158.out
  go_wp2_with (first | ((with_reducible refine gate_callee (f := 31) rfl ?_); refine goesL_ (some 17) rfl rfl Tryd.func31 (by kernel_rfl) rfl #[.int .i64 a0_1] rfl la_ ?_; (with_reducible refine (spec_l1Decimal.calls k a0_1 t160 _ A11.out).mono ?_); rintro e w13 ⟨rfl, hb⟩; refine ⟨_, rfl, ?_⟩; replace BK158 := sd_ (bb_ BK158.out hb); replace HB := sd_ (below_step (bw1_ HB.out GE158.out) hb); (try clear hb)))
  go_ret
  exact ⟨an_, bw1_ HB.out GE158.out⟩
 rw [if_neg c10] at H
 have c10b0 : (a0_0 == 1) = false := beq_eq_false_iff_ne.mpr c10
 have c10b1 : (a0_0 != 1) = true := bne_iff_ne.mpr c10
 replace H := Option.bind_eq_some_iff.mp H
 obtain ⟨t161, A140, H⟩ := H
 try dsimp only at H
 have A14 := sd_ A140
 clear A140
 replace H := Option.bind_eq_some_iff.mp H
 obtain ⟨t162, A150, H⟩ := H
 try dsimp only at H
 have A15 := sd_ A150
 clear A150
 have HC16 := sd_ H
 clear H
 obtain ⟨hcz17_0, hcz17_1, hcz17_2, hcz17_3, hfz17_0, hfz17_1, hfz17_2, hfz17_3⟩ := bf4_ BK158.out
 go_upto_if 23 with (first | ((with_reducible refine gate_callee (f := 38) rfl ?_); refine goesL_ (some 20) rfl rfl Tryd.func38 (by kernel_rfl) rfl #[.int .i64 a0_0] rfl la_ ?_; (with_reducible refine (spec_l2Word.calls a0_0 t161 _ A14.out).mono ?_); rintro e w18 ⟨rfl, hb⟩; refine ⟨_, rfl, ?_⟩; replace BK158 := sd_ (bb_ BK158.out hb); replace HB := sd_ (below_step (bw1_ HB.out GE158.out) hb); (try clear hb); obtain ⟨hcz19_0, hcz19_1, hcz19_2, hcz19_3, hfz19_0, hfz19_1, hfz19_2, hfz19_3⟩ := bf4_ BK158.out) | ((with_reducible refine gate_callee (f := 39) rfl ?_); refine goesL_ (some 23) rfl rfl Tryd.func39 (by kernel_rfl) rfl #[.int .i64 a0_0] rfl la_ ?_; (with_reducible refine (spec_l2Has.calls a0_0 t162 _ A15.out).mono ?_); rintro e w' ⟨rfl, ⟨nd, rfl⟩⟩; refine ⟨_, rfl, ?_⟩))
 (try simp only [Act.put, List.setIfInBounds_toArray, List.set_cons_zero, List.set_cons_succ])
 go_cut [3] (fun v3 wc => ∃ (kq : Nat) (x3_15 : ByteArray), v3 = .string x3_15 ∧ Aside0 (spec_l2Text.j0 kq x3_15 a0_0 a0_1 l0_2 l0_3 = some r) ∧ Aside0 (kq ≤ k) ∧ Aside0 (wc.heap[gb158]? = some (.cells #[.int .i64 a0_0, .int .i64 a0_1, (.slice A0_2 l0_2.length c0_2), (.slice A0_3 l0_3.length c0_3)] 34 (0, 0))) ∧ Aside0 (Below w.heap.size w wc))
 case first =>
  have H := HC16.out
  clear HC16
  by_cases c20 : t162 = true
  ·subst c20
   have H1 : (if t161.size + 1 ≤ 9223372036854775807 then ((spec_l2GradeText.f k a0_1).bind fun t163 => (if (t161 ++ (⟨#[58]⟩ : ByteArray)).size + t163.size ≤ 9223372036854775807 then (spec_l2Text.j0 k ((t161 ++ (⟨#[58]⟩ : ByteArray)) ++ t163) a0_0 a0_1 l0_2 l0_3) else (none))) else (none)) = some r := by rw [if_pos rfl] at H; exact H
   clear H
   have H := H1
   clear H1
   by_cases c21 : t161.size + 1 ≤ 9223372036854775807
   ·rw [if_pos c21] at H
    have c21b0 := eq_true c21
    have c21b1 : decide (t161.size + 1 ≤ 9223372036854775807) = true := decide_eq_true c21
    try have c21b2 : (9223372036854775807 < t161.size + 1) = False := eq_false (Nat.not_lt.2 c21)
    replace H := Option.bind_eq_some_iff.mp H
    obtain ⟨t163, A220, H⟩ := H
    try dsimp only at H
    have A22 := sd_ A220
    clear A220
    by_cases c23 : (t161 ++ (⟨#[58]⟩ : ByteArray)).size + t163.size ≤ 9223372036854775807
    ·rw [if_pos c23] at H
     have c23b0 := eq_true c23
     have c23b1 : decide ((t161 ++ (⟨#[58]⟩ : ByteArray)).size + t163.size ≤ 9223372036854775807) = true := decide_eq_true c23
     try have c23b2 : (9223372036854775807 < (t161 ++ (⟨#[58]⟩ : ByteArray)).size + t163.size) = False := eq_false (Nat.not_lt.2 c23)
     have c23b3 := eq_false (Nat.not_lt.2 c23)
     simp only [ByteArray.size_append, show (⟨#[58]⟩ : ByteArray).size = 1 from rfl] at c23b3
     have H' := sd_ H
     clear H
     obtain ⟨hcz24_0, hcz24_1, hcz24_2, hcz24_3, hfz24_0, hfz24_1, hfz24_2, hfz24_3⟩ := bf4_ BK158.out
     go_wp2_with (first | ((with_reducible refine gate_callee (f := 16) rfl ?_); refine goesL_ (some 28) rfl rfl Tryd.func16 (by kernel_rfl) rfl #[.int .i64 a0_1] rfl la_ ?_; (with_reducible refine (spec_l2GradeText.calls k a0_1 t163 _ A22.out).mono ?_); rintro e w25 ⟨rfl, hb⟩; refine ⟨_, rfl, ?_⟩; replace BK158 := sd_ (bb_ BK158.out hb); replace HB := sd_ (below_step (bw1_ HB.out GE158.out) hb); (try clear hb)))
     go_meet
     case rel => exact ⟨_, ((t161 ++ (⟨#[58]⟩ : ByteArray)) ++ t163), sm_, H', ⟨by first | omega | exact Nat.le_refl _⟩, ⟨by exact bz_ BK158.out⟩, ⟨bw1_ HB.out GE158.out⟩⟩
    rw [if_neg c23] at H
    exact absurd H (by simp)
   rw [if_neg c21] at H
   exact absurd H (by simp)
  replace c20 := Bool.eq_false_iff.mpr c20
  subst c20
  have H1 : (spec_l2Text.j0 k t161 a0_0 a0_1 l0_2 l0_3) = some r := by rw [if_neg (show ¬ (false = true) by decide)] at H; exact H
  clear H
  have H := H1
  clear H1
  have H' := sd_ H
  clear H
  go_wp2
  go_meet
  case rel => exact ⟨_, (t161), sm_, H', ⟨by first | omega | exact Nat.le_refl _⟩, ⟨by exact bz_ BK158.out⟩, ⟨bw1_ HB.out GE158.out⟩⟩
 case rest =>
  clear HC16
  try clear c1
  try clear c2
  try clear c3
  try clear c5
  try clear c5b0
  try clear c5b1
  try clear c10
  try clear c10b0
  try clear c10b1
  try clear c23
  try clear hcz17_0
  try clear hcz17_1
  try clear hcz17_2
  try clear hcz17_3
  try clear hcz19_0
  try clear hcz19_1
  try clear hcz19_2
  try clear hcz19_3
  try clear hcz4_0
  try clear hcz4_1
  try clear hcz4_2
  try clear hcz4_3
  try clear hfz17_0
  try clear hfz17_1
  try clear hfz17_2
  try clear hfz17_3
  try clear hfz19_0
  try clear hfz19_1
  try clear hfz19_2
  try clear hfz19_3
  try clear hfz4_0
  try clear hfz4_1
  try clear hfz4_2
  try clear hfz4_3
  obtain ⟨kq, x3_15, rfl, HA, HJ15, BK158, HB⟩ := hcut
  cases kq with
  | zero => exact absurd HA.out (by simp [spec_l2Text.j0])
  | succ kj15 =>
   have H := HA.out
   clear HA
   simp only [spec_l2Text.j0] at H
   replace H := Option.bind_eq_some_iff.mp H
   obtain ⟨t164, A260, H⟩ := H
   try dsimp only at H
   have A26 := sd_ A260
   clear A260
   have HC27 := sd_ H
   clear H
   obtain ⟨hcz28_0, hcz28_1, hcz28_2, hcz28_3, hfz28_0, hfz28_1, hfz28_2, hfz28_3⟩ := bf4_ BK158.out
   go_upto_if 32 with (first | ((with_reducible refine gate_callee (f := 40) rfl ?_); refine goesL_ (some 32) rfl rfl Tryd.func40 (by kernel_rfl) rfl #[.int .i64 a0_0] rfl la_ ?_; (with_reducible refine (spec_l2Typed.calls a0_0 t164 _ A26.out).mono ?_); rintro e w' ⟨rfl, ⟨nd, rfl⟩⟩; refine ⟨_, rfl, ?_⟩))
   (try simp only [Act.put, List.setIfInBounds_toArray, List.set_cons_zero, List.set_cons_succ])
   go_cut [3] (fun v3 wc => ∃ (kq : Nat) (x3_26 : ByteArray), v3 = .string x3_26 ∧ Aside0 (spec_l2Text.j1 kq x3_26 a0_0 a0_1 l0_2 l0_3 = some r) ∧ Aside0 (kq ≤ kj15) ∧ Aside0 (wc.heap[gb158]? = some (.cells #[.int .i64 a0_0, .int .i64 a0_1, (.slice A0_2 l0_2.length c0_2), (.slice A0_3 l0_3.length c0_3)] 34 (0, 0))) ∧ Aside0 (Below w.heap.size w wc))
   case first =>
    have H := HC27.out
    clear HC27
    by_cases c29 : t164 = true
    ·subst c29
     have H1 : (if x3_15.size + 1 ≤ 9223372036854775807 then ((spec_FormatType.f kj15 l0_2).bind fun t165 => (if (x3_15 ++ (⟨#[58]⟩ : ByteArray)).size + t165.size ≤ 9223372036854775807 then (spec_l2Text.j1 kj15 ((x3_15 ++ (⟨#[58]⟩ : ByteArray)) ++ t165) a0_0 a0_1 l0_2 l0_3) else (none))) else (none)) = some r := by rw [if_pos rfl] at H; exact H
     clear H
     have H := H1
     clear H1
     by_cases c30 : x3_15.size + 1 ≤ 9223372036854775807
     ·rw [if_pos c30] at H
      have c30b0 := eq_true c30
      have c30b1 : decide (x3_15.size + 1 ≤ 9223372036854775807) = true := decide_eq_true c30
      try have c30b2 : (9223372036854775807 < x3_15.size + 1) = False := eq_false (Nat.not_lt.2 c30)
      replace H := Option.bind_eq_some_iff.mp H
      obtain ⟨t165, A310, H⟩ := H
      try dsimp only at H
      have A31 := sd_ A310
      clear A310
      by_cases c32 : (x3_15 ++ (⟨#[58]⟩ : ByteArray)).size + t165.size ≤ 9223372036854775807
      ·rw [if_pos c32] at H
       have c32b0 := eq_true c32
       have c32b1 : decide ((x3_15 ++ (⟨#[58]⟩ : ByteArray)).size + t165.size ≤ 9223372036854775807) = true := decide_eq_true c32
       try have c32b2 : (9223372036854775807 < (x3_15 ++ (⟨#[58]⟩ : ByteArray)).size + t165.size) = False := eq_false (Nat.not_lt.2 c32)
       have c32b3 := eq_false (Nat.not_lt.2 c32)
       simp only [ByteArray.size_append, show (⟨#[58]⟩ : ByteArray).size = 1 from rfl] at c32b3
       have H' := sd_ H
       clear H
       obtain ⟨hcz33_0, hcz33_1, hcz33_2, hcz33_3, hfz33_0, hfz33_1, hfz33_2, hfz33_3⟩ := bf4_ BK158.out
       go_wp2_with (first | ((with_reducible refine gate_callee (f := 5) rfl ?_); refine goesL_ (some 37) rfl rfl Tryd.func5 (by kernel_rfl) rfl #[.slice A0_2 l0_2.length c0_2] rfl la_ ?_; (with_reducible refine (spec_FormatType.calls kj15 _ _ l0_2 t165 _ (kc_ HR0_2.out HB.out) HC0_2.out A31.out).mono ?_); rintro e w34 ⟨rfl, hb⟩; refine ⟨_, rfl, ?_⟩; replace BK158 := sd_ (bb_ BK158.out hb); replace HB := sd_ (below_step (bw1_ HB.out GE158.out) hb); (try clear hb)))
       go_meet
       case rel => exact ⟨_, ((x3_15 ++ (⟨#[58]⟩ : ByteArray)) ++ t165), sm_, H', ⟨by have := HJ15.out; first | omega | exact Nat.le_refl _⟩, ⟨by exact bz_ BK158.out⟩, ⟨bw1_ HB.out GE158.out⟩⟩
      rw [if_neg c32] at H
      exact absurd H (by simp)
     rw [if_neg c30] at H
     exact absurd H (by simp)
    replace c29 := Bool.eq_false_iff.mpr c29
    subst c29
    have H1 : (spec_l2Text.j1 kj15 x3_15 a0_0 a0_1 l0_2 l0_3) = some r := by rw [if_neg (show ¬ (false = true) by decide)] at H; exact H
    clear H
    have H := H1
    clear H1
    have H' := sd_ H
    clear H
    go_wp2
    go_meet
    case rel => exact ⟨_, (x3_15), sm_, H', ⟨by have := HJ15.out; first | omega | exact Nat.le_refl _⟩, ⟨by exact bz_ BK158.out⟩, ⟨bw1_ HB.out GE158.out⟩⟩
   case rest =>
    clear HC27
    try clear c1
    try clear c2
    try clear c3
    try clear c4
    try clear c5
    try clear c5b0
    try clear c5b1
    try clear c10
    try clear c10b0
    try clear c10b1
    try clear c23
    try clear hcz17_0
    try clear hcz17_1
    try clear hcz17_2
    try clear hcz17_3
    try clear hcz19_0
    try clear hcz19_1
    try clear hcz19_2
    try clear hcz19_3
    try clear hcz28_0
    try clear hcz28_1
    try clear hcz28_2
    try clear hcz28_3
    try clear hcz4_0
    try clear hcz4_1
    try clear hcz4_2
    try clear hcz4_3
    try clear hfz17_0
    try clear hfz17_1
    try clear hfz17_2
    try clear hfz17_3
    try clear hfz19_0
    try clear hfz19_1
    try clear hfz19_2
    try clear hfz19_3
    try clear hfz28_0
    try clear hfz28_1
    try clear hfz28_2
    try clear hfz28_3
    try clear hfz4_0
    try clear hfz4_1
    try clear hfz4_2
    try clear hfz4_3
    obtain ⟨kq, x3_26, rfl, HA, HJ26, BK158, HB⟩ := hcut
    cases kq with
    | zero => exact absurd HA.out (by simp [spec_l2Text.j1])
    | succ kj26 =>
     have H := HA.out
     clear HA
     simp only [spec_l2Text.j1] at H
     have H' := sd_ H
     clear H
     go_wp2
     go_loopg [3, 4] kj26 (fun kq v3 v4 w' => ∃ (x3_3 : ByteArray) (x4_3 : Int), v3 = .string x3_3 ∧ v4 = .int .i64 x4_3 ∧ Aside0 (spec_l2Text.l0 kq x3_3 x4_3 a0_0 a0_1 l0_2 l0_3 = some r) ∧ Aside0 (kq ≤ kj26) ∧ Aside0 (w'.heap[gb158]? = some (.cells #[.int .i64 a0_0, .int .i64 a0_1, (.slice A0_2 l0_2.length c0_2), (.slice A0_3 l0_3.length c0_3)] 34 (0, 0))) ∧ Aside0 (Below w.heap.size w w'))
     case atStart => exact ⟨(x3_26), (0), sm_, sm_, H', ⟨Nat.le_refl _⟩, ⟨by exact bz_ BK158.out⟩, ⟨bw1_ HB.out GE158.out⟩⟩
     case round =>
      clear H'
      try clear c1
      try clear c2
      try clear p2
      try clear c3
      try clear c4
      try clear c5
      try clear c5b0
      try clear c5b1
      try clear c10
      try clear c10b0
      try clear c10b1
      try clear c23
      try clear hcz17_0
      try clear hcz17_1
      try clear hcz17_2
      try clear hcz17_3
      try clear hcz19_0
      try clear hcz19_1
      try clear hcz19_2
      try clear hcz19_3
      try clear hcz28_0
      try clear hcz28_1
      try clear hcz28_2
      try clear hcz28_3
      try clear hcz4_0
      try clear hcz4_1
      try clear hcz4_2
      try clear hcz4_3
      try clear hfz17_0
      try clear hfz17_1
      try clear hfz17_2
      try clear hfz17_3
      try clear hfz19_0
      try clear hfz19_1
      try clear hfz19_2
      try clear hfz19_3
      try clear hfz28_0
      try clear hfz28_1
      try clear hfz28_2
      try clear hfz28_3
      try clear hfz4_0
      try clear hfz4_1
      try clear hfz4_2
      try clear hfz4_3
      obtain ⟨x3_3, x4_3, rfl, rfl, HA, HK3, BK158, HB⟩ := hrel
      cases gk with
      | zero => exact absurd HA.out (by simp [spec_l2Text.l0])
      | succ k3 =>
       have H := HA.out
       clear HA
       simp only [spec_l2Text.l0] at H
       by_cases c35 : x4_3 < (l0_3.length : Int)
       ·rw [if_pos c35] at H
        have c35b0 : decide (x4_3 < (l0_3.length : Int)) = true := decide_eq_true c35
        clear c35
        by_cases c36 : x4_3 = 0
        ·rw [if_pos c36] at H
         have c36b0 : (x4_3 == 0) = true := beq_iff_eq.mpr c36
         have c36b1 : (x4_3 != 0) = false := bne_eq_false_iff_eq.mpr c36
         clear c36
         by_cases c37 : x3_3.size + 1 ≤ 9223372036854775807
         ·rw [if_pos c37] at H
          have c37b0 := eq_true c37
          have c37b1 : decide (x3_3.size + 1 ≤ 9223372036854775807) = true := decide_eq_true c37
          try have c37b2 : (9223372036854775807 < x3_3.size + 1) = False := eq_false (Nat.not_lt.2 c37)
          by_cases c38 : 0 ≤ x4_3
          ·rw [if_pos c38] at H
           have c38b0 : decide (0 ≤ x4_3) = true := decide_eq_true c38
           clear c38
           replace H := Option.bind_eq_some_iff.mp H
           obtain ⟨t167, A390, H⟩ := H
           try dsimp only at H
           have A39 := sd_ A390
           clear A390
           by_cases c40 : (x3_3 ++ (⟨#[40]⟩ : ByteArray)).size + t167.size ≤ 9223372036854775807
           ·rw [if_pos c40] at H
            have c40b0 := eq_true c40
            have c40b1 : decide ((x3_3 ++ (⟨#[40]⟩ : ByteArray)).size + t167.size ≤ 9223372036854775807) = true := decide_eq_true c40
            try have c40b2 : (9223372036854775807 < (x3_3 ++ (⟨#[40]⟩ : ByteArray)).size + t167.size) = False := eq_false (Nat.not_lt.2 c40)
            have c40b3 := eq_false (Nat.not_lt.2 c40)
            simp only [ByteArray.size_append, show (⟨#[40]⟩ : ByteArray).size = 1 from rfl] at c40b3
            have H' := sd_ H
            clear H
            obtain ⟨hcz41_0, hcz41_1, hcz41_2, hcz41_3, hfz41_0, hfz41_1, hfz41_2, hfz41_3⟩ := bf4_ BK158.out
            have p166 : 0 ≤ (x4_3 : Int) := dt_
            have q166 : x4_3 < (l0_3.length : Int) := dt_
            obtain ⟨ad166, A166_2, c166_2, A166_3, c166_3, e166, hx166_0, hx166_1, hx166_2, hx166_3, hl166_2, hi166_2, hl166_3, hi166_3⟩ := at_T34 HR0_3.out x4_3 p166 q166
            cases e166
            replace hx166_0 := (HB.out.cell (World.block_lt_of_cell? w _ hx166_0)).trans hx166_0
            replace hx166_1 := (HB.out.cell (World.block_lt_of_cell? w _ hx166_1)).trans hx166_1
            replace hx166_2 := (HB.out.cell (World.block_lt_of_cell? w _ hx166_2)).trans hx166_2
            replace hx166_3 := (HB.out.cell (World.block_lt_of_cell? w _ hx166_3)).trans hx166_3
            have HR166_2 := sd_ hi166_2
            have HC166_2 := sd_ hl166_2
            clear hi166_2 hl166_2
            have HR166_3 := sd_ hi166_3
            have HC166_3 := sd_ hl166_3
            clear hi166_3 hl166_3
            replace p166 := eq_true p166
            replace q166 := eq_true q166
            go_wp2_with (first | ((with_reducible refine gate_callee (f := 23) rfl ?_); refine goesL_ (some 58) rfl rfl Tryd.func23 (by kernel_rfl) rfl #[.agg #[.int .i64 ((rd_T34 l0_3 x4_3).f0), .int .i64 ((rd_T34 l0_3 x4_3).f1), .slice A166_2 ((rd_T34 l0_3 x4_3).f2).length c166_2, .slice A166_3 ((rd_T34 l0_3 x4_3).f3).length c166_3]] rfl la_ ?_; (with_reducible refine (ih k3 (by have := HJ15.out; have := HJ26.out; have := HK3.out; omega) ((rd_T34 l0_3 x4_3).f0) ((rd_T34 l0_3 x4_3).f1) _ _ ((rd_T34 l0_3 x4_3).f2) _ _ ((rd_T34 l0_3 x4_3).f3) t167 _ ?side1 ?side2 ?side3 ?side4 A39.out).mono ?_); (case side1 => exact kc_ HR166_2.out HB.out); (case side2 => exact HC166_2.out); (case side3 => exact kc_ HR166_3.out HB.out); (case side4 => exact HC166_3.out); rintro e w42 ⟨rfl, hb⟩; refine ⟨_, rfl, ?_⟩; replace BK158 := sd_ (bb_ BK158.out hb); replace HB := sd_ (below_step (bw1_ HB.out GE158.out) hb); (try clear hb)))
            go_roundg k3
            case measure => have := HJ15.out; have := HJ26.out; have := HK3.out; omega
            case rel => exact ⟨((x3_3 ++ (⟨#[40]⟩ : ByteArray)) ++ t167), (wrap64 (x4_3 + 1)), sm_, sm_, H', ⟨by have := HJ15.out; have := HJ26.out; have := HK3.out; omega⟩, ⟨by exact bz_ BK158.out⟩, ⟨bw1_ HB.out GE158.out⟩⟩
           rw [if_neg c40] at H
           exact absurd H (by simp)
          rw [if_neg c38] at H
          exact absurd H (by simp)
         rw [if_neg c37] at H
         exact absurd H (by simp)
        rw [if_neg c36] at H
        have c36b0 : (x4_3 == 0) = false := beq_eq_false_iff_ne.mpr c36
        have c36b1 : (x4_3 != 0) = true := bne_iff_ne.mpr c36
        by_cases c43 : x3_3.size + 1 ≤ 9223372036854775807
        ·rw [if_pos c43] at H
         have c43b0 := eq_true c43
         have c43b1 : decide (x3_3.size + 1 ≤ 9223372036854775807) = true := decide_eq_true c43
         try have c43b2 : (9223372036854775807 < x3_3.size + 1) = False := eq_false (Nat.not_lt.2 c43)
         by_cases c44 : 0 ≤ x4_3
         ·rw [if_pos c44] at H
          have c44b0 : decide (0 ≤ x4_3) = true := decide_eq_true c44
          clear c44
          replace H := Option.bind_eq_some_iff.mp H
          obtain ⟨t169, A450, H⟩ := H
          try dsimp only at H
          have A45 := sd_ A450
          clear A450
          by_cases c46 : (x3_3 ++ (⟨#[44]⟩ : ByteArray)).size + t169.size ≤ 9223372036854775807
          ·rw [if_pos c46] at H
           have c46b0 := eq_true c46
           have c46b1 : decide ((x3_3 ++ (⟨#[44]⟩ : ByteArray)).size + t169.size ≤ 9223372036854775807) = true := decide_eq_true c46
           try have c46b2 : (9223372036854775807 < (x3_3 ++ (⟨#[44]⟩ : ByteArray)).size + t169.size) = False := eq_false (Nat.not_lt.2 c46)
           have c46b3 := eq_false (Nat.not_lt.2 c46)
           simp only [ByteArray.size_append, show (⟨#[44]⟩ : ByteArray).size = 1 from rfl] at c46b3
           have H' := sd_ H
           clear H
           obtain ⟨hcz47_0, hcz47_1, hcz47_2, hcz47_3, hfz47_0, hfz47_1, hfz47_2, hfz47_3⟩ := bf4_ BK158.out
           have p168 : 0 ≤ (x4_3 : Int) := dt_
           have q168 : x4_3 < (l0_3.length : Int) := dt_
           obtain ⟨ad168, A168_2, c168_2, A168_3, c168_3, e168, hx168_0, hx168_1, hx168_2, hx168_3, hl168_2, hi168_2, hl168_3, hi168_3⟩ := at_T34 HR0_3.out x4_3 p168 q168
           cases e168
           replace hx168_0 := (HB.out.cell (World.block_lt_of_cell? w _ hx168_0)).trans hx168_0
           replace hx168_1 := (HB.out.cell (World.block_lt_of_cell? w _ hx168_1)).trans hx168_1
           replace hx168_2 := (HB.out.cell (World.block_lt_of_cell? w _ hx168_2)).trans hx168_2
           replace hx168_3 := (HB.out.cell (World.block_lt_of_cell? w _ hx168_3)).trans hx168_3
           have HR168_2 := sd_ hi168_2
           have HC168_2 := sd_ hl168_2
           clear hi168_2 hl168_2
           have HR168_3 := sd_ hi168_3
           have HC168_3 := sd_ hl168_3
           clear hi168_3 hl168_3
           replace p168 := eq_true p168
           replace q168 := eq_true q168
           go_wp2_with (first | ((with_reducible refine gate_callee (f := 23) rfl ?_); refine goesL_ (some 58) rfl rfl Tryd.func23 (by kernel_rfl) rfl #[.agg #[.int .i64 ((rd_T34 l0_3 x4_3).f0), .int .i64 ((rd_T34 l0_3 x4_3).f1), .slice A168_2 ((rd_T34 l0_3 x4_3).f2).length c168_2, .slice A168_3 ((rd_T34 l0_3 x4_3).f3).length c168_3]] rfl la_ ?_; (with_reducible refine (ih k3 (by have := HJ15.out; have := HJ26.out; have := HK3.out; omega) ((rd_T34 l0_3 x4_3).f0) ((rd_T34 l0_3 x4_3).f1) _ _ ((rd_T34 l0_3 x4_3).f2) _ _ ((rd_T34 l0_3 x4_3).f3) t169 _ ?side1 ?side2 ?side3 ?side4 A45.out).mono ?_); (case side1 => exact kc_ HR168_2.out HB.out); (case side2 => exact HC168_2.out); (case side3 => exact kc_ HR168_3.out HB.out); (case side4 => exact HC168_3.out); rintro e w48 ⟨rfl, hb⟩; refine ⟨_, rfl, ?_⟩; replace BK158 := sd_ (bb_ BK158.out hb); replace HB := sd_ (below_step (bw1_ HB.out GE158.out) hb); (try clear hb)))
           go_roundg k3
           case measure => have := HJ15.out; have := HJ26.out; have := HK3.out; omega
           case rel => exact ⟨((x3_3 ++ (⟨#[44]⟩ : ByteArray)) ++ t169), (wrap64 (x4_3 + 1)), sm_, sm_, H', ⟨by have := HJ15.out; have := HJ26.out; have := HK3.out; omega⟩, ⟨by exact bz_ BK158.out⟩, ⟨bw1_ HB.out GE158.out⟩⟩
          rw [if_neg c46] at H
          exact absurd H (by simp)
         rw [if_neg c44] at H
         exact absurd H (by simp)
        rw [if_neg c43] at H
        exact absurd H (by simp)
       rw [if_neg c35] at H
       have c35b0 : decide (x4_3 < (l0_3.length : Int)) = false := decide_eq_false c35
       clear c35
       by_cases c49 : x3_3.size + 1 ≤ 9223372036854775807
       ·rw [if_pos c49] at H
        have c49b0 := eq_true c49
        have c49b1 : decide (x3_3.size + 1 ≤ 9223372036854775807) = true := decide_eq_true c49
        try have c49b2 : (9223372036854775807 < x3_3.size + 1) = False := eq_false (Nat.not_lt.2 c49)
        obtain rfl := Option.some.inj H
        obtain ⟨hcz50_0, hcz50_1, hcz50_2, hcz50_3, hfz50_0, hfz50_1, hfz50_2, hfz50_3⟩ := bf4_ BK158.out
        go_wp2
        go_ret
        exact ⟨an_, bw1_ HB.out GE158.out⟩
       rw [if_neg c49] at H
       exact absurd H (by simp)


/-! ### spec_l2Many: function 55 -/
def spec_l2Many.f (a0 : Int) : Option (Int) := (spec_l1In.f a0 0 12).bind fun t116 => (if t116 = true then ((some (([0, 0, 2, 3, 2, 2, 1, 1, 3, 1, 2, 1, 2] : List Int) : List Int)).bind fun y117 => (if 0 ≤ a0 then (if a0 < (y117.length : Int) then (some (rd y117 a0)) else (none)) else (none))) else (some (-1)))
set_option maxHeartbeats 8000000 in
set_option maxRecDepth 100000 in
theorem spec_l2Many.calls (a0 : Int) (r : Int) (w : World) (h : spec_l2Many.f a0 = some r) :
  Calls Tryd.prog 55 #[.int .i64 a0] w fun e w' => e = .returned (.int .i64 r) ∧ Below w.heap.size w w' := by
 have HB := sd_ (Below.refl w.heap.size w)
 have H : ((spec_l1In.f a0 0 12).bind fun t116 => (if t116 = true then ((some (([0, 0, 2, 3, 2, 2, 1, 1, 3, 1, 2, 1, 2] : List Int) : List Int)).bind fun y117 => (if 0 ≤ a0 then (if a0 < (y117.length : Int) then (some (rd y117 a0)) else (none)) else (none))) else (some (-1)))) = some r := h
 clear h
 replace H := Option.bind_eq_some_iff.mp H
 obtain ⟨t116, A20, H⟩ := H
 try dsimp only at H
 have A2 := sd_ A20
 clear A20
 by_cases c3 : t116 = true
 ·subst c3
  have H1 : ((some (([0, 0, 2, 3, 2, 2, 1, 1, 3, 1, 2, 1, 2] : List Int) : List Int)).bind fun y117 => (if 0 ≤ a0 then (if a0 < (y117.length : Int) then (some (rd y117 a0)) else (none)) else (none))) = some r := by rw [if_pos rfl] at H; exact H
  clear H
  have H := H1
  clear H1
  obtain ⟨y117, hy117⟩ : ∃ y_ : List Int, y_ = (([0, 0, 2, 3, 2, 2, 1, 1, 3, 1, 2, 1, 2] : List Int)) := ⟨_, rfl⟩
  replace H : (if 0 ≤ a0 then (if a0 < (y117.length : Int) then (some (rd y117 a0)) else (none)) else (none)) = some r := by first | (rw [hy117]; with_reducible exact H) | (have H2_ := (Option.bind_some _ _).symm.trans H; rw [hy117]; with_reducible exact H2_) | (have H2_ := (Option.bind_some _ _).symm.trans H; with_reducible exact H2_) | with_reducible exact H | (rw [hy117]; exact H) | exact H
  have Ny117 := sd_ hy117
  clear hy117
  by_cases c4 : 0 ≤ a0
  ·rw [if_pos c4] at H
   have c4b0 : decide (0 ≤ a0) = true := decide_eq_true c4
   clear c4
   by_cases c5 : a0 < (y117.length : Int)
   ·rw [if_pos c5] at H
    have c5b0 : decide (a0 < (y117.length : Int)) = true := decide_eq_true c5
    clear c5
    obtain rfl := Option.some.inj H
    go_enter Tryd.func55, Tryd.ntmps55
    go_wp2_with (first | ((with_reducible refine gate_callee (f := 30) rfl ?_); refine goesL_ (some 4) rfl rfl Tryd.func30 (by kernel_rfl) rfl #[.int .i64 a0, .int .i64 0, .int .i64 12] rfl la_ ?_; (with_reducible refine (spec_l1In.calls a0 0 12 true _ A2.out).mono ?_); rintro e w' ⟨rfl, ⟨nd, rfl⟩⟩; refine ⟨_, rfl, ?_⟩) | ((with_reducible refine gate_dst (N := 6) rfl ?_); refine Kd.R_lit (Kd.int .i64) _ 3 ?hg (N := 6) ?hd (xs := ([0, 0, 2, 3, 2, 2, 1, 1, 3, 1, 2, 1, 2] : List Int)) (inner := [.int .i64 0, .int .i64 0, .int .i64 2, .int .i64 3, .int .i64 2, .int .i64 2, .int .i64 1, .int .i64 1, .int .i64 3, .int .i64 1, .int .i64 2, .int .i64 1, .int .i64 2]) (ok := fun _ => True) (okp := fun _ => True) ?hr ?hp (fun _ hk => hk) trivial (Below.refl _ _) (Nat.le_refl _) (by simp) ?_; (case hd => rfl); (case hg => rfl); (case hr => first | (go_simp; done) | (go_simp; rfl)); (case hp => exact (Reps.one (show Kd.M (Kd.int .i64) _ _ _ 0 [.int .i64 0] from rfl) (Reps.one (show Kd.M (Kd.int .i64) _ _ _ 0 [.int .i64 0] from rfl) (Reps.one (show Kd.M (Kd.int .i64) _ _ _ 2 [.int .i64 2] from rfl) (Reps.one (show Kd.M (Kd.int .i64) _ _ _ 3 [.int .i64 3] from rfl) (Reps.one (show Kd.M (Kd.int .i64) _ _ _ 2 [.int .i64 2] from rfl) (Reps.one (show Kd.M (Kd.int .i64) _ _ _ 2 [.int .i64 2] from rfl) (Reps.one (show Kd.M (Kd.int .i64) _ _ _ 1 [.int .i64 1] from rfl) (Reps.one (show Kd.M (Kd.int .i64) _ _ _ 1 [.int .i64 1] from rfl) (Reps.one (show Kd.M (Kd.int .i64) _ _ _ 3 [.int .i64 3] from rfl) (Reps.one (show Kd.M (Kd.int .i64) _ _ _ 1 [.int .i64 1] from rfl) (Reps.one (show Kd.M (Kd.int .i64) _ _ _ 2 [.int .i64 2] from rfl) (Reps.one (show Kd.M (Kd.int .i64) _ _ _ 1 [.int .i64 1] from rfl) (Reps.one (show Kd.M (Kd.int .i64) _ _ _ 2 [.int .i64 2] from rfl) (Reps.none _ _))))))))))))))); intro v118 w6 ho7 hb hg_ hnew_; clear hg_ hnew_; (first | rw [← Ny117.out] at ho7 | (simp only [Int.reduceToNat] at ho7; rw [← Ny117.out] at ho7)); have HO119 := sd_ (Kd.R_lower ho7 (below_size (bw0_ HB.out))); replace HB := sd_ (below_step (bw0_ HB.out) hb); clear hb ho7; obtain ⟨Ao8, co8, eo8⟩ := Kd.R_slice HO119.out; subst eo8; have p120 : 0 ≤ (a0 : Int) := dt_; have q120 : a0 < (y117.length : Int) := dt_; obtain ⟨ad120, e120, hx120_0⟩ := Kd.at_int (Kd.R_reads' HO119.out).2.2 a0 p120 q120; cases e120; replace p120 := eq_true p120; replace q120 := eq_true q120))
    go_ret
    exact ⟨an_, bw0_ HB.out⟩
   rw [if_neg c5] at H
   exact absurd H (by simp)
  rw [if_neg c4] at H
  exact absurd H (by simp)
 replace c3 := Bool.eq_false_iff.mpr c3
 subst c3
 have H1 : (some (-1)) = some r := by rw [if_neg (show ¬ (false = true) by decide)] at H; exact H
 clear H
 have H := H1
 clear H1
 obtain rfl := Option.some.inj H
 go_enter Tryd.func55, Tryd.ntmps55
 go_wp2_with (first | ((with_reducible refine gate_callee (f := 30) rfl ?_); refine goesL_ (some 4) rfl rfl Tryd.func30 (by kernel_rfl) rfl #[.int .i64 a0, .int .i64 0, .int .i64 12] rfl la_ ?_; (with_reducible refine (spec_l1In.calls a0 0 12 false _ A2.out).mono ?_); rintro e w' ⟨rfl, ⟨nd, rfl⟩⟩; refine ⟨_, rfl, ?_⟩))
 go_ret
 exact ⟨an_, bw0_ HB.out⟩


/-! ### spec_l2Graded: function 56 -/
mutual
def spec_l2Graded.l0 : Nat → List Int → Int → Bool → Int → Option (Bool)
 | 0, _, _, _, _ => none
 | k + 1, x0, x1, x2, x7 => if x7 < (x0.length : Int) then (if 0 ≤ x7 then ((spec_l2Kids.f k (rd x0 x7)).bind fun t122 => (if t122 > 0 then (spec_l2Graded.j1 k x0 x1 x2 x7 (decide ((rd x0 x7) > 2))) else (spec_l2Graded.j1 k x0 x1 x2 x7 false))) else (none)) else (some true)
def spec_l2Graded.j1 : Nat → List Int → Int → Bool → Int → Bool → Option (Bool)
 | 0, _, _, _, _, _ => none
 | k + 1, x0, x1, x2, x7, x27 => if x27 = true then (if 0 ≤ x7 then (if x7 < (x0.length : Int) then ((spec_l2Grade.f (rd x0 x7)).bind fun t125 => (if t125 ≥ x1 then (some false) else (if x2 = true then (if t125 < 0 then (some false) else (spec_l2Graded.l0 k x0 x1 x2 (wrap64 (x7 + 1)))) else (spec_l2Graded.l0 k x0 x1 x2 (wrap64 (x7 + 1)))))) else (none)) else (none)) else (spec_l2Graded.l0 k x0 x1 x2 (wrap64 (x7 + 1)))
end
def spec_l2Graded.f (k : Nat) (l0 : List Int) (a1 : Int) (a2 : Bool) : Option (Bool) := spec_l2Graded.l0 k l0 a1 a2 0
set_option maxHeartbeats 8000000 in
set_option maxRecDepth 100000 in
theorem spec_l2Graded.calls (k : Nat) (A0 : Option Addr) (c0 : Nat) (l0 : List Int) (a1 : Int) (a2 : Bool) (r : Bool) (w : World) (hr0 : Kd.C (Kd.int .i64) w A0 l0.length l0) (hc0 : l0.length ≤ c0) (h : spec_l2Graded.f k l0 a1 a2 = some r) :
  Calls Tryd.prog 56 #[.slice A0 l0.length c0, .int .i64 a1, .bool a2] w fun e w' => e = .returned (.bool r) ∧ Drawn0 w w' := by
 have HR0 := sd_ hr0
 have HC0 := sd_ hc0
 clear hr0 hc0
 have H : (spec_l2Graded.l0 k l0 a1 a2 0) = some r := h
 clear h
 have H' := sd_ H
 clear H
 go_enter Tryd.func56, Tryd.ntmps56
 go_wp2
 go_loopg [7] k (fun kq v7 w' => ∃ (x7_1 : Int), v7 = .int .i64 x7_1 ∧ Aside0 (spec_l2Graded.l0 kq l0 a1 a2 x7_1 = some r) ∧ Aside0 (kq ≤ k) ∧ Drawn0 w w')
 case atStart => exact ⟨(0), sm_, H', ⟨Nat.le_refl _⟩, by repeat (first | exact Drawn0.refl _ | apply Drawn0.step)⟩
 case round =>
  clear H'
  try clear p2
  obtain ⟨x7_1, rfl, HA, HK1, ⟨m1, rfl⟩⟩ := hrel
  cases gk with
  | zero => exact absurd HA.out (by simp [spec_l2Graded.l0])
  | succ k1 =>
   have H := HA.out
   clear HA
   simp only [spec_l2Graded.l0] at H
   by_cases c4 : x7_1 < (l0.length : Int)
   ·rw [if_pos c4] at H
    have c4b0 : decide (x7_1 < (l0.length : Int)) = true := decide_eq_true c4
    clear c4
    have HC5 := sd_ H
    clear H
    go_upto_region 4 with (fail)
    go_cut [27] (fun v27 wc => ∃ (kq : Nat) (x27_4 : Bool), v27 = .bool x27_4 ∧ Aside0 (spec_l2Graded.j1 kq l0 a1 a2 x7_1 x27_4 = some r) ∧ Aside0 (kq ≤ k1) ∧ Drawn0 w wc)
    case first =>
     have H := HC5.out
     clear HC5
     by_cases c6 : 0 ≤ x7_1
     ·rw [if_pos c6] at H
      have c6b0 : decide (0 ≤ x7_1) = true := decide_eq_true c6
      clear c6
      (first | rw [c6b0] | (simp only [i64_w, i32_w]; rw [c6b0]) | skip)
      replace H := Option.bind_eq_some_iff.mp H
      obtain ⟨t122, A70, H⟩ := H
      try dsimp only at H
      have A7 := sd_ A70
      clear A70
      by_cases c8 : t122 > 0
      ·rw [if_pos c8] at H
       have c8b0 : decide (0 < t122) = true := decide_eq_true c8
       clear c8
       have H' := sd_ H
       clear H
       have p121 : 0 ≤ (x7_1 : Int) := dt_
       have q121 : x7_1 < (l0.length : Int) := dt_
       obtain ⟨ad121, e121, hx121_0⟩ := Kd.at_int HR0.out x7_1 p121 q121
       cases e121
       replace p121 := eq_true p121
       replace q121 := eq_true q121
       go_wp2_with (first | ((with_reducible refine gate_callee (f := 45) rfl ?_); refine goesL_ (some 19) rfl rfl Tryd.func45 (by kernel_rfl) rfl #[.int .i64 (rd l0 x7_1)] rfl la_ ?_; (with_reducible refine (spec_l2Kids.calls k1 (rd l0 x7_1) t122 _ A7.out).mono ?_); rintro e w' ⟨rfl, ⟨nd, rfl⟩⟩; refine ⟨_, rfl, ?_⟩; have p123 : 0 ≤ (x7_1 : Int) := dt_; have q123 : x7_1 < (l0.length : Int) := dt_; obtain ⟨ad123, e123, hx123_0⟩ := Kd.at_int HR0.out x7_1 p123 q123; obtain rfl : ad121 = ad123 := (by injection e123); replace p123 := eq_true p123; replace q123 := eq_true q123))
       go_meet
       case rel => exact ⟨_, (decide ((rd l0 x7_1) > 2)), sm_, H', ⟨by have := HK1.out; first | omega | exact Nat.le_refl _⟩, by repeat (first | exact Drawn0.refl _ | apply Drawn0.step)⟩
      rw [if_neg c8] at H
      have c8b0 : decide (0 < t122) = false := decide_eq_false c8
      clear c8
      have H' := sd_ H
      clear H
      have p121 : 0 ≤ (x7_1 : Int) := dt_
      have q121 : x7_1 < (l0.length : Int) := dt_
      obtain ⟨ad121, e121, hx121_0⟩ := Kd.at_int HR0.out x7_1 p121 q121
      cases e121
      replace p121 := eq_true p121
      replace q121 := eq_true q121
      go_wp2_with (first | ((with_reducible refine gate_callee (f := 45) rfl ?_); refine goesL_ (some 19) rfl rfl Tryd.func45 (by kernel_rfl) rfl #[.int .i64 (rd l0 x7_1)] rfl la_ ?_; (with_reducible refine (spec_l2Kids.calls k1 (rd l0 x7_1) t122 _ A7.out).mono ?_); rintro e w' ⟨rfl, ⟨nd, rfl⟩⟩; refine ⟨_, rfl, ?_⟩))
      go_meet
      case rel => exact ⟨_, (false), sm_, H', ⟨by have := HK1.out; first | omega | exact Nat.le_refl _⟩, by repeat (first | exact Drawn0.refl _ | apply Drawn0.step)⟩
     rw [if_neg c6] at H
     exact absurd H (by simp)
    case rest =>
     clear HC5
     try clear p2
     try clear c4
     try clear c4b0
     try clear c5
     try clear p2
     obtain ⟨kq, x27_4, rfl, HA, HJ4, ⟨mc4, rfl⟩⟩ := hcut
     cases kq with
     | zero => exact absurd HA.out (by simp [spec_l2Graded.j1])
     | succ kj4 =>
      have H := HA.out
      clear HA
      simp only [spec_l2Graded.j1] at H
      by_cases c9 : x27_4 = true
      ·subst c9
       have H1 : (if 0 ≤ x7_1 then (if x7_1 < (l0.length : Int) then ((spec_l2Grade.f (rd l0 x7_1)).bind fun t125 => (if t125 ≥ a1 then (some false) else (if a2 = true then (if t125 < 0 then (some false) else (spec_l2Graded.l0 kj4 l0 a1 a2 (wrap64 (x7_1 + 1)))) else (spec_l2Graded.l0 kj4 l0 a1 a2 (wrap64 (x7_1 + 1)))))) else (none)) else (none)) = some r := by rw [if_pos rfl] at H; exact H
       clear H
       have H := H1
       clear H1
       by_cases c10 : 0 ≤ x7_1
       ·rw [if_pos c10] at H
        have c10b0 : decide (0 ≤ x7_1) = true := decide_eq_true c10
        clear c10
        by_cases c11 : x7_1 < (l0.length : Int)
        ·rw [if_pos c11] at H
         have c11b0 : decide (x7_1 < (l0.length : Int)) = true := decide_eq_true c11
         clear c11
         replace H := Option.bind_eq_some_iff.mp H
         obtain ⟨t125, A120, H⟩ := H
         try dsimp only at H
         have A12 := sd_ A120
         clear A120
         by_cases c13 : t125 ≥ a1
         ·rw [if_pos c13] at H
          have c13b0 : decide (a1 ≤ t125) = true := decide_eq_true c13
          clear c13
          obtain rfl := Option.some.inj H
          have p124 : 0 ≤ (x7_1 : Int) := dt_
          have q124 : x7_1 < (l0.length : Int) := dt_
          obtain ⟨ad124, e124, hx124_0⟩ := Kd.at_int HR0.out x7_1 p124 q124
          cases e124
          replace p124 := eq_true p124
          replace q124 := eq_true q124
          go_wp2_with (first | ((with_reducible refine gate_callee (f := 17) rfl ?_); refine goesL_ (some 32) rfl rfl Tryd.func17 (by kernel_rfl) rfl #[.int .i64 (rd l0 x7_1)] rfl la_ ?_; (with_reducible refine (spec_l2Grade.calls (rd l0 x7_1) t125 _ A12.out).mono ?_); rintro e w' ⟨rfl, ⟨nd, rfl⟩⟩; refine ⟨_, rfl, ?_⟩))
          go_ret
          exact ⟨by first | rfl | (simp; done) | (simp [*]; done), by repeat (first | exact Drawn0.refl _ | apply Drawn0.step)⟩
         rw [if_neg c13] at H
         have c13b0 : decide (a1 ≤ t125) = false := decide_eq_false c13
         clear c13
         by_cases c14 : a2 = true
         ·subst c14
          have H1 : (if t125 < 0 then (some false) else (spec_l2Graded.l0 kj4 l0 a1 true (wrap64 (x7_1 + 1)))) = some r := by rw [if_pos rfl] at H; exact H
          clear H
          have H := H1
          clear H1
          by_cases c15 : t125 < 0
          ·rw [if_pos c15] at H
           have c15b0 : decide (t125 < 0) = true := decide_eq_true c15
           clear c15
           obtain rfl := Option.some.inj H
           have p124 : 0 ≤ (x7_1 : Int) := dt_
           have q124 : x7_1 < (l0.length : Int) := dt_
           obtain ⟨ad124, e124, hx124_0⟩ := Kd.at_int HR0.out x7_1 p124 q124
           cases e124
           replace p124 := eq_true p124
           replace q124 := eq_true q124
           go_wp2_with (first | ((with_reducible refine gate_callee (f := 17) rfl ?_); refine goesL_ (some 32) rfl rfl Tryd.func17 (by kernel_rfl) rfl #[.int .i64 (rd l0 x7_1)] rfl la_ ?_; (with_reducible refine (spec_l2Grade.calls (rd l0 x7_1) t125 _ A12.out).mono ?_); rintro e w' ⟨rfl, ⟨nd, rfl⟩⟩; refine ⟨_, rfl, ?_⟩))
           go_ret
           exact ⟨by first | rfl | (simp; done) | (simp [*]; done), by repeat (first | exact Drawn0.refl _ | apply Drawn0.step)⟩
          rw [if_neg c15] at H
          have c15b0 : decide (t125 < 0) = false := decide_eq_false c15
          clear c15
          have H' := sd_ H
          clear H
          have p124 : 0 ≤ (x7_1 : Int) := dt_
          have q124 : x7_1 < (l0.length : Int) := dt_
          obtain ⟨ad124, e124, hx124_0⟩ := Kd.at_int HR0.out x7_1 p124 q124
          cases e124
          replace p124 := eq_true p124
          replace q124 := eq_true q124
          go_wp2_with (first | ((with_reducible refine gate_callee (f := 17) rfl ?_); refine goesL_ (some 32) rfl rfl Tryd.func17 (by kernel_rfl) rfl #[.int .i64 (rd l0 x7_1)] rfl la_ ?_; (with_reducible refine (spec_l2Grade.calls (rd l0 x7_1) t125 _ A12.out).mono ?_); rintro e w' ⟨rfl, ⟨nd, rfl⟩⟩; refine ⟨_, rfl, ?_⟩))
          go_roundg kj4
          case measure => have := HK1.out; have := HJ4.out; omega
          case rel => exact ⟨(wrap64 (x7_1 + 1)), sm_, H', ⟨by have := HK1.out; have := HJ4.out; omega⟩, by repeat (first | exact Drawn0.refl _ | apply Drawn0.step)⟩
         replace c14 := Bool.eq_false_iff.mpr c14
         subst c14
         have H1 : (spec_l2Graded.l0 kj4 l0 a1 false (wrap64 (x7_1 + 1))) = some r := by rw [if_neg (show ¬ (false = true) by decide)] at H; exact H
         clear H
         have H := H1
         clear H1
         have H' := sd_ H
         clear H
         have p124 : 0 ≤ (x7_1 : Int) := dt_
         have q124 : x7_1 < (l0.length : Int) := dt_
         obtain ⟨ad124, e124, hx124_0⟩ := Kd.at_int HR0.out x7_1 p124 q124
         cases e124
         replace p124 := eq_true p124
         replace q124 := eq_true q124
         go_wp2_with (first | ((with_reducible refine gate_callee (f := 17) rfl ?_); refine goesL_ (some 32) rfl rfl Tryd.func17 (by kernel_rfl) rfl #[.int .i64 (rd l0 x7_1)] rfl la_ ?_; (with_reducible refine (spec_l2Grade.calls (rd l0 x7_1) t125 _ A12.out).mono ?_); rintro e w' ⟨rfl, ⟨nd, rfl⟩⟩; refine ⟨_, rfl, ?_⟩))
         go_roundg kj4
         case measure => have := HK1.out; have := HJ4.out; omega
         case rel => exact ⟨(wrap64 (x7_1 + 1)), sm_, H', ⟨by have := HK1.out; have := HJ4.out; omega⟩, by repeat (first | exact Drawn0.refl _ | apply Drawn0.step)⟩
        rw [if_neg c11] at H
        exact absurd H (by simp)
       rw [if_neg c10] at H
       exact absurd H (by simp)
      replace c9 := Bool.eq_false_iff.mpr c9
      subst c9
      have H1 : (spec_l2Graded.l0 kj4 l0 a1 a2 (wrap64 (x7_1 + 1))) = some r := by rw [if_neg (show ¬ (false = true) by decide)] at H; exact H
      clear H
      have H := H1
      clear H1
      have H' := sd_ H
      clear H
      go_wp2
      go_roundg kj4
      case measure => have := HK1.out; have := HJ4.out; omega
      case rel => exact ⟨(wrap64 (x7_1 + 1)), sm_, H', ⟨by have := HK1.out; have := HJ4.out; omega⟩, by repeat (first | exact Drawn0.refl _ | apply Drawn0.step)⟩
   rw [if_neg c4] at H
   have c4b0 : decide (x7_1 < (l0.length : Int)) = false := decide_eq_false c4
   clear c4
   obtain rfl := Option.some.inj H
   go_wp2
   go_ret
   exact ⟨by first | rfl | (simp; done) | (simp [*]; done), by repeat (first | exact Drawn0.refl _ | apply Drawn0.step)⟩


/-! ### impl_adds: function 57 -/
mutual
def impl_adds.j0 : Nat → Int → Int → Bool → Option (Int)
 | 0, _, _, _ => none
 | k + 1, x0, x1, x5 => if x5 = true then (some 2) else (if x0 = 8 then (impl_adds.j1 k x0 x1 (decide (x1 > 0))) else (impl_adds.j1 k x0 x1 false))
def impl_adds.j1 : Nat → Int → Int → Bool → Option (Int)
 | 0, _, _, _ => none
 | k + 1, x0, x1, x12 => if x12 = true then (some 1) else (if x0 = 9 then (some 1) else (if x0 = 12 then (if x1 = 1 then (some 1) else (some 0)) else (some 0)))
end
def impl_adds.f (k : Nat) (a0 : Int) (a1 : Int) : Option (Int) := if a0 = 5 then (impl_adds.j0 k a0 a1 (a1 == 1)) else (impl_adds.j0 k a0 a1 false)
set_option maxHeartbeats 8000000 in
set_option maxRecDepth 100000 in
theorem impl_adds.calls (k : Nat) (a0 : Int) (a1 : Int) (r : Int) (w : World) (h : impl_adds.f k a0 a1 = some r) :
  Calls Tryd.prog 57 #[.int .i64 a0, .int .i64 a1] w fun e w' => e = .returned (.int .i64 r) ∧ Drawn0 w w' := by
 have H : (if a0 = 5 then (impl_adds.j0 k a0 a1 (a1 == 1)) else (impl_adds.j0 k a0 a1 false)) = some r := h
 clear h
 have HC3 := sd_ H
 clear H
 go_enter Tryd.func57, Tryd.ntmps57
 go_upto_region 1 with (fail)
 go_cut [5] (fun v5 wc => ∃ (kq : Nat) (x5_2 : Bool), v5 = .bool x5_2 ∧ Aside0 (impl_adds.j0 kq a0 a1 x5_2 = some r) ∧ Aside0 (kq ≤ k) ∧ Drawn0 w wc)
 case first =>
  have H := HC3.out
  clear HC3
  by_cases c4 : a0 = 5
  ·rw [if_pos c4] at H
   have c4b0 : (a0 == 5) = true := beq_iff_eq.mpr c4
   have c4b1 : (a0 != 5) = false := bne_eq_false_iff_eq.mpr c4
   clear c4
   (first | rw [c4b0] | (simp only [i64_w, i32_w]; rw [c4b0]) | skip)
   have H' := sd_ H
   clear H
   go_wp2
   go_meet
   case rel => exact ⟨_, ((a1 == 1)), sm_, H', ⟨by first | omega | exact Nat.le_refl _⟩, by repeat (first | exact Drawn0.refl _ | apply Drawn0.step)⟩
  rw [if_neg c4] at H
  have c4b0 : (a0 == 5) = false := beq_eq_false_iff_ne.mpr c4
  have c4b1 : (a0 != 5) = true := bne_iff_ne.mpr c4
  (first | rw [c4b0] | (simp only [i64_w, i32_w]; rw [c4b0]) | skip)
  have H' := sd_ H
  clear H
  go_wp2
  go_meet
  case rel => exact ⟨_, (false), sm_, H', ⟨by first | omega | exact Nat.le_refl _⟩, by repeat (first | exact Drawn0.refl _ | apply Drawn0.step)⟩
 case rest =>
  clear HC3
  obtain ⟨kq, x5_2, rfl, HA, HJ2, ⟨mc2, rfl⟩⟩ := hcut
  cases kq with
  | zero => exact absurd HA.out (by simp [impl_adds.j0])
  | succ kj2 =>
   have H := HA.out
   clear HA
   simp only [impl_adds.j0] at H
   by_cases c5 : x5_2 = true
   ·subst c5
    have H1 : (some 2) = some r := by rw [if_pos rfl] at H; exact H
    clear H
    have H := H1
    clear H1
    obtain rfl := Option.some.inj H
    go_wp2
    go_ret
    exact ⟨by first | rfl | (simp; done) | (simp [*]; done), by repeat (first | exact Drawn0.refl _ | apply Drawn0.step)⟩
   replace c5 := Bool.eq_false_iff.mpr c5
   subst c5
   have H1 : (if a0 = 8 then (impl_adds.j1 kj2 a0 a1 (decide (a1 > 0))) else (impl_adds.j1 kj2 a0 a1 false)) = some r := by rw [if_neg (show ¬ (false = true) by decide)] at H; exact H
   clear H
   have H := H1
   clear H1
   have HC6 := sd_ H
   clear H
   go_upto_region 3 with (fail)
   go_cut [12] (fun v12 wc => ∃ (kq : Nat) (x12_5 : Bool), v12 = .bool x12_5 ∧ Aside0 (impl_adds.j1 kq a0 a1 x12_5 = some r) ∧ Aside0 (kq ≤ kj2) ∧ Drawn0 w wc)
   case first =>
    have H := HC6.out
    clear HC6
    by_cases c7 : a0 = 8
    ·rw [if_pos c7] at H
     have c7b0 : (a0 == 8) = true := beq_iff_eq.mpr c7
     have c7b1 : (a0 != 8) = false := bne_eq_false_iff_eq.mpr c7
     clear c7
     (first | rw [c7b0] | (simp only [i64_w, i32_w]; rw [c7b0]) | skip)
     have H' := sd_ H
     clear H
     go_wp2
     go_meet
     case rel => exact ⟨_, (decide (a1 > 0)), sm_, H', ⟨by have := HJ2.out; first | omega | exact Nat.le_refl _⟩, by repeat (first | exact Drawn0.refl _ | apply Drawn0.step)⟩
    rw [if_neg c7] at H
    have c7b0 : (a0 == 8) = false := beq_eq_false_iff_ne.mpr c7
    have c7b1 : (a0 != 8) = true := bne_iff_ne.mpr c7
    (first | rw [c7b0] | (simp only [i64_w, i32_w]; rw [c7b0]) | skip)
    have H' := sd_ H
    clear H
    go_wp2
    go_meet
    case rel => exact ⟨_, (false), sm_, H', ⟨by have := HJ2.out; first | omega | exact Nat.le_refl _⟩, by repeat (first | exact Drawn0.refl _ | apply Drawn0.step)⟩
   case rest =>
    clear HC6
    try clear c2
    try clear c5
    obtain ⟨kq, x12_5, rfl, HA, HJ5, ⟨mc5, rfl⟩⟩ := hcut
    cases kq with
    | zero => exact absurd HA.out (by simp [impl_adds.j1])
    | succ kj5 =>
     have H := HA.out
     clear HA
     simp only [impl_adds.j1] at H
     by_cases c8 : x12_5 = true
     ·subst c8
      have H1 : (some 1) = some r := by rw [if_pos rfl] at H; exact H
      clear H
      have H := H1
      clear H1
      obtain rfl := Option.some.inj H
      go_wp2
      go_ret
      exact ⟨by first | rfl | (simp; done) | (simp [*]; done), by repeat (first | exact Drawn0.refl _ | apply Drawn0.step)⟩
     replace c8 := Bool.eq_false_iff.mpr c8
     subst c8
     have H1 : (if a0 = 9 then (some 1) else (if a0 = 12 then (if a1 = 1 then (some 1) else (some 0)) else (some 0))) = some r := by rw [if_neg (show ¬ (false = true) by decide)] at H; exact H
     clear H
     have H := H1
     clear H1
     by_cases c9 : a0 = 9
     ·rw [if_pos c9] at H
      have c9b0 : (a0 == 9) = true := beq_iff_eq.mpr c9
      have c9b1 : (a0 != 9) = false := bne_eq_false_iff_eq.mpr c9
      clear c9
      obtain rfl := Option.some.inj H
      go_wp2
      go_ret
      exact ⟨by first | rfl | (simp; done) | (simp [*]; done), by repeat (first | exact Drawn0.refl _ | apply Drawn0.step)⟩
     rw [if_neg c9] at H
     have c9b0 : (a0 == 9) = false := beq_eq_false_iff_ne.mpr c9
     have c9b1 : (a0 != 9) = true := bne_iff_ne.mpr c9
     by_cases c10 : a0 = 12
     ·rw [if_pos c10] at H
      have c10b0 : (a0 == 12) = true := beq_iff_eq.mpr c10
      have c10b1 : (a0 != 12) = false := bne_eq_false_iff_eq.mpr c10
      clear c10
      by_cases c11 : a1 = 1
      ·rw [if_pos c11] at H
       have c11b0 : (a1 == 1) = true := beq_iff_eq.mpr c11
       have c11b1 : (a1 != 1) = false := bne_eq_false_iff_eq.mpr c11
       clear c11
       obtain rfl := Option.some.inj H
       go_wp2
       go_ret
       exact ⟨by first | rfl | (simp; done) | (simp [*]; done), by repeat (first | exact Drawn0.refl _ | apply Drawn0.step)⟩
      rw [if_neg c11] at H
      have c11b0 : (a1 == 1) = false := beq_eq_false_iff_ne.mpr c11
      have c11b1 : (a1 != 1) = true := bne_iff_ne.mpr c11
      obtain rfl := Option.some.inj H
      go_wp2
      go_ret
      exact ⟨by first | rfl | (simp; done) | (simp [*]; done), by repeat (first | exact Drawn0.refl _ | apply Drawn0.step)⟩
     rw [if_neg c10] at H
     have c10b0 : (a0 == 12) = false := beq_eq_false_iff_ne.mpr c10
     have c10b1 : (a0 != 12) = true := bne_iff_ne.mpr c10
     obtain rfl := Option.some.inj H
     go_wp2
     go_ret
     exact ⟨by first | rfl | (simp; done) | (simp [*]; done), by repeat (first | exact Drawn0.refl _ | apply Drawn0.step)⟩

end Go.Proofs.YtlhiacnmcckjgaaDoor.P
end
