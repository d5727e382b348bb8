-- Several texts in one (wip/tools/merge.py).
import Derived.Test.YtjjkagnbdfofbaaM2
import Derived.Test.YtjjkagnbdfofbaaM6
section
namespace Go.Proofs.Ytjjkagnbdfofbaa.P
open Go.RowKit Go.Proofs.YtjjkagnbdfofbaaW.PrintWords Go.Proofs.YtjjkagnbdfofbaaW.PrintLast Go.Proofs.YtjjkagnbdfofbaaW.PrintMore
attribute [local go_sem] max2_int min2_int max_two min_two
set_option linter.unusedVariables false
set_option linter.unusedSimpArgs false

mutual
def spec_l1Tables.j0 : Nat → Bool → Int → List Int → List Int → List Bool → Option (Bool)
 | 0, _, _, _, _, _ => none
 | k + 1, x40, J2, J3, J4, J5 => if x40 = true then (some false) else (spec_l1Tables.l0 k 0 J2 J3 J4 J5)
def spec_l1Tables.l0 : Nat → Int → Int → List Int → List Int → List Bool → Option (Bool)
 | 0, _, _, _, _, _ => none
 | k + 1, x3, J2, J3, J4, J5 => if x3 < (J3.length : Int) then (if 0 ≤ x3 then ((spec_l1In.f (rd J3 x3) 0 (wrap64 (J2 - 1))).bind fun J9 => (if J9 = true then (if x3 < (J4.length : Int) then ((spec_l1In.f (rd J4 x3) 0 (wrap64 (J2 - 1))).bind fun K0 => (if K0 = true then (spec_l1Tables.l0 k (wrap64 (x3 + 1)) J2 J3 J4 J5) else (some false))) else (none)) else (some false))) else (none)) else (some true)
end
def spec_l1Tables.f (k : Nat) (a0_0 : Int) (l0_1 : List Int) (l0_2 : List Int) (l0_3 : List Bool) : Option (Bool) := (spec_l1In.f a0_0 2 16).bind fun J6 => (if J6 = true then (if (l0_1.length : Int) = (wrap64 (a0_0 * a0_0)) then (if (l0_2.length : Int) = (wrap64 (a0_0 * a0_0)) then (spec_l1Tables.j0 k ((l0_3.length : Int) != (wrap64 (a0_0 * a0_0))) a0_0 l0_1 l0_2 l0_3) else (spec_l1Tables.j0 k true a0_0 l0_1 l0_2 l0_3)) else (spec_l1Tables.j0 k true a0_0 l0_1 l0_2 l0_3)) else (spec_l1Tables.j0 k true a0_0 l0_1 l0_2 l0_3))
set_option maxHeartbeats 8000000 in
set_option maxRecDepth 100000 in
theorem spec_l1Tables.calls (k : Nat) (a0_0 : Int) (A0_1 : Option Addr) (c0_1 : Nat) (l0_1 : List Int) (A0_2 : Option Addr) (c0_2 : Nat) (l0_2 : List Int) (A0_3 : Option Addr) (c0_3 : Nat) (l0_3 : List Bool) (r : Bool) (w : World) (hr0_1 : Kd.C (Kd.int .i64) w A0_1 l0_1.length l0_1) (hc0_1 : l0_1.length ≤ c0_1) (hr0_2 : Kd.C (Kd.int .i64) w A0_2 l0_2.length l0_2) (hc0_2 : l0_2.length ≤ c0_2) (hr0_3 : Kd.C Kd.bool w A0_3 l0_3.length l0_3) (hc0_3 : l0_3.length ≤ c0_3) (h : spec_l1Tables.f k a0_0 l0_1 l0_2 l0_3 = some r) :
  Calls Try.prog 63 #[.agg #[.int .i64 a0_0, .slice A0_1 l0_1.length c0_1, .slice A0_2 l0_2.length c0_2, .slice A0_3 l0_3.length c0_3]] w fun e w' => e = .returned (.bool r) ∧ Below w.heap.size w w' := by
 have hu27 := Try.underlying27; have HR0_1 := sd_ hr0_1; have HC0_1 := sd_ hc0_1; clear hr0_1 hc0_1; have HR0_2 := sd_ hr0_2; have HC0_2 := sd_ hc0_2; clear hr0_2 hc0_2; have HR0_3 := sd_ hr0_3; have HC0_3 := sd_ hc0_3; clear hr0_3 hc0_3; have HB := sd_ (Below.refl w.heap.size w); have H : ((spec_l1In.f a0_0 2 16).bind fun J6 => (if J6 = true then (if (l0_1.length : Int) = (wrap64 (a0_0 * a0_0)) then (if (l0_2.length : Int) = (wrap64 (a0_0 * a0_0)) then (spec_l1Tables.j0 k ((l0_3.length : Int) != (wrap64 (a0_0 * a0_0))) a0_0 l0_1 l0_2 l0_3) else (spec_l1Tables.j0 k true a0_0 l0_1 l0_2 l0_3)) else (spec_l1Tables.j0 k true a0_0 l0_1 l0_2 l0_3)) else (spec_l1Tables.j0 k true a0_0 l0_1 l0_2 l0_3))) = some r := h; clear h; have HC2 := sd_ H; clear H; go_enter Try.func63, Try.ntmps63; go_upto_region 1 with (first | ((with_reducible refine gate_dst (N := 1) rfl ?_); (try (refine gate_guard (by rfl) ?_; dsimp only)); refine bx_ (N := 1) (cs := #[.int .i64 a0_0, .slice A0_1 l0_1.length c0_1, .slice A0_2 l0_2.length c0_2, .slice A0_3 l0_3.length c0_3]) (t := 27) ?_; intro J7 hg w3 hbox hb; have J0 := sd_ (hbox); have K3 := sd_ (gs_ hg (bw0_ HB.out)); have J1 := sd_ (gs_ hg (bw0_ HB.out)); replace HB := sd_ (below_step (bw0_ HB.out) hb); clear hb hbox hg)); (try simp only [Act.put, List.setIfInBounds_toArray, List.set_cons_zero, List.set_cons_succ])
 go_cut [40] (fun v40 wc => ∃ (kq : Nat) (x40_1 : Bool), v40 = .bool x40_1 ∧ Aside0 (spec_l1Tables.j0 kq x40_1 a0_0 l0_1 l0_2 l0_3 = some r) ∧ Aside0 (kq ≤ k) ∧ Aside0 (wc.heap[J7]? = some (.cells #[.int .i64 a0_0, (.slice A0_1 l0_1.length c0_1), (.slice A0_2 l0_2.length c0_2), (.slice A0_3 l0_3.length c0_3)] 27 (0, 0))) ∧ Aside0 (Below w.heap.size w wc))
 case first =>
  have H := HC2.out; clear HC2
  revert H; refine ob_ fun J6 A4 H => ?_
  obtain rfl | rfl := bt_ J6
  ·replace H := it_ H; by_cases c6 : (l0_1.length : Int) = (wrap64 (a0_0 * a0_0))
   ·rw [if_pos c6] at H; have c6b0 : ((l0_1.length : Int) == (wrap64 (a0_0 * a0_0))) = true := beq_iff_eq.mpr c6; have c6b1 : ((l0_1.length : Int) != (wrap64 (a0_0 * a0_0))) = false := bne_eq_false_iff_eq.mpr c6; clear c6; (first | rw [c6b0] | (simp only [i64_w, i32_w]; rw [c6b0]) | skip); by_cases c7 : (l0_2.length : Int) = (wrap64 (a0_0 * a0_0))
    ·rw [if_pos c7] at H; have c7b0 : ((l0_2.length : Int) == (wrap64 (a0_0 * a0_0))) = true := beq_iff_eq.mpr c7; have c7b1 : ((l0_2.length : Int) != (wrap64 (a0_0 * a0_0))) = false := bne_eq_false_iff_eq.mpr c7; clear c7; have H' := sd_ H; clear H; obtain ⟨W9, V0, V1, V2, V3, V4, V5, V6⟩ := bf4_ J0.out; go_wp2_with (first | ((with_reducible refine gate_callee (f := 45) rfl ?_); refine goesL_ (some 6) rfl rfl Try.func45 (by kernel_rfl) rfl #[.int .i64 a0_0, .int .i64 2, .int .i64 16] rfl la_ ?_; (with_reducible refine (spec_l1In.calls a0_0 2 16 true _ A4.out).mono ?_); rintro e w' ⟨rfl, ⟨nd, rfl⟩⟩; refine ⟨_, rfl, ?_⟩)); go_meet
     case rel => exact ⟨_, (((l0_3.length : Int) != (wrap64 (a0_0 * a0_0)))), sm_, H', ⟨by first | omega | exact Nat.le_refl _⟩, ⟨bz_ J0.out⟩, ⟨bw1_ HB.out J1.out⟩⟩
    rw [if_neg c7] at H; have c7b0 : ((l0_2.length : Int) == (wrap64 (a0_0 * a0_0))) = false := beq_eq_false_iff_ne.mpr c7; have c7b1 : ((l0_2.length : Int) != (wrap64 (a0_0 * a0_0))) = true := bne_iff_ne.mpr c7; have H' := sd_ H; clear H; obtain ⟨V7, V8, V9, U0, U1, U2, U3, U4⟩ := bf4_ J0.out; go_wp2_with (first | ((with_reducible refine gate_callee (f := 45) rfl ?_); refine goesL_ (some 6) rfl rfl Try.func45 (by kernel_rfl) rfl #[.int .i64 a0_0, .int .i64 2, .int .i64 16] rfl la_ ?_; (with_reducible refine (spec_l1In.calls a0_0 2 16 true _ A4.out).mono ?_); rintro e w' ⟨rfl, ⟨nd, rfl⟩⟩; refine ⟨_, rfl, ?_⟩)); go_meet
    case rel => exact ⟨_, (true), sm_, H', ⟨by first | omega | exact Nat.le_refl _⟩, ⟨bz_ J0.out⟩, ⟨bw1_ HB.out J1.out⟩⟩
   rw [if_neg c6] at H; have c6b0 : ((l0_1.length : Int) == (wrap64 (a0_0 * a0_0))) = false := beq_eq_false_iff_ne.mpr c6; have c6b1 : ((l0_1.length : Int) != (wrap64 (a0_0 * a0_0))) = true := bne_iff_ne.mpr c6; (first | rw [c6b0] | (simp only [i64_w, i32_w]; rw [c6b0]) | skip); have H' := sd_ H; clear H; obtain ⟨K5, K6, K7, K8, K9, Q0, Q1, Q2⟩ := bf4_ J0.out; go_wp2_with (first | ((with_reducible refine gate_callee (f := 45) rfl ?_); refine goesL_ (some 6) rfl rfl Try.func45 (by kernel_rfl) rfl #[.int .i64 a0_0, .int .i64 2, .int .i64 16] rfl la_ ?_; (with_reducible refine (spec_l1In.calls a0_0 2 16 true _ A4.out).mono ?_); rintro e w' ⟨rfl, ⟨nd, rfl⟩⟩; refine ⟨_, rfl, ?_⟩)); go_meet
   case rel => exact ⟨_, (true), sm_, H', ⟨by first | omega | exact Nat.le_refl _⟩, ⟨bz_ J0.out⟩, ⟨bw1_ HB.out J1.out⟩⟩
  replace H := if_ H; have H' := sd_ H; clear H; obtain ⟨Q3, Q4, Q5, Q6, Q7, Q8, Q9, Z0⟩ := bf4_ J0.out; go_wp2_with (first | ((with_reducible refine gate_callee (f := 45) rfl ?_); refine goesL_ (some 6) rfl rfl Try.func45 (by kernel_rfl) rfl #[.int .i64 a0_0, .int .i64 2, .int .i64 16] rfl la_ ?_; (with_reducible refine (spec_l1In.calls a0_0 2 16 false _ A4.out).mono ?_); rintro e w' ⟨rfl, ⟨nd, rfl⟩⟩; refine ⟨_, rfl, ?_⟩)); go_meet
  case rel => exact ⟨_, (true), sm_, H', ⟨by first | omega | exact Nat.le_refl _⟩, ⟨bz_ J0.out⟩, ⟨bw1_ HB.out J1.out⟩⟩
 case rest =>
  clear HC2; (try clear c6); (try clear p6); obtain ⟨kq, x40_1, rfl, HA, HJ1, J0, HB⟩ := hcut
  cases kq with
  | zero => exact absurd HA.out (by simp [spec_l1Tables.j0])
  | succ kj1 =>
   have H := HA.out; clear HA; simp only [spec_l1Tables.j0] at H; obtain rfl | rfl := bt_ x40_1
   ·replace H := it_ H; obtain rfl := Option.some.inj H; go_wp2; go_ret; exact ⟨an_, bw1_ HB.out J1.out⟩
   replace H := if_ H; have H' := sd_ H; clear H; go_wp2
   go_loopg [3] kj1 (fun kq v3 w' => ∃ (x3_2 : Int), v3 = .int .i64 x3_2 ∧ Aside0 (spec_l1Tables.l0 kq x3_2 a0_0 l0_1 l0_2 l0_3 = some r) ∧ Aside0 (kq ≤ kj1) ∧ Aside0 (w'.heap[J7]? = some (.cells #[.int .i64 a0_0, (.slice A0_1 l0_1.length c0_1), (.slice A0_2 l0_2.length c0_2), (.slice A0_3 l0_3.length c0_3)] 27 (0, 0))) ∧ Aside0 (Below w.heap.size w w'))
   case atStart => exact ⟨(0), sm_, H', ⟨Nat.le_refl _⟩, ⟨bz_ J0.out⟩, ⟨bw1_ HB.out J1.out⟩⟩
   case round =>
    clear H'; (try clear c1); (try clear p2); (try clear c6); (try clear p6); (try clear c12); (try clear p6); obtain ⟨x3_2, rfl, HA, HK2, J0, HB⟩ := hrel
    cases gk with
    | zero => exact absurd HA.out (by simp [spec_l1Tables.l0])
    | succ k2 =>
     have H := HA.out; clear HA; simp only [spec_l1Tables.l0] at H; revert H; refine ic_ (fun K1 H => ?_) (fun K1 H => ?_)
     ·revert H; refine ih_ fun Z1 H => ?_
      revert H; refine ob_ fun J9 A15 H => ?_
      obtain rfl | rfl := bt_ J9
      ·replace H := it_ H
       revert H; refine ih_ fun Z2 H => ?_
       revert H; refine ob_ fun K0 A18 H => ?_
       obtain rfl | rfl := bt_ K0
       ·replace H := it_ H; have H' := sd_ H; clear H; obtain ⟨Z3, Z4, Z5, Z6, Z7, Z8, Z9, Y0⟩ := bf4_ J0.out
        try go_wp2
        obtain ⟨J8, e404, hx404_0, p404, q404⟩ := ai_ HR0_1.out HB.out x3_2
        cases e404
        obtain ⟨K2, e406, hx406_0, p406, q406⟩ := ai_ HR0_2.out HB.out x3_2
        cases e406
        refine qb_region (by kernel_rfl) (by kernel_rfl) ?_
        repeat ((first | (apply qb_skip; (focus rfl)) | (refine qb_callN 56 rfl ?_; apply qb_call 56 rfl Try.func45 (by kernel_rfl) rfl rfl; (focus rfl); (focus (exact fun wq9 hb9 => qb_d hb9 (spec_l1In.calls (rd l0_1 x3_2) 0 (wrap64 (a0_0 - 1)) true _ A15.out))); (focus (rfl))) | (refine qb_callN 67 rfl ?_; apply qb_call 67 rfl Try.func45 (by kernel_rfl) rfl rfl; (focus rfl); (focus (exact fun wq9 hb9 => qb_d hb9 (spec_l1In.calls (rd l0_2 x3_2) 0 (wrap64 (a0_0 - 1)) true _ A18.out))); (focus (rfl))) | (apply qb_val; (focus rfl); (focus (intro wq9 _; go_simp; with_reducible rfl))) | (apply qb_val; (focus rfl); (focus (intro wq9 hb9_; have hb9 : Below wr.heap.size wr wq9 := hb9_; have J0 := sd_ (blk_below J0.out hb9); obtain ⟨hc9_402_0, hc9_402_1, hc9_402_2, hc9_402_3⟩ := bc4_ J0.out; have hx404_0 := qx_ hb9 hx404_0; have hx406_0 := qx_ hb9 hx406_0; go_simp; with_reducible rfl)))); (focus (simp only [Act.put, List.setIfInBounds_toArray, List.set_cons_zero, List.set_cons_succ, i64_w, i32_w]; rfl)))
        refine qb_nil ?_; intro w21 hb; replace J0 := sd_ (blk_below J0.out hb); replace HB := sd_ (below_step HB.out hb); clear hb; (try clear HQ)
        try go_wp2
        go_roundg k2
        case measure => have := HJ1.out; have := HK2.out; omega
        case rel => exact ⟨(wrap64 (x3_2 + 1)), sm_, H', ⟨by have := HJ1.out; have := HK2.out; omega⟩, ⟨bz_ J0.out⟩, ⟨bw1_ HB.out J1.out⟩⟩
       replace H := if_ H; obtain rfl := Option.some.inj H; obtain ⟨Y1, Y2, Y3, Y4, Y5, Y6, Y7, Y8⟩ := bf4_ J0.out
       try go_wp2
       obtain ⟨J8, e404, hx404_0, p404, q404⟩ := ai_ HR0_1.out HB.out x3_2
       cases e404
       obtain ⟨K2, e406, hx406_0, p406, q406⟩ := ai_ HR0_2.out HB.out x3_2
       cases e406
       refine qb_region (by kernel_rfl) (by kernel_rfl) ?_
       repeat ((first | (apply qb_skip; (focus rfl)) | (refine qb_callN 56 rfl ?_; apply qb_call 56 rfl Try.func45 (by kernel_rfl) rfl rfl; (focus rfl); (focus (exact fun wq9 hb9 => qb_d hb9 (spec_l1In.calls (rd l0_1 x3_2) 0 (wrap64 (a0_0 - 1)) true _ A15.out))); (focus (rfl))) | (refine qb_callN 67 rfl ?_; apply qb_call 67 rfl Try.func45 (by kernel_rfl) rfl rfl; (focus rfl); (focus (exact fun wq9 hb9 => qb_d hb9 (spec_l1In.calls (rd l0_2 x3_2) 0 (wrap64 (a0_0 - 1)) false _ A18.out))); (focus (rfl))) | (apply qb_val; (focus rfl); (focus (intro wq9 _; go_simp; with_reducible rfl))) | (apply qb_val; (focus rfl); (focus (intro wq9 hb9_; have hb9 : Below wr.heap.size wr wq9 := hb9_; have J0 := sd_ (blk_below J0.out hb9); obtain ⟨hc9_402_0, hc9_402_1, hc9_402_2, hc9_402_3⟩ := bc4_ J0.out; have hx404_0 := qx_ hb9 hx404_0; have hx406_0 := qx_ hb9 hx406_0; go_simp; with_reducible rfl)))); (focus (simp only [Act.put, List.setIfInBounds_toArray, List.set_cons_zero, List.set_cons_succ, i64_w, i32_w]; rfl)))
       refine qb_nil ?_; intro w23 hb; replace J0 := sd_ (blk_below J0.out hb); replace HB := sd_ (below_step HB.out hb); clear hb; (try clear HQ)
       try go_wp2
       go_ret; exact ⟨an_, bw1_ HB.out J1.out⟩
      replace H := if_ H; obtain rfl := Option.some.inj H; obtain ⟨Y9, X0, X1, X2, X3, X4, X5, X6⟩ := bf4_ J0.out
      try go_wp2
      obtain ⟨J8, e404, hx404_0, p404, q404⟩ := ai_ HR0_1.out HB.out x3_2
      cases e404
      refine qb_region (by kernel_rfl) (by kernel_rfl) ?_
      repeat ((first | (apply qb_skip; (focus rfl)) | (refine qb_callN 56 rfl ?_; apply qb_call 56 rfl Try.func45 (by kernel_rfl) rfl rfl; (focus rfl); (focus (exact fun wq9 hb9 => qb_d hb9 (spec_l1In.calls (rd l0_1 x3_2) 0 (wrap64 (a0_0 - 1)) false _ A15.out))); (focus (rfl))) | (apply qb_val; (focus rfl); (focus (intro wq9 _; go_simp; with_reducible rfl))) | (apply qb_val; (focus rfl); (focus (intro wq9 hb9_; have hb9 : Below wr.heap.size wr wq9 := hb9_; have J0 := sd_ (blk_below J0.out hb9); obtain ⟨hc9_402_0, hc9_402_1, hc9_402_2, hc9_402_3⟩ := bc4_ J0.out; have hx404_0 := qx_ hb9 hx404_0; go_simp; with_reducible rfl)))); (focus (simp only [Act.put, List.setIfInBounds_toArray, List.set_cons_zero, List.set_cons_succ, i64_w, i32_w]; rfl)))
      refine qb_nil ?_; intro w25 hb; replace J0 := sd_ (blk_below J0.out hb); replace HB := sd_ (below_step HB.out hb); clear hb; (try clear HQ)
      try go_wp2
      go_ret; exact ⟨an_, bw1_ HB.out J1.out⟩
     obtain rfl := Option.some.inj H; obtain ⟨X7, X8, X9, W0, W5, W6, W7, W8⟩ := bf4_ J0.out; go_wp2; go_ret; exact ⟨an_, bw1_ HB.out J1.out⟩


def spec_l1One.f (a0_0 : Int) (l0_1 : List Int) (l0_2 : List Int) (l0_3 : List Bool) (a1 : Int) : Option (Bool) := (spec_l1Add.f a0_0 l0_1 l0_2 l0_3 0 a1).bind fun J2 => (if J2 = a1 then ((spec_l1Mul.f a0_0 l0_1 l0_2 l0_3 1 a1).bind fun J3 => (if J3 = a1 then ((spec_l1Mul.f a0_0 l0_1 l0_2 l0_3 a1 1).bind fun J4 => (if J4 = a1 then ((spec_l1Mul.f a0_0 l0_1 l0_2 l0_3 0 a1).bind fun J5 => (if J5 = 0 then ((spec_l1Mul.f a0_0 l0_1 l0_2 l0_3 a1 0).bind fun J6 => (if J6 = 0 then ((spec_l1Le.f a0_0 l0_1 l0_2 l0_3 a1 a1).bind fun J9 => (some J9)) else (some false))) else (some false))) else (some false))) else (some false))) else (some false))
set_option maxHeartbeats 8000000 in
set_option maxRecDepth 100000 in
theorem spec_l1One.calls (a0_0 : Int) (A0_1 : Option Addr) (c0_1 : Nat) (l0_1 : List Int) (A0_2 : Option Addr) (c0_2 : Nat) (l0_2 : List Int) (A0_3 : Option Addr) (c0_3 : Nat) (l0_3 : List Bool) (a1 : Int) (r : Bool) (w : World) (hr0_1 : Kd.C (Kd.int .i64) w A0_1 l0_1.length l0_1) (hc0_1 : l0_1.length ≤ c0_1) (hr0_2 : Kd.C (Kd.int .i64) w A0_2 l0_2.length l0_2) (hc0_2 : l0_2.length ≤ c0_2) (hr0_3 : Kd.C Kd.bool w A0_3 l0_3.length l0_3) (hc0_3 : l0_3.length ≤ c0_3) (h : spec_l1One.f a0_0 l0_1 l0_2 l0_3 a1 = some r) :
  Calls Try.prog 64 #[.agg #[.int .i64 a0_0, .slice A0_1 l0_1.length c0_1, .slice A0_2 l0_2.length c0_2, .slice A0_3 l0_3.length c0_3], .int .i64 a1] w fun e w' => e = .returned (.bool r) ∧ Below w.heap.size w w' := by
 have hu27 := Try.underlying27; have HR0_1 := sd_ hr0_1; have HC0_1 := sd_ hc0_1; clear hr0_1 hc0_1; have HR0_2 := sd_ hr0_2; have HC0_2 := sd_ hc0_2; clear hr0_2 hc0_2; have HR0_3 := sd_ hr0_3; have HC0_3 := sd_ hc0_3; clear hr0_3 hc0_3; have HB := sd_ (Below.refl w.heap.size w); have H : ((spec_l1Add.f a0_0 l0_1 l0_2 l0_3 0 a1).bind fun J2 => (if J2 = a1 then ((spec_l1Mul.f a0_0 l0_1 l0_2 l0_3 1 a1).bind fun J3 => (if J3 = a1 then ((spec_l1Mul.f a0_0 l0_1 l0_2 l0_3 a1 1).bind fun J4 => (if J4 = a1 then ((spec_l1Mul.f a0_0 l0_1 l0_2 l0_3 0 a1).bind fun J5 => (if J5 = 0 then ((spec_l1Mul.f a0_0 l0_1 l0_2 l0_3 a1 0).bind fun J6 => (if J6 = 0 then ((spec_l1Le.f a0_0 l0_1 l0_2 l0_3 a1 a1).bind fun J9 => (some J9)) else (some false))) else (some false))) else (some false))) else (some false))) else (some false))) = some r := h; clear h
 revert H; refine ob_ fun J2 A3 H => ?_
 by_cases c4 : J2 = a1
 ·rw [if_pos c4] at H; have c4b0 : (J2 == a1) = true := beq_iff_eq.mpr c4; have c4b1 : (J2 != a1) = false := bne_eq_false_iff_eq.mpr c4; clear c4
  revert H; refine ob_ fun J3 A5 H => ?_
  by_cases c6 : J3 = a1
  ·rw [if_pos c6] at H; have c6b0 : (J3 == a1) = true := beq_iff_eq.mpr c6; have c6b1 : (J3 != a1) = false := bne_eq_false_iff_eq.mpr c6; clear c6
   revert H; refine ob_ fun J4 A7 H => ?_
   by_cases c8 : J4 = a1
   ·rw [if_pos c8] at H; have c8b0 : (J4 == a1) = true := beq_iff_eq.mpr c8; have c8b1 : (J4 != a1) = false := bne_eq_false_iff_eq.mpr c8; clear c8
    revert H; refine ob_ fun J5 A9 H => ?_
    by_cases c10 : J5 = 0
    ·rw [if_pos c10] at H; have K0 : (J5 == 0) = true := beq_iff_eq.mpr c10; have K1 : (J5 != 0) = false := bne_eq_false_iff_eq.mpr c10; clear c10
     revert H; refine ob_ fun J6 A11 H => ?_
     by_cases c12 : J6 = 0
     ·rw [if_pos c12] at H; have K2 : (J6 == 0) = true := beq_iff_eq.mpr c12; have K3 : (J6 != 0) = false := bne_eq_false_iff_eq.mpr c12; clear c12
      revert H; refine ob_ fun J9 A13 H => ?_
      obtain rfl := Option.some.inj H; go_enter Try.func64, Try.ntmps64; go_wp2_with (first | ((with_reducible refine gate_dst (N := 2) rfl ?_); refine bx_ (N := 2) (cs := #[.int .i64 a0_0, .slice A0_1 l0_1.length c0_1, .slice A0_2 l0_2.length c0_2, .slice A0_3 l0_3.length c0_3]) (t := 27) ?_; intro J7 hg w14 hbox hb; have J0 := sd_ (hbox); have J8 := sd_ (gs_ hg (bw0_ HB.out)); have J1 := sd_ (gs_ hg (bw0_ HB.out)); replace HB := sd_ (below_step (bw0_ HB.out) hb); clear hb hbox hg; obtain ⟨K5, K6, K7, K8, K9, Q0, Q1, Q2⟩ := bf4_ J0.out) | ((with_reducible refine gate_callee (f := 46) rfl ?_); refine goesL_ (some 7) rfl rfl Try.func46 (by kernel_rfl) rfl #[.agg #[.int .i64 a0_0, .slice A0_1 l0_1.length c0_1, .slice A0_2 l0_2.length c0_2, .slice A0_3 l0_3.length c0_3], .int .i64 0, .int .i64 a1] rfl la_ ?_; (with_reducible refine (spec_l1Add.calls a0_0 _ _ l0_1 _ _ l0_2 _ _ l0_3 0 a1 J2 _ (kc_ HR0_1.out HB.out) HC0_1.out (kc_ HR0_2.out HB.out) HC0_2.out (kc_ HR0_3.out HB.out) HC0_3.out A3.out).mono ?_); rintro e w16 ⟨rfl, hb⟩; refine ⟨_, rfl, ?_⟩; replace J0 := sd_ (bb_ J0.out hb); replace HB := sd_ (below_step (bw1_ HB.out J1.out) hb); (try clear hb); obtain ⟨Q3, Q4, Q5, Q6, Q7, Q8, Q9, Z0⟩ := bf4_ J0.out) | (go_at_call 47; (with_reducible refine (spec_l1Mul.calls a0_0 _ _ l0_1 _ _ l0_2 _ _ l0_3 1 a1 J3 _ (kc_ HR0_1.out HB.out) HC0_1.out (kc_ HR0_2.out HB.out) HC0_2.out (kc_ HR0_3.out HB.out) HC0_3.out A5.out).mono ?_); rintro e w18 ⟨rfl, hb⟩; replace J0 := sd_ (bb_ J0.out hb); replace HB := sd_ (below_step (bw1_ HB.out J1.out) hb); (try clear hb); obtain ⟨Z1, Z2, Z3, Z4, Z5, Z6, Z7, Z8⟩ := bf4_ J0.out) | (go_at_call 47; (with_reducible refine (spec_l1Mul.calls a0_0 _ _ l0_1 _ _ l0_2 _ _ l0_3 a1 1 J4 _ (kc_ HR0_1.out HB.out) HC0_1.out (kc_ HR0_2.out HB.out) HC0_2.out (kc_ HR0_3.out HB.out) HC0_3.out A7.out).mono ?_); rintro e w20 ⟨rfl, hb⟩; replace J0 := sd_ (bb_ J0.out hb); replace HB := sd_ (below_step (bw1_ HB.out J1.out) hb); (try clear hb); obtain ⟨Z9, Y0, Y1, Y2, Y3, Y4, Y5, Y6⟩ := bf4_ J0.out) | (go_at_call 47; (with_reducible refine (spec_l1Mul.calls a0_0 _ _ l0_1 _ _ l0_2 _ _ l0_3 0 a1 J5 _ (kc_ HR0_1.out HB.out) HC0_1.out (kc_ HR0_2.out HB.out) HC0_2.out (kc_ HR0_3.out HB.out) HC0_3.out A9.out).mono ?_); rintro e w22 ⟨rfl, hb⟩; replace J0 := sd_ (bb_ J0.out hb); replace HB := sd_ (below_step (bw1_ HB.out J1.out) hb); (try clear hb); obtain ⟨Y7, Y8, Y9, X0, X1, X2, X3, X4⟩ := bf4_ J0.out) | (go_at_call 47; (with_reducible refine (spec_l1Mul.calls a0_0 _ _ l0_1 _ _ l0_2 _ _ l0_3 a1 0 J6 _ (kc_ HR0_1.out HB.out) HC0_1.out (kc_ HR0_2.out HB.out) HC0_2.out (kc_ HR0_3.out HB.out) HC0_3.out A11.out).mono ?_); rintro e w24 ⟨rfl, hb⟩; replace J0 := sd_ (bb_ J0.out hb); replace HB := sd_ (below_step (bw1_ HB.out J1.out) hb); (try clear hb); obtain ⟨X5, X6, X7, X8, X9, W0, W5, W6⟩ := bf4_ J0.out) | (go_at_call 48; (with_reducible refine (spec_l1Le.calls a0_0 _ _ l0_1 _ _ l0_2 _ _ l0_3 a1 a1 J9 _ (kc_ HR0_1.out HB.out) HC0_1.out (kc_ HR0_2.out HB.out) HC0_2.out (kc_ HR0_3.out HB.out) HC0_3.out A13.out).mono ?_); rintro e w26 ⟨rfl, hb⟩; replace J0 := sd_ (bb_ J0.out hb); replace HB := sd_ (below_step (bw1_ HB.out J1.out) hb); (try clear hb))); go_ret; exact ⟨an_, bw1_ HB.out J1.out⟩
     rw [if_neg c12] at H; have K2 : (J6 == 0) = false := beq_eq_false_iff_ne.mpr c12; have K3 : (J6 != 0) = true := bne_iff_ne.mpr c12; obtain rfl := Option.some.inj H; go_enter Try.func64, Try.ntmps64; go_wp2_with (first | ((with_reducible refine gate_dst (N := 2) rfl ?_); refine bx_ (N := 2) (cs := #[.int .i64 a0_0, .slice A0_1 l0_1.length c0_1, .slice A0_2 l0_2.length c0_2, .slice A0_3 l0_3.length c0_3]) (t := 27) ?_; intro J7 hg w27 hbox hb; have J0 := sd_ (hbox); have J8 := sd_ (gs_ hg (bw0_ HB.out)); have J1 := sd_ (gs_ hg (bw0_ HB.out)); replace HB := sd_ (below_step (bw0_ HB.out) hb); clear hb hbox hg; obtain ⟨W7, W8, W9, V0, V1, V2, V3, V4⟩ := bf4_ J0.out) | ((with_reducible refine gate_callee (f := 46) rfl ?_); refine goesL_ (some 7) rfl rfl Try.func46 (by kernel_rfl) rfl #[.agg #[.int .i64 a0_0, .slice A0_1 l0_1.length c0_1, .slice A0_2 l0_2.length c0_2, .slice A0_3 l0_3.length c0_3], .int .i64 0, .int .i64 a1] rfl la_ ?_; (with_reducible refine (spec_l1Add.calls a0_0 _ _ l0_1 _ _ l0_2 _ _ l0_3 0 a1 J2 _ (kc_ HR0_1.out HB.out) HC0_1.out (kc_ HR0_2.out HB.out) HC0_2.out (kc_ HR0_3.out HB.out) HC0_3.out A3.out).mono ?_); rintro e w29 ⟨rfl, hb⟩; refine ⟨_, rfl, ?_⟩; replace J0 := sd_ (bb_ J0.out hb); replace HB := sd_ (below_step (bw1_ HB.out J1.out) hb); (try clear hb); obtain ⟨V5, V6, V7, V8, V9, U0, U1, U2⟩ := bf4_ J0.out) | (go_at_call 47; (with_reducible refine (spec_l1Mul.calls a0_0 _ _ l0_1 _ _ l0_2 _ _ l0_3 1 a1 J3 _ (kc_ HR0_1.out HB.out) HC0_1.out (kc_ HR0_2.out HB.out) HC0_2.out (kc_ HR0_3.out HB.out) HC0_3.out A5.out).mono ?_); rintro e w31 ⟨rfl, hb⟩; replace J0 := sd_ (bb_ J0.out hb); replace HB := sd_ (below_step (bw1_ HB.out J1.out) hb); (try clear hb); obtain ⟨U3, U4, U5, U6, U7, U8, U9, G0⟩ := bf4_ J0.out) | (go_at_call 47; (with_reducible refine (spec_l1Mul.calls a0_0 _ _ l0_1 _ _ l0_2 _ _ l0_3 a1 1 J4 _ (kc_ HR0_1.out HB.out) HC0_1.out (kc_ HR0_2.out HB.out) HC0_2.out (kc_ HR0_3.out HB.out) HC0_3.out A7.out).mono ?_); rintro e w33 ⟨rfl, hb⟩; replace J0 := sd_ (bb_ J0.out hb); replace HB := sd_ (below_step (bw1_ HB.out J1.out) hb); (try clear hb); obtain ⟨G1, G2, G3, G4, G5, G6, G7, G8⟩ := bf4_ J0.out) | (go_at_call 47; (with_reducible refine (spec_l1Mul.calls a0_0 _ _ l0_1 _ _ l0_2 _ _ l0_3 0 a1 J5 _ (kc_ HR0_1.out HB.out) HC0_1.out (kc_ HR0_2.out HB.out) HC0_2.out (kc_ HR0_3.out HB.out) HC0_3.out A9.out).mono ?_); rintro e w35 ⟨rfl, hb⟩; replace J0 := sd_ (bb_ J0.out hb); replace HB := sd_ (below_step (bw1_ HB.out J1.out) hb); (try clear hb); obtain ⟨G9, E0, E1, E2, E3, E4, E5, E6⟩ := bf4_ J0.out) | (go_at_call 47; (with_reducible refine (spec_l1Mul.calls a0_0 _ _ l0_1 _ _ l0_2 _ _ l0_3 a1 0 J6 _ (kc_ HR0_1.out HB.out) HC0_1.out (kc_ HR0_2.out HB.out) HC0_2.out (kc_ HR0_3.out HB.out) HC0_3.out A11.out).mono ?_); rintro e w37 ⟨rfl, hb⟩; replace J0 := sd_ (bb_ J0.out hb); replace HB := sd_ (below_step (bw1_ HB.out J1.out) hb); (try clear hb))); go_ret; exact ⟨an_, bw1_ HB.out J1.out⟩
    rw [if_neg c10] at H; have K0 : (J5 == 0) = false := beq_eq_false_iff_ne.mpr c10; have K1 : (J5 != 0) = true := bne_iff_ne.mpr c10; obtain rfl := Option.some.inj H; go_enter Try.func64, Try.ntmps64; go_wp2_with (first | ((with_reducible refine gate_dst (N := 2) rfl ?_); refine bx_ (N := 2) (cs := #[.int .i64 a0_0, .slice A0_1 l0_1.length c0_1, .slice A0_2 l0_2.length c0_2, .slice A0_3 l0_3.length c0_3]) (t := 27) ?_; intro J7 hg w38 hbox hb; have J0 := sd_ (hbox); have J8 := sd_ (gs_ hg (bw0_ HB.out)); have J1 := sd_ (gs_ hg (bw0_ HB.out)); replace HB := sd_ (below_step (bw0_ HB.out) hb); clear hb hbox hg; obtain ⟨E7, E8, E9, D0, D1, D2, D3, D4⟩ := bf4_ J0.out) | ((with_reducible refine gate_callee (f := 46) rfl ?_); refine goesL_ (some 7) rfl rfl Try.func46 (by kernel_rfl) rfl #[.agg #[.int .i64 a0_0, .slice A0_1 l0_1.length c0_1, .slice A0_2 l0_2.length c0_2, .slice A0_3 l0_3.length c0_3], .int .i64 0, .int .i64 a1] rfl la_ ?_; (with_reducible refine (spec_l1Add.calls a0_0 _ _ l0_1 _ _ l0_2 _ _ l0_3 0 a1 J2 _ (kc_ HR0_1.out HB.out) HC0_1.out (kc_ HR0_2.out HB.out) HC0_2.out (kc_ HR0_3.out HB.out) HC0_3.out A3.out).mono ?_); rintro e w40 ⟨rfl, hb⟩; refine ⟨_, rfl, ?_⟩; replace J0 := sd_ (bb_ J0.out hb); replace HB := sd_ (below_step (bw1_ HB.out J1.out) hb); (try clear hb); obtain ⟨D5, D6, D7, D8, D9, B0, B2, B3⟩ := bf4_ J0.out) | (go_at_call 47; (with_reducible refine (spec_l1Mul.calls a0_0 _ _ l0_1 _ _ l0_2 _ _ l0_3 1 a1 J3 _ (kc_ HR0_1.out HB.out) HC0_1.out (kc_ HR0_2.out HB.out) HC0_2.out (kc_ HR0_3.out HB.out) HC0_3.out A5.out).mono ?_); rintro e w42 ⟨rfl, hb⟩; replace J0 := sd_ (bb_ J0.out hb); replace HB := sd_ (below_step (bw1_ HB.out J1.out) hb); (try clear hb); obtain ⟨B4, B5, B6, B7, B9, N0, N1, N2⟩ := bf4_ J0.out) | (go_at_call 47; (with_reducible refine (spec_l1Mul.calls a0_0 _ _ l0_1 _ _ l0_2 _ _ l0_3 a1 1 J4 _ (kc_ HR0_1.out HB.out) HC0_1.out (kc_ HR0_2.out HB.out) HC0_2.out (kc_ HR0_3.out HB.out) HC0_3.out A7.out).mono ?_); rintro e w44 ⟨rfl, hb⟩; replace J0 := sd_ (bb_ J0.out hb); replace HB := sd_ (below_step (bw1_ HB.out J1.out) hb); (try clear hb); obtain ⟨N3, N4, N5, N6, N7, N8, N9, R0⟩ := bf4_ J0.out) | (go_at_call 47; (with_reducible refine (spec_l1Mul.calls a0_0 _ _ l0_1 _ _ l0_2 _ _ l0_3 0 a1 J5 _ (kc_ HR0_1.out HB.out) HC0_1.out (kc_ HR0_2.out HB.out) HC0_2.out (kc_ HR0_3.out HB.out) HC0_3.out A9.out).mono ?_); rintro e w46 ⟨rfl, hb⟩; replace J0 := sd_ (bb_ J0.out hb); replace HB := sd_ (below_step (bw1_ HB.out J1.out) hb); (try clear hb))); go_ret; exact ⟨an_, bw1_ HB.out J1.out⟩
   rw [if_neg c8] at H; have c8b0 : (J4 == a1) = false := beq_eq_false_iff_ne.mpr c8; have c8b1 : (J4 != a1) = true := bne_iff_ne.mpr c8; obtain rfl := Option.some.inj H; go_enter Try.func64, Try.ntmps64; go_wp2_with (first | ((with_reducible refine gate_dst (N := 2) rfl ?_); refine bx_ (N := 2) (cs := #[.int .i64 a0_0, .slice A0_1 l0_1.length c0_1, .slice A0_2 l0_2.length c0_2, .slice A0_3 l0_3.length c0_3]) (t := 27) ?_; intro J7 hg w47 hbox hb; have J0 := sd_ (hbox); have J8 := sd_ (gs_ hg (bw0_ HB.out)); have J1 := sd_ (gs_ hg (bw0_ HB.out)); replace HB := sd_ (below_step (bw0_ HB.out) hb); clear hb hbox hg; obtain ⟨R1, R2, R3, R4, R5, R6, R7, R8⟩ := bf4_ J0.out) | ((with_reducible refine gate_callee (f := 46) rfl ?_); refine goesL_ (some 7) rfl rfl Try.func46 (by kernel_rfl) rfl #[.agg #[.int .i64 a0_0, .slice A0_1 l0_1.length c0_1, .slice A0_2 l0_2.length c0_2, .slice A0_3 l0_3.length c0_3], .int .i64 0, .int .i64 a1] rfl la_ ?_; (with_reducible refine (spec_l1Add.calls a0_0 _ _ l0_1 _ _ l0_2 _ _ l0_3 0 a1 J2 _ (kc_ HR0_1.out HB.out) HC0_1.out (kc_ HR0_2.out HB.out) HC0_2.out (kc_ HR0_3.out HB.out) HC0_3.out A3.out).mono ?_); rintro e w49 ⟨rfl, hb⟩; refine ⟨_, rfl, ?_⟩; replace J0 := sd_ (bb_ J0.out hb); replace HB := sd_ (below_step (bw1_ HB.out J1.out) hb); (try clear hb); obtain ⟨R9, I0, I1, I2, I3, I4, I5, I6⟩ := bf4_ J0.out) | (go_at_call 47; (with_reducible refine (spec_l1Mul.calls a0_0 _ _ l0_1 _ _ l0_2 _ _ l0_3 1 a1 J3 _ (kc_ HR0_1.out HB.out) HC0_1.out (kc_ HR0_2.out HB.out) HC0_2.out (kc_ HR0_3.out HB.out) HC0_3.out A5.out).mono ?_); rintro e w51 ⟨rfl, hb⟩; replace J0 := sd_ (bb_ J0.out hb); replace HB := sd_ (below_step (bw1_ HB.out J1.out) hb); (try clear hb); obtain ⟨I7, I8, I9, O0, O1, O2, O3, O4⟩ := bf4_ J0.out) | (go_at_call 47; (with_reducible refine (spec_l1Mul.calls a0_0 _ _ l0_1 _ _ l0_2 _ _ l0_3 a1 1 J4 _ (kc_ HR0_1.out HB.out) HC0_1.out (kc_ HR0_2.out HB.out) HC0_2.out (kc_ HR0_3.out HB.out) HC0_3.out A7.out).mono ?_); rintro e w53 ⟨rfl, hb⟩; replace J0 := sd_ (bb_ J0.out hb); replace HB := sd_ (below_step (bw1_ HB.out J1.out) hb); (try clear hb))); go_ret; exact ⟨an_, bw1_ HB.out J1.out⟩
  rw [if_neg c6] at H; have c6b0 : (J3 == a1) = false := beq_eq_false_iff_ne.mpr c6; have c6b1 : (J3 != a1) = true := bne_iff_ne.mpr c6; obtain rfl := Option.some.inj H; go_enter Try.func64, Try.ntmps64; go_wp2_with (first | ((with_reducible refine gate_dst (N := 2) rfl ?_); refine bx_ (N := 2) (cs := #[.int .i64 a0_0, .slice A0_1 l0_1.length c0_1, .slice A0_2 l0_2.length c0_2, .slice A0_3 l0_3.length c0_3]) (t := 27) ?_; intro J7 hg w54 hbox hb; have J0 := sd_ (hbox); have J8 := sd_ (gs_ hg (bw0_ HB.out)); have J1 := sd_ (gs_ hg (bw0_ HB.out)); replace HB := sd_ (below_step (bw0_ HB.out) hb); clear hb hbox hg; obtain ⟨O5, O6, O7, O8, O9, P0, P1, P2⟩ := bf4_ J0.out) | ((with_reducible refine gate_callee (f := 46) rfl ?_); refine goesL_ (some 7) rfl rfl Try.func46 (by kernel_rfl) rfl #[.agg #[.int .i64 a0_0, .slice A0_1 l0_1.length c0_1, .slice A0_2 l0_2.length c0_2, .slice A0_3 l0_3.length c0_3], .int .i64 0, .int .i64 a1] rfl la_ ?_; (with_reducible refine (spec_l1Add.calls a0_0 _ _ l0_1 _ _ l0_2 _ _ l0_3 0 a1 J2 _ (kc_ HR0_1.out HB.out) HC0_1.out (kc_ HR0_2.out HB.out) HC0_2.out (kc_ HR0_3.out HB.out) HC0_3.out A3.out).mono ?_); rintro e w56 ⟨rfl, hb⟩; refine ⟨_, rfl, ?_⟩; replace J0 := sd_ (bb_ J0.out hb); replace HB := sd_ (below_step (bw1_ HB.out J1.out) hb); (try clear hb); obtain ⟨P3, P4, P5, P6, P7, P8, P9, M0⟩ := bf4_ J0.out) | (go_at_call 47; (with_reducible refine (spec_l1Mul.calls a0_0 _ _ l0_1 _ _ l0_2 _ _ l0_3 1 a1 J3 _ (kc_ HR0_1.out HB.out) HC0_1.out (kc_ HR0_2.out HB.out) HC0_2.out (kc_ HR0_3.out HB.out) HC0_3.out A5.out).mono ?_); rintro e w58 ⟨rfl, hb⟩; replace J0 := sd_ (bb_ J0.out hb); replace HB := sd_ (below_step (bw1_ HB.out J1.out) hb); (try clear hb))); go_ret; exact ⟨an_, bw1_ HB.out J1.out⟩
 rw [if_neg c4] at H; have c4b0 : (J2 == a1) = false := beq_eq_false_iff_ne.mpr c4; have c4b1 : (J2 != a1) = true := bne_iff_ne.mpr c4; obtain rfl := Option.some.inj H; go_enter Try.func64, Try.ntmps64; go_wp2_with (first | ((with_reducible refine gate_dst (N := 2) rfl ?_); refine bx_ (N := 2) (cs := #[.int .i64 a0_0, .slice A0_1 l0_1.length c0_1, .slice A0_2 l0_2.length c0_2, .slice A0_3 l0_3.length c0_3]) (t := 27) ?_; intro J7 hg w59 hbox hb; have J0 := sd_ (hbox); have J8 := sd_ (gs_ hg (bw0_ HB.out)); have J1 := sd_ (gs_ hg (bw0_ HB.out)); replace HB := sd_ (below_step (bw0_ HB.out) hb); clear hb hbox hg; obtain ⟨M1, M2, M3, M4, M5, M6, M7, M8⟩ := bf4_ J0.out) | ((with_reducible refine gate_callee (f := 46) rfl ?_); refine goesL_ (some 7) rfl rfl Try.func46 (by kernel_rfl) rfl #[.agg #[.int .i64 a0_0, .slice A0_1 l0_1.length c0_1, .slice A0_2 l0_2.length c0_2, .slice A0_3 l0_3.length c0_3], .int .i64 0, .int .i64 a1] rfl la_ ?_; (with_reducible refine (spec_l1Add.calls a0_0 _ _ l0_1 _ _ l0_2 _ _ l0_3 0 a1 J2 _ (kc_ HR0_1.out HB.out) HC0_1.out (kc_ HR0_2.out HB.out) HC0_2.out (kc_ HR0_3.out HB.out) HC0_3.out A3.out).mono ?_); rintro e w61 ⟨rfl, hb⟩; refine ⟨_, rfl, ?_⟩; replace J0 := sd_ (bb_ J0.out hb); replace HB := sd_ (below_step (bw1_ HB.out J1.out) hb); (try clear hb))); go_ret; exact ⟨an_, bw1_ HB.out J1.out⟩


mutual
def spec_l1Less.l0 : Nat → List Int → List Int → Int → Option (Bool)
 | 0, _, _, _ => none
 | k + 1, x0, x1, x5 => if x5 < (x0.length : Int) then (spec_l1Less.j1 k x0 x1 x5 (decide (x5 < (x1.length : Int)))) else (spec_l1Less.j1 k x0 x1 x5 false)
def spec_l1Less.j1 : Nat → List Int → List Int → Int → Bool → Option (Bool)
 | 0, _, _, _, _ => none
 | k + 1, x0, x1, x5, x15 => if x15 = true then (if 0 ≤ x5 then (if x5 < (x0.length : Int) then (if x5 < (x1.length : Int) then (if (rd x0 x5) = (rd x1 x5) then (spec_l1Less.l0 k x0 x1 (wrap64 (x5 + 1))) else (some (decide ((rd x0 x5) < (rd x1 x5))))) else (none)) else (none)) else (none)) else (some (decide ((x0.length : Int) < (x1.length : Int))))
end
def spec_l1Less.f (k : Nat) (l0 : List Int) (l1 : List Int) : Option (Bool) := spec_l1Less.l0 k l0 l1 0
set_option maxHeartbeats 8000000 in
set_option maxRecDepth 100000 in
theorem spec_l1Less.calls (k : Nat) (A0 : Option Addr) (c0 : Nat) (l0 : List Int) (A1 : Option Addr) (c1 : Nat) (l1 : List Int) (r : Bool) (w : World) (hr0 : Kd.C (Kd.int .i64) w A0 l0.length l0) (hc0 : l0.length ≤ c0) (hr1 : Kd.C (Kd.int .i64) w A1 l1.length l1) (hc1 : l1.length ≤ c1) (h : spec_l1Less.f k l0 l1 = some r) :
  Calls Try.prog 72 #[.slice A0 l0.length c0, .slice A1 l1.length c1] w fun e w' => e = .returned (.bool r) ∧ Drawn0 w w' := by
 have HR0 := sd_ hr0; have HC0 := sd_ hc0; clear hr0 hc0; have HR1 := sd_ hr1; have HC1 := sd_ hc1; clear hr1 hc1; have H : (spec_l1Less.l0 k l0 l1 0) = some r := h; clear h; have H' := sd_ H; clear H; go_enter Try.func72, Try.ntmps72; go_wp2
 repeat (go_quiet (fail); try go_wp2)
 go_loopg [5] k (fun kq v5 w' => ∃ (x5_1 : Int), v5 = .int .i64 x5_1 ∧ Aside0 (spec_l1Less.l0 kq l0 l1 x5_1 = some r) ∧ Aside0 (kq ≤ k) ∧ Drawn0 w w')
 case atStart => exact ⟨(0), sm_, H', ⟨Nat.le_refl _⟩, by repeat (first | exact Drawn0.refl _ | apply Drawn0.step)⟩
 case round =>
  clear H'; (try clear c1); (try clear p2); obtain ⟨x5_1, rfl, HA, HK1, ⟨m1, rfl⟩⟩ := hrel
  cases gk with
  | zero => exact absurd HA.out (by simp [spec_l1Less.l0])
  | succ k1 =>
   have H := HA.out; clear HA; simp only [spec_l1Less.l0] at H; have HC3 := sd_ H; clear H; go_upto_region 2 with (fail)
   repeat (go_quiet (fail); go_upto_region 2 with (fail))
   go_cut [15] (fun v15 wc => ∃ (kq : Nat) (x15_2 : Bool), v15 = .bool x15_2 ∧ Aside0 (spec_l1Less.j1 kq l0 l1 x5_1 x15_2 = some r) ∧ Aside0 (kq ≤ k1) ∧ Drawn0 w wc)
   case first =>
    have H := HC3.out; clear HC3; revert H; refine ic_ (fun c4b0 H => ?_) (fun c4b0 H => ?_)
    ·(first | rw [c4b0] | (simp only [i64_w, i32_w]; rw [c4b0]) | skip); have H' := sd_ H; clear H; go_wp2
     repeat (go_quiet (fail); try go_wp2)
     go_meet
     case rel => exact ⟨_, (decide (x5_1 < (l1.length : Int))), sm_, H', ⟨by have := HK1.out; first | omega | exact Nat.le_refl _⟩, by repeat (first | exact Drawn0.refl _ | apply Drawn0.step)⟩
    (first | rw [c4b0] | (simp only [i64_w, i32_w]; rw [c4b0]) | skip); have H' := sd_ H; clear H; go_wp2
    repeat (go_quiet (fail); try go_wp2)
    go_meet
    case rel => exact ⟨_, (false), sm_, H', ⟨by have := HK1.out; first | omega | exact Nat.le_refl _⟩, by repeat (first | exact Drawn0.refl _ | apply Drawn0.step)⟩
   case rest =>
    clear HC3; (try clear c1); (try clear p2); (try clear p2); obtain ⟨kq, x15_2, rfl, HA, HJ2, ⟨mc2, rfl⟩⟩ := hcut
    cases kq with
    | zero => exact absurd HA.out (by simp [spec_l1Less.j1])
    | succ kj2 =>
     have H := HA.out; clear HA; simp only [spec_l1Less.j1] at H; obtain rfl | rfl := bt_ x15_2
     ·replace H := it_ H
      revert H; refine ih_ fun c6b0 H => ?_
      revert H; refine ih_ fun c7b0 H => ?_
      revert H; refine ih_ fun c8b0 H => ?_
      by_cases c9 : (rd l0 x5_1) = (rd l1 x5_1)
      ·rw [if_pos c9] at H; have c9b0 : ((rd l0 x5_1) == (rd l1 x5_1)) = true := beq_iff_eq.mpr c9; have c9b1 : ((rd l0 x5_1) != (rd l1 x5_1)) = false := bne_eq_false_iff_eq.mpr c9; clear c9; have H' := sd_ H; clear H; have p619 : 0 ≤ (x5_1 : Int) := dt_; have q619 : x5_1 < (l0.length : Int) := dt_; obtain ⟨J0, e619, hx619_0⟩ := Kd.at_int HR0.out x5_1 p619 q619
       cases e619
       replace p619 := eq_true p619; replace q619 := eq_true q619; have p620 : 0 ≤ (x5_1 : Int) := dt_; have q620 : x5_1 < (l1.length : Int) := dt_; obtain ⟨J1, e620, hx620_0⟩ := Kd.at_int HR1.out x5_1 p620 q620
       cases e620
       replace p620 := eq_true p620; replace q620 := eq_true q620; go_wp2
       repeat (go_quiet (fail); try go_wp2)
       go_roundg kj2
       case measure => have := HK1.out; have := HJ2.out; omega
       case rel => exact ⟨(wrap64 (x5_1 + 1)), sm_, H', ⟨by have := HK1.out; have := HJ2.out; omega⟩, by repeat (first | exact Drawn0.refl _ | apply Drawn0.step)⟩
      rw [if_neg c9] at H; have c9b0 : ((rd l0 x5_1) == (rd l1 x5_1)) = false := beq_eq_false_iff_ne.mpr c9; have c9b1 : ((rd l0 x5_1) != (rd l1 x5_1)) = true := bne_iff_ne.mpr c9; obtain rfl := Option.some.inj H; have p619 : 0 ≤ (x5_1 : Int) := dt_; have q619 : x5_1 < (l0.length : Int) := dt_; obtain ⟨J0, e619, hx619_0⟩ := Kd.at_int HR0.out x5_1 p619 q619
      cases e619
      replace p619 := eq_true p619; replace q619 := eq_true q619; have p620 : 0 ≤ (x5_1 : Int) := dt_; have q620 : x5_1 < (l1.length : Int) := dt_; obtain ⟨J1, e620, hx620_0⟩ := Kd.at_int HR1.out x5_1 p620 q620
      cases e620
      replace p620 := eq_true p620; replace q620 := eq_true q620; have p621 : 0 ≤ (x5_1 : Int) := dt_; have q621 : x5_1 < (l0.length : Int) := dt_; obtain ⟨J2, e621, hx621_0⟩ := Kd.at_int HR0.out x5_1 p621 q621; obtain rfl : J0 = J2 := (by injection e621); replace p621 := eq_true p621; replace q621 := eq_true q621; have p622 : 0 ≤ (x5_1 : Int) := dt_; have q622 : x5_1 < (l1.length : Int) := dt_; obtain ⟨J3, e622, hx622_0⟩ := Kd.at_int HR1.out x5_1 p622 q622; obtain rfl : J1 = J3 := (by injection e622); replace p622 := eq_true p622; replace q622 := eq_true q622; go_wp2
      repeat (go_quiet (fail); try go_wp2)
      go_ret; exact ⟨by first | rfl | (simp; done) | (simp [*]; done), by repeat (first | exact Drawn0.refl _ | apply Drawn0.step)⟩
     replace H := if_ H; obtain rfl := Option.some.inj H; go_wp2
     repeat (go_quiet (fail); try go_wp2)
     go_ret; exact ⟨by first | rfl | (simp; done) | (simp [*]; done), by repeat (first | exact Drawn0.refl _ | apply Drawn0.step)⟩

end Go.Proofs.Ytjjkagnbdfofbaa.P
end
