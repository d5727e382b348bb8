import Derived.Test.YtjjkagnbdfofbaaM2
import Derived.Test.YtjjkagnbdfofbaaM5
namespace Go.Proofs.Ytjjkagnbdfofbaa.P
open Go.RowKit Go.Proofs.YtjjkagnbdfofbaaW.PrintWords Go.Proofs.YtjjkagnbdfofbaaW.PrintLast Go.Proofs.YtjjkagnbdfofbaaW.PrintMore
attribute [local go_sem] max2_int min2_int max_two min_two
set_option linter.unusedVariables false
set_option linter.unusedSimpArgs false

mutual
def impl_isView.j0 : Nat → List Bool → Bool → Int → List Int → List Int → List Bool → Option (Bool)
 | 0, _, _, _, _, _, _ => none
 | k + 1, x1, x15, J3, J4, J5, J6 => if x15 = true then (some false) else (impl_isView.l0 k x1 0 J3 J4 J5 J6)
def impl_isView.l0 : Nat → List Bool → Int → Int → List Int → List Int → List Bool → Option (Bool)
 | 0, _, _, _, _, _, _ => none
 | k + 1, x1, x5, J3, J4, J5, J6 => if x5 < J3 then (impl_isView.l1 k x1 x5 0 J3 J4 J5 J6) else (some true)
def impl_isView.l1 : Nat → List Bool → Int → Int → Int → List Int → List Int → List Bool → Option (Bool)
 | 0, _, _, _, _, _, _, _ => none
 | k + 1, x1, x5, x6, J3, J4, J5, J6 => if x6 < J3 then ((impl_System_plus.f J3 J4 J5 J6 x5 x6).bind fun J2 => (if 0 ≤ J2 then (if J2 < (x1.length : Int) then (if 0 ≤ x5 then (if x5 < (x1.length : Int) then (if rdOf false x1 x5 = true then (if ((rdOf false x1 J2) != true) = true then (some false) else ((impl_System_times.f J3 J4 J5 J6 x5 x6).bind fun J9 => (if 0 ≤ J9 then (if J9 < (x1.length : Int) then (if 0 ≤ x6 then (if x6 < (x1.length : Int) then (if ((rdOf false x1 J9) != (rdOf false x1 x6)) = true then (some false) else ((impl_System_below.f J3 J4 J5 J6 x5 x6).bind fun Q7 => (if Q7 = true then (if rdOf false x1 x6 = true then (impl_isView.l1 k x1 x5 (wrap64 (x6 + 1)) J3 J4 J5 J6) else (some false)) else (impl_isView.l1 k x1 x5 (wrap64 (x6 + 1)) J3 J4 J5 J6)))) else (none)) else (none)) else (none)) else (none)))) else (if 0 ≤ x6 then (if x6 < (x1.length : Int) then (if ((rdOf false x1 J2) != (rdOf false x1 x6)) = true then (some false) else ((impl_System_times.f J3 J4 J5 J6 x5 x6).bind fun K0 => (if 0 ≤ K0 then (if K0 < (x1.length : Int) then (if ((rdOf false x1 K0) != false) = true then (some false) else (impl_isView.l1 k x1 x5 (wrap64 (x6 + 1)) J3 J4 J5 J6)) else (none)) else (none)))) else (none)) else (none))) else (none)) else (none)) else (none)) else (none))) else (impl_isView.l0 k x1 (wrap64 (x5 + 1)) J3 J4 J5 J6)
end
def impl_isView.f (k : Nat) (a0_0 : Int) (l0_1 : List Int) (l0_2 : List Int) (l0_3 : List Bool) (l1 : List Bool) : Option (Bool) := if 1 < (l1.length : Int) then (if rdOf false l1 1 = true then (if 0 < (l1.length : Int) then (impl_isView.j0 k l1 (rdOf false l1 0) a0_0 l0_1 l0_2 l0_3) else (none)) else (impl_isView.j0 k l1 true a0_0 l0_1 l0_2 l0_3)) else (none)
set_option maxHeartbeats 8000000 in
set_option maxRecDepth 100000 in
theorem impl_isView.calls (k : Nat) (a0_0 : Int) (A0_1 : Option Addr) (c0_1 : Nat) (l0_1 : List Int) (A0_2 : Option Addr) (c0_2 : Nat) (l0_2 : List Int) (A0_3 : Option Addr) (c0_3 : Nat) (l0_3 : List Bool) (A1 : Option Addr) (c1 : Nat) (l1 : List Bool) (r : Bool) (w : World) (hr0_1 : Kd.C (Kd.int .i64) w A0_1 l0_1.length l0_1) (hc0_1 : l0_1.length ≤ c0_1) (hr0_2 : Kd.C (Kd.int .i64) w A0_2 l0_2.length l0_2) (hc0_2 : l0_2.length ≤ c0_2) (hr0_3 : Kd.C Kd.bool w A0_3 l0_3.length l0_3) (hc0_3 : l0_3.length ≤ c0_3) (hr1 : Kd.C Kd.bool w A1 l1.length l1) (hc1 : l1.length ≤ c1) (h : impl_isView.f k a0_0 l0_1 l0_2 l0_3 l1 = some r) :
  Calls Try.prog 21 #[.agg #[.int .i64 a0_0, .slice A0_1 l0_1.length c0_1, .slice A0_2 l0_2.length c0_2, .slice A0_3 l0_3.length c0_3], .slice A1 l1.length c1] w fun e w' => e = .returned (.bool r) ∧ Below w.heap.size w w' := by
 have hu27 := Try.underlying27; have HR0_1 := sd_ hr0_1; have HC0_1 := sd_ hc0_1; clear hr0_1 hc0_1; have HR0_2 := sd_ hr0_2; have HC0_2 := sd_ hc0_2; clear hr0_2 hc0_2; have HR0_3 := sd_ hr0_3; have HC0_3 := sd_ hc0_3; clear hr0_3 hc0_3; have HR1 := sd_ hr1; have HC1 := sd_ hc1; clear hr1 hc1; have HB := sd_ (Below.refl w.heap.size w); have H : (if 1 < (l1.length : Int) then (if rdOf false l1 1 = true then (if 0 < (l1.length : Int) then (impl_isView.j0 k l1 (rdOf false l1 0) a0_0 l0_1 l0_2 l0_3) else (none)) else (impl_isView.j0 k l1 true a0_0 l0_1 l0_2 l0_3)) else (none)) = some r := h; clear h; have HC3 := sd_ H; clear H; go_enter Try.func21, Try.ntmps21; go_upto_region 1 with (first | ((with_reducible refine gate_dst (N := 2) rfl ?_); refine bx_ (N := 2) (cs := #[.int .i64 a0_0, .slice A0_1 l0_1.length c0_1, .slice A0_2 l0_2.length c0_2, .slice A0_3 l0_3.length c0_3]) (t := 27) ?_; intro Q0 hg w4 hbox hb; have J0 := sd_ (hbox); have Y7 := sd_ (gs_ hg (bw0_ HB.out)); have J7 := sd_ (gs_ hg (bw0_ HB.out)); replace HB := sd_ (below_step (bw0_ HB.out) hb); clear hb hbox hg)); (try simp only [Act.put, List.setIfInBounds_toArray, List.set_cons_zero, List.set_cons_succ])
 go_cut [15] (fun v15 wc => ∃ (kq : Nat) (x15_2 : Bool), v15 = .bool x15_2 ∧ Aside0 (impl_isView.j0 kq l1 x15_2 a0_0 l0_1 l0_2 l0_3 = some r) ∧ Aside0 (kq ≤ k) ∧ Aside0 (wc.heap[Q0]? = some (.cells #[.int .i64 a0_0, (.slice A0_1 l0_1.length c0_1), (.slice A0_2 l0_2.length c0_2), (.slice A0_3 l0_3.length c0_3)] 27 (0, 0))) ∧ Aside0 (Below w.heap.size w wc))
 case first =>
  have H := HC3.out; clear HC3
  revert H; refine ip_ fun c5 H => ?_
  have c5b0 : decide (1 < (l1.length : Int)) = true := decide_eq_true c5; have c5b1 : decide (1 < l1.length) = true := decide_eq_true (by omega); clear c5; (first | rw [c5b0] | rw [c5b1] | (simp only [i64_w, i32_w]; rw [c5b0]) | skip); generalize hbq6 : rdOf false l1 1 = bq6 at H; have Nbq6 := sd_ hbq6.symm; clear hbq6; obtain rfl | rfl := bt_ bq6
  ·replace H := it_ H
   revert H; refine ip_ fun c8 H => ?_
   have c8b0 : decide (0 < (l1.length : Int)) = true := decide_eq_true c8; have c8b1 : decide (0 < l1.length) = true := decide_eq_true (by omega); clear c8; have H' := sd_ H; clear H; have p168 : 0 ≤ (1 : Int) := (by omega); have q168 : 1 < (l1.length : Int) := dt_; obtain ⟨Q5, e168, hx168_0⟩ := Kd.at_bool HR1.out 1 p168 q168; (try rw [← Nbq6.out] at hx168_0)
   cases e168
   (try simp only [show (1 : Int).toNat = 1 from rfl, Nat.reduceMul, Nat.reduceEqDiff, Go.Addr.add, ↓reduceIte] at hx168_0); have qi168 : (1 < l1.length) = True := eq_true (by omega); (try rw [show ((1 : Int)).toNat = 1 from rfl] at hx168_0); replace hx168_0 := (HB.out.cell (World.block_lt_of_cell? w _ hx168_0)).trans hx168_0; replace p168 := eq_true p168; replace q168 := eq_true q168; have p169 : 0 ≤ (0 : Int) := (by omega); have q169 : 0 < (l1.length : Int) := dt_; obtain ⟨Q8, e169, hx169_0⟩ := Kd.at_bool HR1.out 0 p169 q169; (try rw [← Nbq6.out] at hx169_0); obtain rfl : Q5 = Q8 := (by injection e169); have qi169 : (0 < l1.length) = True := eq_true (by omega); (try rw [show ((0 : Int)).toNat = 0 from rfl] at hx169_0); (try rw [Addr.add_zero'] at hx169_0); replace hx169_0 := (HB.out.cell (World.block_lt_of_cell? w _ hx169_0)).trans hx169_0; replace p169 := eq_true p169; replace q169 := eq_true q169; go_wp2; go_meet
   case rel => exact ⟨_, (rdOf false l1 0), sm_, H', ⟨by first | omega | exact Nat.le_refl _⟩, ⟨bz_ J0.out⟩, ⟨bw1_ HB.out J7.out⟩⟩
  replace H := if_ H; have H' := sd_ H; clear H; have p168 : 0 ≤ (1 : Int) := (by omega); have q168 : 1 < (l1.length : Int) := dt_; obtain ⟨Q5, e168, hx168_0⟩ := Kd.at_bool HR1.out 1 p168 q168; (try rw [← Nbq6.out] at hx168_0)
  cases e168
  (try simp only [show (1 : Int).toNat = 1 from rfl, Nat.reduceMul, Nat.reduceEqDiff, Go.Addr.add, ↓reduceIte] at hx168_0); have qi168 : (1 < l1.length) = True := eq_true (by omega); (try rw [show ((1 : Int)).toNat = 1 from rfl] at hx168_0); replace hx168_0 := (HB.out.cell (World.block_lt_of_cell? w _ hx168_0)).trans hx168_0; replace p168 := eq_true p168; replace q168 := eq_true q168; go_wp2; go_meet
  case rel => exact ⟨_, (true), sm_, H', ⟨by first | omega | exact Nat.le_refl _⟩, ⟨bz_ J0.out⟩, ⟨bw1_ HB.out J7.out⟩⟩
 case rest =>
  clear HC3; (try clear c1); (try clear c2); obtain ⟨kq, x15_2, rfl, HA, HJ2, J0, HB⟩ := hcut
  cases kq with
  | zero => exact absurd HA.out (by simp [impl_isView.j0])
  | succ kj2 =>
   have H := HA.out; clear HA; simp only [impl_isView.j0] at H; obtain rfl | rfl := bt_ x15_2
   ·replace H := it_ H; obtain rfl := Option.some.inj H; go_wp2; go_ret; exact ⟨an_, bw1_ HB.out J7.out⟩
   replace H := if_ H; have H' := sd_ H; clear H; go_wp2
   go_loopg [5] kj2 (fun kq v5 w' => ∃ (x5_2 : Int), v5 = .int .i64 x5_2 ∧ Aside0 (impl_isView.l0 kq l1 x5_2 a0_0 l0_1 l0_2 l0_3 = some r) ∧ Aside0 (kq ≤ kj2) ∧ Aside0 (w'.heap[Q0]? = some (.cells #[.int .i64 a0_0, (.slice A0_1 l0_1.length c0_1), (.slice A0_2 l0_2.length c0_2), (.slice A0_3 l0_3.length c0_3)] 27 (0, 0))) ∧ Aside0 (Below w.heap.size w w'))
   case atStart => exact ⟨(0), sm_, H', ⟨Nat.le_refl _⟩, ⟨bz_ J0.out⟩, ⟨bw1_ HB.out J7.out⟩⟩
   case round =>
    clear H'; (try clear c1); (try clear c2); (try clear p2); (try clear c9); obtain ⟨x5_2, rfl, HA, HK2, J0, HB⟩ := hrel
    cases gk with
    | zero => exact absurd HA.out (by simp [impl_isView.l0])
    | succ k2 =>
     have H := HA.out; clear HA; simp only [impl_isView.l0] at H; revert H; refine ic_ (fun Q6 H => ?_) (fun Q6 H => ?_)
     ·have H' := sd_ H; clear H; obtain ⟨Q9, Z0, Z1, Z2, Z3, Z4, Z5, Z6⟩ := bf4_ J0.out; go_wp2
      go_loopg [6] k2 (fun kq v6 w' => ∃ (x6_3 : Int), v6 = .int .i64 x6_3 ∧ Aside0 (impl_isView.l1 kq l1 x5_2 x6_3 a0_0 l0_1 l0_2 l0_3 = some r) ∧ Aside0 (kq ≤ k2) ∧ Aside0 (w'.heap[Q0]? = some (.cells #[.int .i64 a0_0, (.slice A0_1 l0_1.length c0_1), (.slice A0_2 l0_2.length c0_2), (.slice A0_3 l0_3.length c0_3)] 27 (0, 0))) ∧ Aside0 (Below w.heap.size w w'))
      case atStart => exact ⟨(0), sm_, H', ⟨Nat.le_refl _⟩, ⟨bz_ J0.out⟩, ⟨bw1_ HB.out J7.out⟩⟩
      case round =>
       clear H'; (try clear c1); (try clear c2); (try clear p2); (try clear c9); (try clear c10); (try clear Q6); (try clear Q9 Z0 Z1 Z2 Z3 Z4 Z5 Z6); (try clear p2); obtain ⟨x6_3, rfl, HA, HK3, J0, HB⟩ := hrel
       cases gk with
       | zero => exact absurd HA.out (by simp [impl_isView.l1])
       | succ k3 =>
        have H := HA.out; clear HA; simp only [impl_isView.l1] at H; revert H; refine ic_ (fun Z7 H => ?_) (fun Z7 H => ?_)
        ·revert H; refine ob_ fun J2 A13 H => ?_
         revert H; refine ih_ fun Y8 H => ?_
         revert H; refine ih_ fun Y9 H => ?_
         revert H; refine ih_ fun X0 H => ?_
         revert H; refine ih_ fun X1 H => ?_
         generalize hbq18 : rdOf false l1 x5_2 = bq18 at H; have Nbq18 := sd_ hbq18.symm; clear hbq18; obtain rfl | rfl := bt_ bq18
         ·replace H := it_ H; by_cases c20 : ((rdOf false l1 J2) != true) = true
          ·rw [if_pos c20] at H; have K5 : ((rdOf false l1 J2) != true) = true := c20; (try (have Z8 : decide ((rdOf false l1 J2) = true) = false := by simpa using c20)); (try (have Z9 : ((rdOf false l1 J2) == true) = false := by simpa using c20)); (try (have X2 : ¬ ((rdOf false l1 J2) = true) := by simpa using c20)); clear c20; obtain rfl := Option.some.inj H; obtain ⟨X3, X4, X5, X6, X7, X8, X9, W0⟩ := bf4_ J0.out
           try go_wp2
           (try (have c20s := K5; (try simp only [← Nbq18.out] at c20s); (try simp at c20s))); obtain ⟨J1, e171, hx171_0, p171, q171⟩ := ab_ HR1.out HB.out J2; (try rw [← Nbq18.out] at hx171_0)
           cases e171
           obtain ⟨J8, e172, hx172_0, p172, q172⟩ := ab_ HR1.out HB.out x5_2; (try rw [← Nbq18.out] at hx172_0); obtain rfl : J1 = J8 := (by injection e172); refine qb_region (by kernel_rfl) (by kernel_rfl) ?_
           have HQ := fun (wq : World) (hq : Below wr.heap.size wr wq) => below_step HB.out hq
           repeat ((first | (apply qb_skip; (focus rfl)) | (refine qb_callN 32 rfl ?_; apply qb_call 32 rfl Try.func33 (by kernel_rfl) rfl rfl; (focus rfl); (focus (exact fun wq9 hb9 => qb_b hb9 (impl_System_plus.calls a0_0 _ _ l0_1 _ _ l0_2 _ _ l0_3 x5_2 x6_3 J2 _ (qy_ HR0_1 (HQ _ hb9)) HC0_1.out (qy_ HR0_2 (HQ _ hb9)) HC0_2.out (qy_ HR0_3 (HQ _ hb9)) HC0_3.out A13.out))); (focus (rfl))) | (apply qb_val; (focus rfl); (focus (intro wq9 _; go_simp; with_reducible rfl))) | (apply qb_val; (focus rfl); (focus (intro wq9 hb9_; have hb9 : Below wr.heap.size wr wq9 := hb9_; have J0 := sd_ (blk_below J0.out hb9); obtain ⟨hc9_167_0, hc9_167_1, hc9_167_2, hc9_167_3⟩ := bc4_ J0.out; have hx171_0 := qx_ hb9 hx171_0; have hx172_0 := qx_ hb9 hx172_0; go_simp; with_reducible rfl)))); (focus (simp only [Act.put, List.setIfInBounds_toArray, List.set_cons_zero, List.set_cons_succ, i64_w, i32_w]; rfl)))
           refine qb_nil ?_; intro w23 hb; replace J0 := sd_ (blk_below J0.out hb); replace HB := sd_ (below_step HB.out hb); clear hb; (try clear HQ)
           try go_wp2
           go_ret; exact ⟨an_, bw1_ HB.out J7.out⟩
          rw [if_neg c20] at H
          have K5 : ((rdOf false l1 J2) != true) = false := by simpa using c20
          (try (have Z8 : decide ((rdOf false l1 J2) = true) = true := by simpa using c20)); (try (have Z9 : ((rdOf false l1 J2) == true) = true := by simpa using c20)); clear c20
          revert H; refine ob_ fun J9 A24 H => ?_
          revert H; refine ih_ fun W5 H => ?_
          revert H; refine ih_ fun W6 H => ?_
          revert H; refine ih_ fun W7 H => ?_
          revert H; refine ih_ fun W8 H => ?_
          by_cases c29 : ((rdOf false l1 J9) != (rdOf false l1 x6_3)) = true
          ·rw [if_pos c29] at H; have K6 : ((rdOf false l1 J9) != (rdOf false l1 x6_3)) = true := c29; (try (have Y0 : decide ((rdOf false l1 J9) = (rdOf false l1 x6_3)) = false := by simpa using c29)); (try (have Y1 : ((rdOf false l1 J9) == (rdOf false l1 x6_3)) = false := by simpa using c29)); (try (have W9 : ¬ ((rdOf false l1 J9) = (rdOf false l1 x6_3)) := by simpa using c29)); clear c29; obtain rfl := Option.some.inj H; obtain ⟨V0, V1, V2, V3, V4, V5, V6, V7⟩ := bf4_ J0.out
           try go_wp2
           (try (have c20s := K5; (try simp only [← Nbq18.out] at c20s); (try simp at c20s))); (try (have c29s := K6; (try simp only [← Nbq18.out] at c29s); (try simp at c29s))); obtain ⟨J1, e171, hx171_0, p171, q171⟩ := ab_ HR1.out HB.out J2; (try rw [← Nbq18.out] at hx171_0)
           cases e171
           obtain ⟨J8, e172, hx172_0, p172, q172⟩ := ab_ HR1.out HB.out x5_2; (try rw [← Nbq18.out] at hx172_0); obtain rfl : J1 = J8 := (by injection e172); obtain ⟨K1, e174, hx174_0, p174, q174⟩ := ab_ HR1.out HB.out J9; (try rw [← Nbq18.out] at hx174_0); obtain rfl : J1 = K1 := (by injection e174); obtain ⟨K2, e175, hx175_0, p175, q175⟩ := ab_ HR1.out HB.out x5_2; (try rw [← Nbq18.out] at hx175_0); obtain rfl : J1 = K2 := (by injection e175); obtain ⟨K3, e176, hx176_0, p176, q176⟩ := ab_ HR1.out HB.out x6_3; (try rw [← Nbq18.out] at hx176_0); obtain rfl : J1 = K3 := (by injection e176); refine qb_region (by kernel_rfl) (by kernel_rfl) ?_
           have HQ := fun (wq : World) (hq : Below wr.heap.size wr wq) => below_step HB.out hq
           repeat ((first | (apply qb_skip; (focus rfl)) | (refine qb_callN 32 rfl ?_; apply qb_call 32 rfl Try.func33 (by kernel_rfl) rfl rfl; (focus rfl); (focus (exact fun wq9 hb9 => qb_b hb9 (impl_System_plus.calls a0_0 _ _ l0_1 _ _ l0_2 _ _ l0_3 x5_2 x6_3 J2 _ (qy_ HR0_1 (HQ _ hb9)) HC0_1.out (qy_ HR0_2 (HQ _ hb9)) HC0_2.out (qy_ HR0_3 (HQ _ hb9)) HC0_3.out A13.out))); (focus (rfl))) | (refine qb_callN 51 rfl ?_; apply qb_call 51 rfl Try.func34 (by kernel_rfl) rfl rfl; (focus rfl); (focus (exact fun wq9 hb9 => qb_b hb9 (impl_System_times.calls a0_0 _ _ l0_1 _ _ l0_2 _ _ l0_3 x5_2 x6_3 J9 _ (qy_ HR0_1 (HQ _ hb9)) HC0_1.out (qy_ HR0_2 (HQ _ hb9)) HC0_2.out (qy_ HR0_3 (HQ _ hb9)) HC0_3.out A24.out))); (focus (rfl))) | (apply qb_val; (focus rfl); (focus (intro wq9 _; go_simp; with_reducible rfl))) | (apply qb_val; (focus rfl); (focus (intro wq9 hb9_; have hb9 : Below wr.heap.size wr wq9 := hb9_; have J0 := sd_ (blk_below J0.out hb9); obtain ⟨hc9_167_0, hc9_167_1, hc9_167_2, hc9_167_3⟩ := bc4_ J0.out; have hx171_0 := qx_ hb9 hx171_0; have hx172_0 := qx_ hb9 hx172_0; have hx174_0 := qx_ hb9 hx174_0; have hx175_0 := qx_ hb9 hx175_0; have hx176_0 := qx_ hb9 hx176_0; go_simp; with_reducible rfl)))); (focus (simp only [Act.put, List.setIfInBounds_toArray, List.set_cons_zero, List.set_cons_succ, i64_w, i32_w]; rfl)))
           refine qb_nil ?_; intro w33 hb; replace J0 := sd_ (blk_below J0.out hb); replace HB := sd_ (below_step HB.out hb); clear hb; (try clear HQ)
           try go_wp2
           go_ret; exact ⟨an_, bw1_ HB.out J7.out⟩
          rw [if_neg c29] at H
          have K6 : ((rdOf false l1 J9) != (rdOf false l1 x6_3)) = false := by simpa using c29
          (try (have Y0 : decide ((rdOf false l1 J9) = (rdOf false l1 x6_3)) = true := by simpa using c29)); (try (have Y1 : ((rdOf false l1 J9) == (rdOf false l1 x6_3)) = true := by simpa using c29)); clear c29
          revert H; refine ob_ fun Q7 A34 H => ?_
          obtain rfl | rfl := bt_ Q7
          ·replace H := it_ H; generalize hbq36 : rdOf false l1 x6_3 = bq36 at H; have Nbq36 := sd_ hbq36.symm; clear hbq36; obtain rfl | rfl := bt_ bq36
           ·replace H := it_ H; have H' := sd_ H; clear H; obtain ⟨V8, V9, U0, U1, U2, U3, U4, U5⟩ := bf4_ J0.out
            try go_wp2
            (try (have c20s := K5; (try simp only [← Nbq18.out, ← Nbq36.out] at c20s); (try simp at c20s))); (try (have c29s := K6; (try simp only [← Nbq18.out, ← Nbq36.out] at c29s); (try simp at c29s))); obtain ⟨J1, e171, hx171_0, p171, q171⟩ := ab_ HR1.out HB.out J2; (try rw [← Nbq18.out] at hx171_0); (try rw [← Nbq36.out] at hx171_0)
            cases e171
            obtain ⟨J8, e172, hx172_0, p172, q172⟩ := ab_ HR1.out HB.out x5_2; (try rw [← Nbq18.out] at hx172_0); (try rw [← Nbq36.out] at hx172_0); obtain rfl : J1 = J8 := (by injection e172); obtain ⟨K1, e174, hx174_0, p174, q174⟩ := ab_ HR1.out HB.out J9; (try rw [← Nbq18.out] at hx174_0); (try rw [← Nbq36.out] at hx174_0); obtain rfl : J1 = K1 := (by injection e174); obtain ⟨K2, e175, hx175_0, p175, q175⟩ := ab_ HR1.out HB.out x5_2; (try rw [← Nbq18.out] at hx175_0); (try rw [← Nbq36.out] at hx175_0); obtain rfl : J1 = K2 := (by injection e175); obtain ⟨K3, e176, hx176_0, p176, q176⟩ := ab_ HR1.out HB.out x6_3; (try rw [← Nbq18.out] at hx176_0); (try rw [← Nbq36.out] at hx176_0); obtain rfl : J1 = K3 := (by injection e176); obtain ⟨K7, e177, hx177_0, p177, q177⟩ := ab_ HR1.out HB.out x5_2; (try rw [← Nbq18.out] at hx177_0); (try rw [← Nbq36.out] at hx177_0); obtain rfl : J1 = K7 := (by injection e177); obtain ⟨Q1, e179, hx179_0, p179, q179⟩ := ab_ HR1.out HB.out x6_3; (try rw [← Nbq18.out] at hx179_0); (try rw [← Nbq36.out] at hx179_0); obtain rfl : J1 = Q1 := (by injection e179); refine qb_region (by kernel_rfl) (by kernel_rfl) ?_
            have HQ := fun (wq : World) (hq : Below wr.heap.size wr wq) => below_step HB.out hq
            repeat ((first | (apply qb_skip; (focus rfl)) | (refine qb_callN 32 rfl ?_; apply qb_call 32 rfl Try.func33 (by kernel_rfl) rfl rfl; (focus rfl); (focus (exact fun wq9 hb9 => qb_b hb9 (impl_System_plus.calls a0_0 _ _ l0_1 _ _ l0_2 _ _ l0_3 x5_2 x6_3 J2 _ (qy_ HR0_1 (HQ _ hb9)) HC0_1.out (qy_ HR0_2 (HQ _ hb9)) HC0_2.out (qy_ HR0_3 (HQ _ hb9)) HC0_3.out A13.out))); (focus (rfl))) | (refine qb_callN 51 rfl ?_; apply qb_call 51 rfl Try.func34 (by kernel_rfl) rfl rfl; (focus rfl); (focus (exact fun wq9 hb9 => qb_b hb9 (impl_System_times.calls a0_0 _ _ l0_1 _ _ l0_2 _ _ l0_3 x5_2 x6_3 J9 _ (qy_ HR0_1 (HQ _ hb9)) HC0_1.out (qy_ HR0_2 (HQ _ hb9)) HC0_2.out (qy_ HR0_3 (HQ _ hb9)) HC0_3.out A24.out))); (focus (rfl))) | (refine qb_callN 75 rfl ?_; apply qb_call 75 rfl Try.func35 (by kernel_rfl) rfl rfl; (focus rfl); (focus (exact fun wq9 hb9 => qb_b hb9 (impl_System_below.calls a0_0 _ _ l0_1 _ _ l0_2 _ _ l0_3 x5_2 x6_3 true _ (qy_ HR0_1 (HQ _ hb9)) HC0_1.out (qy_ HR0_2 (HQ _ hb9)) HC0_2.out (qy_ HR0_3 (HQ _ hb9)) HC0_3.out A34.out))); (focus (rfl))) | (apply qb_val; (focus rfl); (focus (intro wq9 _; go_simp; with_reducible rfl))) | (apply qb_val; (focus rfl); (focus (intro wq9 hb9_; have hb9 : Below wr.heap.size wr wq9 := hb9_; have J0 := sd_ (blk_below J0.out hb9); obtain ⟨hc9_167_0, hc9_167_1, hc9_167_2, hc9_167_3⟩ := bc4_ J0.out; have hx171_0 := qx_ hb9 hx171_0; have hx172_0 := qx_ hb9 hx172_0; have hx174_0 := qx_ hb9 hx174_0; have hx175_0 := qx_ hb9 hx175_0; have hx176_0 := qx_ hb9 hx176_0; have hx177_0 := qx_ hb9 hx177_0; have hx179_0 := qx_ hb9 hx179_0; go_simp; with_reducible rfl)))); (focus (simp only [Act.put, List.setIfInBounds_toArray, List.set_cons_zero, List.set_cons_succ, i64_w, i32_w]; rfl)))
            refine qb_nil ?_; intro w42 hb; replace J0 := sd_ (blk_below J0.out hb); replace HB := sd_ (below_step HB.out hb); clear hb; (try clear HQ)
            try go_wp2
            go_roundg k3
            case measure => have := HJ2.out; have := HK2.out; have := HK3.out; omega
            case rel => exact ⟨(wrap64 (x6_3 + 1)), sm_, H', ⟨by have := HJ2.out; have := HK2.out; have := HK3.out; omega⟩, ⟨bz_ J0.out⟩, ⟨bw1_ HB.out J7.out⟩⟩
           replace H := if_ H; obtain rfl := Option.some.inj H; obtain ⟨U6, U7, U8, U9, G0, G1, G2, G3⟩ := bf4_ J0.out
           try go_wp2
           (try (have c20s := K5; (try simp only [← Nbq18.out, ← Nbq36.out] at c20s); (try simp at c20s))); (try (have c29s := K6; (try simp only [← Nbq18.out, ← Nbq36.out] at c29s); (try simp at c29s))); obtain ⟨J1, e171, hx171_0, p171, q171⟩ := ab_ HR1.out HB.out J2; (try rw [← Nbq18.out] at hx171_0); (try rw [← Nbq36.out] at hx171_0)
           cases e171
           obtain ⟨J8, e172, hx172_0, p172, q172⟩ := ab_ HR1.out HB.out x5_2; (try rw [← Nbq18.out] at hx172_0); (try rw [← Nbq36.out] at hx172_0); obtain rfl : J1 = J8 := (by injection e172); obtain ⟨K1, e174, hx174_0, p174, q174⟩ := ab_ HR1.out HB.out J9; (try rw [← Nbq18.out] at hx174_0); (try rw [← Nbq36.out] at hx174_0); obtain rfl : J1 = K1 := (by injection e174); obtain ⟨K2, e175, hx175_0, p175, q175⟩ := ab_ HR1.out HB.out x5_2; (try rw [← Nbq18.out] at hx175_0); (try rw [← Nbq36.out] at hx175_0); obtain rfl : J1 = K2 := (by injection e175); obtain ⟨K3, e176, hx176_0, p176, q176⟩ := ab_ HR1.out HB.out x6_3; (try rw [← Nbq18.out] at hx176_0); (try rw [← Nbq36.out] at hx176_0); obtain rfl : J1 = K3 := (by injection e176); obtain ⟨K7, e177, hx177_0, p177, q177⟩ := ab_ HR1.out HB.out x5_2; (try rw [← Nbq18.out] at hx177_0); (try rw [← Nbq36.out] at hx177_0); obtain rfl : J1 = K7 := (by injection e177); obtain ⟨Q1, e179, hx179_0, p179, q179⟩ := ab_ HR1.out HB.out x6_3; (try rw [← Nbq18.out] at hx179_0); (try rw [← Nbq36.out] at hx179_0); obtain rfl : J1 = Q1 := (by injection e179); refine qb_region (by kernel_rfl) (by kernel_rfl) ?_
           have HQ := fun (wq : World) (hq : Below wr.heap.size wr wq) => below_step HB.out hq
           repeat ((first | (apply qb_skip; (focus rfl)) | (refine qb_callN 32 rfl ?_; apply qb_call 32 rfl Try.func33 (by kernel_rfl) rfl rfl; (focus rfl); (focus (exact fun wq9 hb9 => qb_b hb9 (impl_System_plus.calls a0_0 _ _ l0_1 _ _ l0_2 _ _ l0_3 x5_2 x6_3 J2 _ (qy_ HR0_1 (HQ _ hb9)) HC0_1.out (qy_ HR0_2 (HQ _ hb9)) HC0_2.out (qy_ HR0_3 (HQ _ hb9)) HC0_3.out A13.out))); (focus (rfl))) | (refine qb_callN 51 rfl ?_; apply qb_call 51 rfl Try.func34 (by kernel_rfl) rfl rfl; (focus rfl); (focus (exact fun wq9 hb9 => qb_b hb9 (impl_System_times.calls a0_0 _ _ l0_1 _ _ l0_2 _ _ l0_3 x5_2 x6_3 J9 _ (qy_ HR0_1 (HQ _ hb9)) HC0_1.out (qy_ HR0_2 (HQ _ hb9)) HC0_2.out (qy_ HR0_3 (HQ _ hb9)) HC0_3.out A24.out))); (focus (rfl))) | (refine qb_callN 75 rfl ?_; apply qb_call 75 rfl Try.func35 (by kernel_rfl) rfl rfl; (focus rfl); (focus (exact fun wq9 hb9 => qb_b hb9 (impl_System_below.calls a0_0 _ _ l0_1 _ _ l0_2 _ _ l0_3 x5_2 x6_3 true _ (qy_ HR0_1 (HQ _ hb9)) HC0_1.out (qy_ HR0_2 (HQ _ hb9)) HC0_2.out (qy_ HR0_3 (HQ _ hb9)) HC0_3.out A34.out))); (focus (rfl))) | (apply qb_val; (focus rfl); (focus (intro wq9 _; go_simp; with_reducible rfl))) | (apply qb_val; (focus rfl); (focus (intro wq9 hb9_; have hb9 : Below wr.heap.size wr wq9 := hb9_; have J0 := sd_ (blk_below J0.out hb9); obtain ⟨hc9_167_0, hc9_167_1, hc9_167_2, hc9_167_3⟩ := bc4_ J0.out; have hx171_0 := qx_ hb9 hx171_0; have hx172_0 := qx_ hb9 hx172_0; have hx174_0 := qx_ hb9 hx174_0; have hx175_0 := qx_ hb9 hx175_0; have hx176_0 := qx_ hb9 hx176_0; have hx177_0 := qx_ hb9 hx177_0; have hx179_0 := qx_ hb9 hx179_0; go_simp; with_reducible rfl)))); (focus (simp only [Act.put, List.setIfInBounds_toArray, List.set_cons_zero, List.set_cons_succ, i64_w, i32_w]; rfl)))
           refine qb_nil ?_; intro w47 hb; replace J0 := sd_ (blk_below J0.out hb); replace HB := sd_ (below_step HB.out hb); clear hb; (try clear HQ)
           try go_wp2
           go_ret; exact ⟨an_, bw1_ HB.out J7.out⟩
          replace H := if_ H; have H' := sd_ H; clear H; obtain ⟨G4, G5, G6, G7, G8, G9, E0, E1⟩ := bf4_ J0.out
          try go_wp2
          (try (have c20s := K5; (try simp only [← Nbq18.out] at c20s); (try simp at c20s))); (try (have c29s := K6; (try simp only [← Nbq18.out] at c29s); (try simp at c29s))); obtain ⟨J1, e171, hx171_0, p171, q171⟩ := ab_ HR1.out HB.out J2; (try rw [← Nbq18.out] at hx171_0)
          cases e171
          obtain ⟨J8, e172, hx172_0, p172, q172⟩ := ab_ HR1.out HB.out x5_2; (try rw [← Nbq18.out] at hx172_0); obtain rfl : J1 = J8 := (by injection e172); obtain ⟨K1, e174, hx174_0, p174, q174⟩ := ab_ HR1.out HB.out J9; (try rw [← Nbq18.out] at hx174_0); obtain rfl : J1 = K1 := (by injection e174); obtain ⟨K2, e175, hx175_0, p175, q175⟩ := ab_ HR1.out HB.out x5_2; (try rw [← Nbq18.out] at hx175_0); obtain rfl : J1 = K2 := (by injection e175); obtain ⟨K3, e176, hx176_0, p176, q176⟩ := ab_ HR1.out HB.out x6_3; (try rw [← Nbq18.out] at hx176_0); obtain rfl : J1 = K3 := (by injection e176); obtain ⟨K7, e177, hx177_0, p177, q177⟩ := ab_ HR1.out HB.out x5_2; (try rw [← Nbq18.out] at hx177_0); obtain rfl : J1 = K7 := (by injection e177); refine qb_region (by kernel_rfl) (by kernel_rfl) ?_
          have HQ := fun (wq : World) (hq : Below wr.heap.size wr wq) => below_step HB.out hq
          repeat ((first | (apply qb_skip; (focus rfl)) | (refine qb_callN 32 rfl ?_; apply qb_call 32 rfl Try.func33 (by kernel_rfl) rfl rfl; (focus rfl); (focus (exact fun wq9 hb9 => qb_b hb9 (impl_System_plus.calls a0_0 _ _ l0_1 _ _ l0_2 _ _ l0_3 x5_2 x6_3 J2 _ (qy_ HR0_1 (HQ _ hb9)) HC0_1.out (qy_ HR0_2 (HQ _ hb9)) HC0_2.out (qy_ HR0_3 (HQ _ hb9)) HC0_3.out A13.out))); (focus (rfl))) | (refine qb_callN 51 rfl ?_; apply qb_call 51 rfl Try.func34 (by kernel_rfl) rfl rfl; (focus rfl); (focus (exact fun wq9 hb9 => qb_b hb9 (impl_System_times.calls a0_0 _ _ l0_1 _ _ l0_2 _ _ l0_3 x5_2 x6_3 J9 _ (qy_ HR0_1 (HQ _ hb9)) HC0_1.out (qy_ HR0_2 (HQ _ hb9)) HC0_2.out (qy_ HR0_3 (HQ _ hb9)) HC0_3.out A24.out))); (focus (rfl))) | (refine qb_callN 75 rfl ?_; apply qb_call 75 rfl Try.func35 (by kernel_rfl) rfl rfl; (focus rfl); (focus (exact fun wq9 hb9 => qb_b hb9 (impl_System_below.calls a0_0 _ _ l0_1 _ _ l0_2 _ _ l0_3 x5_2 x6_3 false _ (qy_ HR0_1 (HQ _ hb9)) HC0_1.out (qy_ HR0_2 (HQ _ hb9)) HC0_2.out (qy_ HR0_3 (HQ _ hb9)) HC0_3.out A34.out))); (focus (rfl))) | (apply qb_val; (focus rfl); (focus (intro wq9 _; go_simp; with_reducible rfl))) | (apply qb_val; (focus rfl); (focus (intro wq9 hb9_; have hb9 : Below wr.heap.size wr wq9 := hb9_; have J0 := sd_ (blk_below J0.out hb9); obtain ⟨hc9_167_0, hc9_167_1, hc9_167_2, hc9_167_3⟩ := bc4_ J0.out; have hx171_0 := qx_ hb9 hx171_0; have hx172_0 := qx_ hb9 hx172_0; have hx174_0 := qx_ hb9 hx174_0; have hx175_0 := qx_ hb9 hx175_0; have hx176_0 := qx_ hb9 hx176_0; have hx177_0 := qx_ hb9 hx177_0; go_simp; with_reducible rfl)))); (focus (simp only [Act.put, List.setIfInBounds_toArray, List.set_cons_zero, List.set_cons_succ, i64_w, i32_w]; rfl)))
          refine qb_nil ?_; intro w52 hb; replace J0 := sd_ (blk_below J0.out hb); replace HB := sd_ (below_step HB.out hb); clear hb; (try clear HQ)
          try go_wp2
          go_roundg k3
          case measure => have := HJ2.out; have := HK2.out; have := HK3.out; omega
          case rel => exact ⟨(wrap64 (x6_3 + 1)), sm_, H', ⟨by have := HJ2.out; have := HK2.out; have := HK3.out; omega⟩, ⟨bz_ J0.out⟩, ⟨bw1_ HB.out J7.out⟩⟩
         replace H := if_ H
         revert H; refine ih_ fun E2 H => ?_
         revert H; refine ih_ fun E3 H => ?_
         by_cases c55 : ((rdOf false l1 J2) != (rdOf false l1 x6_3)) = true
         ·rw [if_pos c55] at H; have K9 : ((rdOf false l1 J2) != (rdOf false l1 x6_3)) = true := c55; (try (have Y2 : decide ((rdOf false l1 J2) = (rdOf false l1 x6_3)) = false := by simpa using c55)); (try (have Y3 : ((rdOf false l1 J2) == (rdOf false l1 x6_3)) = false := by simpa using c55)); (try (have E4 : ¬ ((rdOf false l1 J2) = (rdOf false l1 x6_3)) := by simpa using c55)); clear c55; obtain rfl := Option.some.inj H; obtain ⟨E5, E6, E7, E8, E9, D0, D1, D2⟩ := bf4_ J0.out
          try go_wp2
          (try (have c55s := K9; (try simp only [← Nbq18.out] at c55s); (try simp at c55s))); obtain ⟨J1, e171, hx171_0, p171, q171⟩ := ab_ HR1.out HB.out J2; (try rw [← Nbq18.out] at hx171_0)
          cases e171
          obtain ⟨J8, e172, hx172_0, p172, q172⟩ := ab_ HR1.out HB.out x5_2; (try rw [← Nbq18.out] at hx172_0); obtain rfl : J1 = J8 := (by injection e172); obtain ⟨K8, e180, hx180_0, p180, q180⟩ := ab_ HR1.out HB.out x6_3; (try rw [← Nbq18.out] at hx180_0); obtain rfl : J1 = K8 := (by injection e180); refine qb_region (by kernel_rfl) (by kernel_rfl) ?_
          have HQ := fun (wq : World) (hq : Below wr.heap.size wr wq) => below_step HB.out hq
          repeat ((first | (apply qb_skip; (focus rfl)) | (refine qb_callN 32 rfl ?_; apply qb_call 32 rfl Try.func33 (by kernel_rfl) rfl rfl; (focus rfl); (focus (exact fun wq9 hb9 => qb_b hb9 (impl_System_plus.calls a0_0 _ _ l0_1 _ _ l0_2 _ _ l0_3 x5_2 x6_3 J2 _ (qy_ HR0_1 (HQ _ hb9)) HC0_1.out (qy_ HR0_2 (HQ _ hb9)) HC0_2.out (qy_ HR0_3 (HQ _ hb9)) HC0_3.out A13.out))); (focus (rfl))) | (apply qb_val; (focus rfl); (focus (intro wq9 _; go_simp; with_reducible rfl))) | (apply qb_val; (focus rfl); (focus (intro wq9 hb9_; have hb9 : Below wr.heap.size wr wq9 := hb9_; have J0 := sd_ (blk_below J0.out hb9); obtain ⟨hc9_167_0, hc9_167_1, hc9_167_2, hc9_167_3⟩ := bc4_ J0.out; have hx171_0 := qx_ hb9 hx171_0; have hx172_0 := qx_ hb9 hx172_0; have hx180_0 := qx_ hb9 hx180_0; go_simp; with_reducible rfl)))); (focus (simp only [Act.put, List.setIfInBounds_toArray, List.set_cons_zero, List.set_cons_succ, i64_w, i32_w]; rfl)))
          refine qb_nil ?_; intro w58 hb; replace J0 := sd_ (blk_below J0.out hb); replace HB := sd_ (below_step HB.out hb); clear hb; (try clear HQ)
          try go_wp2
          go_ret; exact ⟨an_, bw1_ HB.out J7.out⟩
         rw [if_neg c55] at H
         have K9 : ((rdOf false l1 J2) != (rdOf false l1 x6_3)) = false := by simpa using c55
         (try (have Y2 : decide ((rdOf false l1 J2) = (rdOf false l1 x6_3)) = true := by simpa using c55)); (try (have Y3 : ((rdOf false l1 J2) == (rdOf false l1 x6_3)) = true := by simpa using c55)); clear c55
         revert H; refine ob_ fun K0 A59 H => ?_
         revert H; refine ih_ fun D3 H => ?_
         revert H; refine ih_ fun D4 H => ?_
         by_cases c62 : ((rdOf false l1 K0) != false) = true
         ·rw [if_pos c62] at H; have Q2 : ((rdOf false l1 K0) != false) = true := c62; (try (have Y4 : decide ((rdOf false l1 K0) = false) = false := by simpa using c62)); (try (have Y5 : ((rdOf false l1 K0) == false) = false := by simpa using c62)); (try (have D5 : ¬ ((rdOf false l1 K0) = false) := by simpa using c62)); clear c62; obtain rfl := Option.some.inj H; obtain ⟨D6, D7, D8, D9, B0, B2, B3, B4⟩ := bf4_ J0.out
          try go_wp2
          (try (have c55s := K9; (try simp only [← Nbq18.out] at c55s); (try simp at c55s))); (try (have c62s := Q2; (try simp only [← Nbq18.out] at c62s); (try simp at c62s))); obtain ⟨J1, e171, hx171_0, p171, q171⟩ := ab_ HR1.out HB.out J2; (try rw [← Nbq18.out] at hx171_0)
          cases e171
          obtain ⟨J8, e172, hx172_0, p172, q172⟩ := ab_ HR1.out HB.out x5_2; (try rw [← Nbq18.out] at hx172_0); obtain rfl : J1 = J8 := (by injection e172); obtain ⟨K8, e180, hx180_0, p180, q180⟩ := ab_ HR1.out HB.out x6_3; (try rw [← Nbq18.out] at hx180_0); obtain rfl : J1 = K8 := (by injection e180); obtain ⟨Q3, e182, hx182_0, p182, q182⟩ := ab_ HR1.out HB.out K0; (try rw [← Nbq18.out] at hx182_0); obtain rfl : J1 = Q3 := (by injection e182); obtain ⟨Q4, e183, hx183_0, p183, q183⟩ := ab_ HR1.out HB.out x5_2; (try rw [← Nbq18.out] at hx183_0); obtain rfl : J1 = Q4 := (by injection e183); refine qb_region (by kernel_rfl) (by kernel_rfl) ?_
          have HQ := fun (wq : World) (hq : Below wr.heap.size wr wq) => below_step HB.out hq
          repeat ((first | (apply qb_skip; (focus rfl)) | (refine qb_callN 32 rfl ?_; apply qb_call 32 rfl Try.func33 (by kernel_rfl) rfl rfl; (focus rfl); (focus (exact fun wq9 hb9 => qb_b hb9 (impl_System_plus.calls a0_0 _ _ l0_1 _ _ l0_2 _ _ l0_3 x5_2 x6_3 J2 _ (qy_ HR0_1 (HQ _ hb9)) HC0_1.out (qy_ HR0_2 (HQ _ hb9)) HC0_2.out (qy_ HR0_3 (HQ _ hb9)) HC0_3.out A13.out))); (focus (rfl))) | (refine qb_callN 51 rfl ?_; apply qb_call 51 rfl Try.func34 (by kernel_rfl) rfl rfl; (focus rfl); (focus (exact fun wq9 hb9 => qb_b hb9 (impl_System_times.calls a0_0 _ _ l0_1 _ _ l0_2 _ _ l0_3 x5_2 x6_3 K0 _ (qy_ HR0_1 (HQ _ hb9)) HC0_1.out (qy_ HR0_2 (HQ _ hb9)) HC0_2.out (qy_ HR0_3 (HQ _ hb9)) HC0_3.out A59.out))); (focus (rfl))) | (apply qb_val; (focus rfl); (focus (intro wq9 _; go_simp; with_reducible rfl))) | (apply qb_val; (focus rfl); (focus (intro wq9 hb9_; have hb9 : Below wr.heap.size wr wq9 := hb9_; have J0 := sd_ (blk_below J0.out hb9); obtain ⟨hc9_167_0, hc9_167_1, hc9_167_2, hc9_167_3⟩ := bc4_ J0.out; have hx171_0 := qx_ hb9 hx171_0; have hx172_0 := qx_ hb9 hx172_0; have hx180_0 := qx_ hb9 hx180_0; have hx182_0 := qx_ hb9 hx182_0; have hx183_0 := qx_ hb9 hx183_0; go_simp; with_reducible rfl)))); (focus (simp only [Act.put, List.setIfInBounds_toArray, List.set_cons_zero, List.set_cons_succ, i64_w, i32_w]; rfl)))
          refine qb_nil ?_; intro w66 hb; replace J0 := sd_ (blk_below J0.out hb); replace HB := sd_ (below_step HB.out hb); clear hb; (try clear HQ)
          try go_wp2
          go_ret; exact ⟨an_, bw1_ HB.out J7.out⟩
         rw [if_neg c62] at H
         have Q2 : ((rdOf false l1 K0) != false) = false := by simpa using c62
         (try (have Y4 : decide ((rdOf false l1 K0) = false) = true := by simpa using c62)); (try (have Y5 : ((rdOf false l1 K0) == false) = true := by simpa using c62)); clear c62; have H' := sd_ H; clear H; obtain ⟨B5, B6, B7, B9, N0, N1, N2, N3⟩ := bf4_ J0.out
         try go_wp2
         (try (have c55s := K9; (try simp only [← Nbq18.out] at c55s); (try simp at c55s))); (try (have c62s := Q2; (try simp only [← Nbq18.out] at c62s); (try simp at c62s))); obtain ⟨J1, e171, hx171_0, p171, q171⟩ := ab_ HR1.out HB.out J2; (try rw [← Nbq18.out] at hx171_0)
         cases e171
         obtain ⟨J8, e172, hx172_0, p172, q172⟩ := ab_ HR1.out HB.out x5_2; (try rw [← Nbq18.out] at hx172_0); obtain rfl : J1 = J8 := (by injection e172); obtain ⟨K8, e180, hx180_0, p180, q180⟩ := ab_ HR1.out HB.out x6_3; (try rw [← Nbq18.out] at hx180_0); obtain rfl : J1 = K8 := (by injection e180); obtain ⟨Q3, e182, hx182_0, p182, q182⟩ := ab_ HR1.out HB.out K0; (try rw [← Nbq18.out] at hx182_0); obtain rfl : J1 = Q3 := (by injection e182); obtain ⟨Q4, e183, hx183_0, p183, q183⟩ := ab_ HR1.out HB.out x5_2; (try rw [← Nbq18.out] at hx183_0); obtain rfl : J1 = Q4 := (by injection e183); obtain ⟨Y6, e184, hx184_0, p184, q184⟩ := ab_ HR1.out HB.out x5_2; (try rw [← Nbq18.out] at hx184_0); obtain rfl : J1 = Y6 := (by injection e184); refine qb_region (by kernel_rfl) (by kernel_rfl) ?_
         have HQ := fun (wq : World) (hq : Below wr.heap.size wr wq) => below_step HB.out hq
         repeat ((first | (apply qb_skip; (focus rfl)) | (refine qb_callN 32 rfl ?_; apply qb_call 32 rfl Try.func33 (by kernel_rfl) rfl rfl; (focus rfl); (focus (exact fun wq9 hb9 => qb_b hb9 (impl_System_plus.calls a0_0 _ _ l0_1 _ _ l0_2 _ _ l0_3 x5_2 x6_3 J2 _ (qy_ HR0_1 (HQ _ hb9)) HC0_1.out (qy_ HR0_2 (HQ _ hb9)) HC0_2.out (qy_ HR0_3 (HQ _ hb9)) HC0_3.out A13.out))); (focus (rfl))) | (refine qb_callN 51 rfl ?_; apply qb_call 51 rfl Try.func34 (by kernel_rfl) rfl rfl; (focus rfl); (focus (exact fun wq9 hb9 => qb_b hb9 (impl_System_times.calls a0_0 _ _ l0_1 _ _ l0_2 _ _ l0_3 x5_2 x6_3 K0 _ (qy_ HR0_1 (HQ _ hb9)) HC0_1.out (qy_ HR0_2 (HQ _ hb9)) HC0_2.out (qy_ HR0_3 (HQ _ hb9)) HC0_3.out A59.out))); (focus (rfl))) | (apply qb_val; (focus rfl); (focus (intro wq9 _; go_simp; with_reducible rfl))) | (apply qb_val; (focus rfl); (focus (intro wq9 hb9_; have hb9 : Below wr.heap.size wr wq9 := hb9_; have J0 := sd_ (blk_below J0.out hb9); obtain ⟨hc9_167_0, hc9_167_1, hc9_167_2, hc9_167_3⟩ := bc4_ J0.out; have hx171_0 := qx_ hb9 hx171_0; have hx172_0 := qx_ hb9 hx172_0; have hx180_0 := qx_ hb9 hx180_0; have hx182_0 := qx_ hb9 hx182_0; have hx183_0 := qx_ hb9 hx183_0; have hx184_0 := qx_ hb9 hx184_0; go_simp; with_reducible rfl)))); (focus (simp only [Act.put, List.setIfInBounds_toArray, List.set_cons_zero, List.set_cons_succ, i64_w, i32_w]; rfl)))
         refine qb_nil ?_; intro w70 hb; replace J0 := sd_ (blk_below J0.out hb); replace HB := sd_ (below_step HB.out hb); clear hb; (try clear HQ)
         try go_wp2
         go_roundg k3
         case measure => have := HJ2.out; have := HK2.out; have := HK3.out; omega
         case rel => exact ⟨(wrap64 (x6_3 + 1)), sm_, H', ⟨by have := HJ2.out; have := HK2.out; have := HK3.out; omega⟩, ⟨bz_ J0.out⟩, ⟨bw1_ HB.out J7.out⟩⟩
        have H' := sd_ H; clear H; obtain ⟨N4, N5, N6, N7, N8, N9, R0, R1⟩ := bf4_ J0.out; go_wp2; go_roundg k3
        case measure => have := HJ2.out; have := HK2.out; have := HK3.out; omega
        case rel => exact ⟨(wrap64 (x5_2 + 1)), sm_, H', ⟨by have := HJ2.out; have := HK2.out; have := HK3.out; omega⟩, ⟨bz_ J0.out⟩, ⟨bw1_ HB.out J7.out⟩⟩
     obtain rfl := Option.some.inj H; obtain ⟨R2, R3, R4, R5, R6, R7, R8, R9⟩ := bf4_ J0.out; go_wp2; go_ret; exact ⟨an_, bw1_ HB.out J7.out⟩

end Go.Proofs.Ytjjkagnbdfofbaa.P
