-- Printed by this session's own program (wip/tools/mkprint.py) out of the translation. Not trusted: Lean checks it.
import Derived.Test.YtcdmnofomoadlaaM1
import Derived.Test.YtcdmnofomoadlaaPf105
import Derived.Test.YtcdmnofomoadlaaPf31
/-! short words -/
namespace Go.Proofs.Ytcdmnofomoadlaa.P
open Go.RowKit Go.Proofs.YtcdmnofomoadlaaW.PrintWords Go.Proofs.YtcdmnofomoadlaaW.PrintLast Go.Proofs.YtcdmnofomoadlaaW.PrintMore
attribute [local go_sem] max2_int min2_int max_two min_two max_three min_three max_four min_four   -- for this text's walks alone
set_option linter.unusedVariables false
set_option linter.unusedSimpArgs false

/-! ### impl_IsView: function 40 -/
def impl_IsView.l0 : Nat → List Int → List Bool → List Int → Int → Int → Int → List Int → List Int → List Bool → Option (Bool)
 | 0, _, _, _, _, _, _, _, _, _ => none
 | k + 1, x1, x5, x14, x15, x16, x564000, x564001, x564002, x564003 => if x16 < x15 then (if 0 ≤ x16 then (if x16 < (x14.length : Int) then ((impl_System_has.f x564000 x564001 x564002 x564003 (rd x14 x16)).bind fun t569 => (if t569 = true then (if x16 > 0 then (if 0 ≤ (wrap64 (x16 - 1)) then (if (wrap64 (x16 - 1)) < (x1.length : Int) then (if (rd x14 x16) ≤ (rd x1 (wrap64 (x16 - 1))) then (some false) else (if 0 ≤ (rd x14 x16) then (if (rd x14 x16) < (x5.length : Int) then (impl_IsView.l0 k x1 (x5.set ((rd x14 x16) : Int).toNat true) x14 x15 (wrap64 (x16 + 1)) x564000 x564001 x564002 x564003) else (none)) else (none))) else (none)) else (none)) else (if 0 ≤ (rd x14 x16) then (if (rd x14 x16) < (x5.length : Int) then (impl_IsView.l0 k x1 (x5.set ((rd x14 x16) : Int).toNat true) x14 x15 (wrap64 (x16 + 1)) x564000 x564001 x564002 x564003) else (none)) else (none))) else (some false))) else (none)) else (none)) else ((impl_isView.f k x564000 x564001 x564002 x564003 x5).bind fun t573 => (some t573))
def impl_IsView.f (k : Nat) (a0_0 : Int) (l0_1 : List Int) (l0_2 : List Int) (l0_3 : List Bool) (l1 : List Int) : Option (Bool) := (impl_IsSystem.f k a0_0 l0_1 l0_2 l0_3).bind fun t564 => (if t564 = true then (if 0 ≤ a0_0 then (if (a0_0 : Int).toNat ≤ 281474976710656 then (impl_IsView.l0 k l1 (List.replicate (a0_0 : Int).toNat false) l1 (l1.length : Int) 0 a0_0 l0_1 l0_2 l0_3) else (none)) else (none)) else (some false))
set_option maxHeartbeats 8000000 in
set_option maxRecDepth 100000 in
theorem impl_IsView.calls (k : Nat) (a0_0 : Int) (A0_1 : Option Addr) (c0_1 : Nat) (l0_1 : List Int) (A0_2 : Option Addr) (c0_2 : Nat) (l0_2 : List Int) (A0_3 : Option Addr) (c0_3 : Nat) (l0_3 : List Bool) (A1 : Option Addr) (c1 : Nat) (l1 : List Int) (r : Bool) (w : World) (hr0_1 : Kd.C (Kd.int .i64) w A0_1 l0_1.length l0_1) (hc0_1 : l0_1.length ≤ c0_1) (hr0_2 : Kd.C (Kd.int .i64) w A0_2 l0_2.length l0_2) (hc0_2 : l0_2.length ≤ c0_2) (hr0_3 : Kd.C Kd.bool w A0_3 l0_3.length l0_3) (hc0_3 : l0_3.length ≤ c0_3) (hr1 : Kd.C (Kd.int .i64) w A1 l1.length l1) (hc1 : l1.length ≤ c1) (h : impl_IsView.f k a0_0 l0_1 l0_2 l0_3 l1 = some r) :
  Calls Try.prog 40 #[.agg #[.int .i64 a0_0, .slice A0_1 l0_1.length c0_1, .slice A0_2 l0_2.length c0_2, .slice A0_3 l0_3.length c0_3], .slice A1 l1.length c1] w fun e w' => e = .returned (.bool r) ∧ Below w.heap.size w w' := by
 have hu27 := Try.underlying27
 have HR0_1 := sd_ hr0_1
 have HC0_1 := sd_ hc0_1
 clear hr0_1 hc0_1
 have HR0_2 := sd_ hr0_2
 have HC0_2 := sd_ hc0_2
 clear hr0_2 hc0_2
 have HR0_3 := sd_ hr0_3
 have HC0_3 := sd_ hc0_3
 clear hr0_3 hc0_3
 have HR1 := sd_ hr1
 have HC1 := sd_ hc1
 clear hr1 hc1
 have HB := sd_ (Below.refl w.heap.size w)
 have H : ((impl_IsSystem.f k a0_0 l0_1 l0_2 l0_3).bind fun t564 => (if t564 = true then (if 0 ≤ a0_0 then (if (a0_0 : Int).toNat ≤ 281474976710656 then (impl_IsView.l0 k l1 (List.replicate (a0_0 : Int).toNat false) l1 (l1.length : Int) 0 a0_0 l0_1 l0_2 l0_3) else (none)) else (none)) else (some false))) = some r := h
 clear h
 replace H := Option.bind_eq_some_iff.mp H
 obtain ⟨t564, A30, H⟩ := H
 try dsimp only at H
 have A3 := sd_ A30
 clear A30
 have HP4 := sd_ H
 clear H
 go_enter Try.func40, Try.ntmps40
 go_upto_if 10 with (first | ((with_reducible refine gate_dst (N := 2) rfl ?_); refine bx_ (N := 2) (cs := #[.int .i64 a0_0, .slice A0_1 l0_1.length c0_1, .slice A0_2 l0_2.length c0_2, .slice A0_3 l0_3.length c0_3]) (t := 27) ?_; intro gb563 hg w5 hbox hb; have BK563 := sd_ (hbox); have GW563 := sd_ (gs_ hg (bw0_ HB.out)); have GE563 := sd_ (gs_ hg (bw0_ HB.out)); replace HB := sd_ (below_step (bw0_ HB.out) hb); clear hb hbox hg; obtain ⟨hcz6_0, hcz6_1, hcz6_2, hcz6_3, hfz6_0, hfz6_1, hfz6_2, hfz6_3⟩ := bf4_ BK563.out) | ((with_reducible refine gate_callee (f := 31) rfl ?_); refine goesL_ (some 9) rfl rfl Try.func31 (by kernel_rfl) rfl #[.agg #[.int .i64 a0_0, .slice A0_1 l0_1.length c0_1, .slice A0_2 l0_2.length c0_2, .slice A0_3 l0_3.length c0_3]] rfl la_ ?_; (with_reducible refine (impl_IsSystem.calls k a0_0 _ _ l0_1 _ _ l0_2 _ _ l0_3 t564 _ (kc_ HR0_1.out HB.out) HC0_1.out (kc_ HR0_2.out HB.out) HC0_2.out (kc_ HR0_3.out HB.out) HC0_3.out A3.out).mono ?_); rintro e w7 ⟨rfl, hb⟩; refine ⟨_, rfl, ?_⟩; replace BK563 := sd_ (bb_ BK563.out hb); replace HB := sd_ (below_step (bw1_ HB.out GE563.out) hb); (try clear hb)))
 have H := HP4.out
 clear HP4
 by_cases c8 : t564 = true
 ·subst c8
  have H1 : (if 0 ≤ a0_0 then (if (a0_0 : Int).toNat ≤ 281474976710656 then (impl_IsView.l0 k l1 (List.replicate (a0_0 : Int).toNat false) l1 (l1.length : Int) 0 a0_0 l0_1 l0_2 l0_3) else (none)) else (none)) = some r := by rw [if_pos rfl] at H; exact H
  clear H
  have H := H1
  clear H1
  by_cases c9 : 0 ≤ a0_0
  ·rw [if_pos c9] at H
   have c9b0 := eq_true c9
   have c9b1 : decide (0 ≤ a0_0) = true := decide_eq_true c9
   clear c9
   by_cases c10 : (a0_0 : Int).toNat ≤ 281474976710656
   ·rw [if_pos c10] at H
    have c10b0 := eq_true c10
    have c10b1 : decide ((a0_0 : Int).toNat ≤ 281474976710656) = true := decide_eq_true c10
    clear c10
    obtain ⟨y565, hy565⟩ : ∃ y_ : List Bool, y_ = (List.replicate (a0_0 : Int).toNat false) := ⟨_, rfl⟩
    replace H : (impl_IsView.l0 k l1 y565 l1 (l1.length : Int) 0 a0_0 l0_1 l0_2 l0_3) = some r := by first | (rw [hy565]; with_reducible exact H) | (have H2_ := (Option.bind_some _ _).symm.trans H; rw [hy565]; with_reducible exact H2_) | (have H2_ := (Option.bind_some _ _).symm.trans H; with_reducible exact H2_) | with_reducible exact H | (rw [hy565]; exact H) | exact H
    have Ny565 := sd_ hy565
    clear hy565
    have H' := sd_ H
    clear H
    obtain ⟨hcz11_0, hcz11_1, hcz11_2, hcz11_3, hfz11_0, hfz11_1, hfz11_2, hfz11_3⟩ := bf4_ BK563.out
    go_wp2_with (first | ((with_reducible refine gate_dst (N := 13) rfl ?_); refine Kd.R_make Kd.bool _ 4 rfl (N := 13) rfl 25 _ _ rfl a0_0 rfl rfl Try.underlying25 (.bool false) 1 info4 rfl (by decide) (by omega) false (ok := fun _ => True) (okp := fun _ => True) rfl (fun _ hk => hk) trivial (dt_) (Nat.le_trans (Nat.mul_le_mul_right _ (dt_ : a0_0.toNat ≤ 281474976710656)) (by omega)) (Below.refl _ _) (Nat.le_refl _) ?_; intro v566 w12 ho13 hb hg_ hnew_; clear hg_ hnew_; (first | rw [← Ny565.out] at ho13 | (simp only [Int.reduceToNat] at ho13; rw [← Ny565.out] at ho13)); have HO567 := sd_ (Kd.R_lower ho13 (below_size (bw1_ HB.out GE563.out))); replace BK563 := sd_ (bb_ BK563.out hb); replace HB := sd_ (below_step (bw1_ HB.out GE563.out) hb); clear hb ho13))
    go_loopg [16] k (fun kq v16 w' => ∃ (x5_1 : List Bool) (x16_1 : Int), v16 = .int .i64 x16_1 ∧ Aside0 (impl_IsView.l0 kq l1 x5_1 l1 (l1.length : Int) x16_1 a0_0 l0_1 l0_2 l0_3 = some r) ∧ Aside0 (kq ≤ k) ∧ Aside0 (Kd.R Kd.bool 4 w' w.heap.size (fun _ => True) v566 x5_1) ∧ Aside0 (w'.heap[gb563]? = some (.cells #[.int .i64 a0_0, (.slice A0_1 l0_1.length c0_1), (.slice A0_2 l0_2.length c0_2), (.slice A0_3 l0_3.length c0_3)] 27 (0, 0))) ∧ Aside0 (Below w.heap.size w w'))
    case atStart => exact ⟨(y565), (0), sm_, H', ⟨Nat.le_refl _⟩, ⟨by (with_reducible repeat (first | apply Kd.R_alloc | apply Kd.R_drewN | apply Kd.R_drew)); exact HO567.out⟩, ⟨by exact bz_ BK563.out⟩, ⟨bw1_ HB.out GE563.out⟩⟩
    case round =>
     clear H'
     try clear c1
     try clear p2
     try clear c3
     try clear c4
     try clear c8
     try clear c9
     try clear c9b0
     try clear c9b1
     try clear c10
     try clear c10b0
     try clear c10b1
     try clear hcz11_0
     try clear hcz11_1
     try clear hcz11_2
     try clear hcz11_3
     try clear hcz6_0
     try clear hcz6_1
     try clear hcz6_2
     try clear hcz6_3
     try clear hfz11_0
     try clear hfz11_1
     try clear hfz11_2
     try clear hfz11_3
     try clear hfz6_0
     try clear hfz6_1
     try clear hfz6_2
     try clear hfz6_3
     obtain ⟨x5_1, x16_1, rfl, HA, HK1, HO_5, BK563, HB⟩ := hrel
     cases gk with
     | zero => exact absurd HA.out (by simp [impl_IsView.l0])
     | succ k1 =>
      have H := HA.out
      clear HA
      simp only [impl_IsView.l0] at H
      by_cases c14 : x16_1 < (l1.length : Int)
      ·rw [if_pos c14] at H
       have c14b0 : decide (x16_1 < (l1.length : Int)) = true := decide_eq_true c14
       clear c14
       (first | rw [c14b0] | (simp only [i64_w, i32_w]; rw [c14b0]) | skip)
       by_cases c15 : 0 ≤ x16_1
       ·rw [if_pos c15] at H
        have c15b0 : decide (0 ≤ x16_1) = true := decide_eq_true c15
        clear c15
        by_cases c16 : x16_1 < (l1.length : Int)
        ·rw [if_pos c16] at H
         have c16b0 : decide (x16_1 < (l1.length : Int)) = true := decide_eq_true c16
         clear c16
         replace H := Option.bind_eq_some_iff.mp H
         obtain ⟨t569, A170, H⟩ := H
         try dsimp only at H
         have A17 := sd_ A170
         clear A170
         by_cases c18 : t569 = true
         ·subst c18
          have H1 : (if x16_1 > 0 then (if 0 ≤ (wrap64 (x16_1 - 1)) then (if (wrap64 (x16_1 - 1)) < (l1.length : Int) then (if (rd l1 x16_1) ≤ (rd l1 (wrap64 (x16_1 - 1))) then (some false) else (if 0 ≤ (rd l1 x16_1) then (if (rd l1 x16_1) < (x5_1.length : Int) then (impl_IsView.l0 k1 l1 (x5_1.set ((rd l1 x16_1) : Int).toNat true) l1 (l1.length : Int) (wrap64 (x16_1 + 1)) a0_0 l0_1 l0_2 l0_3) else (none)) else (none))) else (none)) else (none)) else (if 0 ≤ (rd l1 x16_1) then (if (rd l1 x16_1) < (x5_1.length : Int) then (impl_IsView.l0 k1 l1 (x5_1.set ((rd l1 x16_1) : Int).toNat true) l1 (l1.length : Int) (wrap64 (x16_1 + 1)) a0_0 l0_1 l0_2 l0_3) else (none)) else (none))) = some r := by rw [if_pos rfl] at H; exact H
          clear H
          have H := H1
          clear H1
          by_cases c19 : x16_1 > 0
          ·rw [if_pos c19] at H
           have c19b0 : decide (0 < x16_1) = true := decide_eq_true c19
           clear c19
           obtain ⟨ji20, hji20⟩ : ∃ j_ : Int, (wrap64 (x16_1 - 1)) = j_ := ⟨_, rfl⟩
           replace H : (if 0 ≤ (ji20) then (if (ji20) < (l1.length : Int) then (if (rd l1 x16_1) ≤ (rd l1 (ji20)) then (some false) else (if 0 ≤ (rd l1 x16_1) then (if (rd l1 x16_1) < (x5_1.length : Int) then (impl_IsView.l0 k1 l1 (x5_1.set ((rd l1 x16_1) : Int).toNat true) l1 (l1.length : Int) (wrap64 (x16_1 + 1)) a0_0 l0_1 l0_2 l0_3) else (none)) else (none))) else (none)) else (none)) = some r := by first | (rw [hji20] at H; exact H) | (simp only [hji20] at H ⊢; exact H)
           (try rw [hji20] at A17)
           have hji20w : (IntKind.i64.wrap (x16_1 - 1)) = ji20 := (i64_w _).trans hji20
           by_cases c21 : 0 ≤ (ji20)
           ·rw [if_pos c21] at H
            have c21b0 : decide (0 ≤ (ji20)) = true := decide_eq_true c21
            clear c21
            by_cases c22 : (ji20) < (l1.length : Int)
            ·rw [if_pos c22] at H
             have c22b0 : decide ((ji20) < (l1.length : Int)) = true := decide_eq_true c22
             clear c22
             have HP23 := sd_ H
             clear H
             have p568 : 0 ≤ (x16_1 : Int) := dt_
             have q568 : x16_1 < (l1.length : Int) := dt_
             obtain ⟨ad568, e568, hx568_0⟩ := Kd.at_int HR1.out x16_1 p568 q568
             cases e568
             replace hx568_0 := (HB.out.cell (World.block_lt_of_cell? w _ hx568_0)).trans hx568_0
             replace p568 := eq_true p568
             replace q568 := eq_true q568
             obtain ⟨hcz24_0, hcz24_1, hcz24_2, hcz24_3, hfz24_0, hfz24_1, hfz24_2, hfz24_3⟩ := bf4_ BK563.out
             go_upto_if 37 with (first | ((with_reducible refine gate_callee (f := 76) rfl ?_); refine goesL_ (some 23) rfl rfl Try.func76 (by kernel_rfl) rfl #[.agg #[.int .i64 a0_0, .slice A0_1 l0_1.length c0_1, .slice A0_2 l0_2.length c0_2, .slice A0_3 l0_3.length c0_3], .int .i64 (rd l1 x16_1)] rfl la_ ?_; (with_reducible refine (impl_System_has.calls a0_0 _ _ l0_1 _ _ l0_2 _ _ l0_3 (rd l1 x16_1) true _ (kc_ HR0_1.out HB.out) HC0_1.out (kc_ HR0_2.out HB.out) HC0_2.out (kc_ HR0_3.out HB.out) HC0_3.out A17.out).mono ?_); rintro e w25 ⟨rfl, hb⟩; refine ⟨_, rfl, ?_⟩; replace HO_5 := sd_ (Kd.R_below (ro_ HO_5.out) hb); replace BK563 := sd_ (bb_ BK563.out hb); replace HB := sd_ (below_step (bw1_ HB.out GE563.out) hb); (try clear hb); have p570 : 0 ≤ ((ji20) : Int) := dt_; have q570 : (ji20) < (l1.length : Int) := dt_; obtain ⟨ad570, e570, hx570_0⟩ := Kd.at_int HR1.out (ji20) p570 q570; obtain rfl : ad568 = ad570 := (by injection e570); replace hx570_0 := (HB.out.cell (World.block_lt_of_cell? w _ hx570_0)).trans hx570_0; replace p570 := eq_true p570; replace q570 := eq_true q570))
             have H := HP23.out
             clear HP23
             by_cases c26 : (rd l1 x16_1) ≤ (rd l1 (ji20))
             ·rw [if_pos c26] at H
              have c26b0 : decide ((rd l1 x16_1) ≤ (rd l1 (ji20))) = true := decide_eq_true c26
              clear c26
              (first | rw [c26b0] | (simp only [i64_w, i32_w]; rw [c26b0]) | skip)
              obtain rfl := Option.some.inj H
              go_wp2
              go_ret
              exact ⟨by first | rfl | (simp [errW_none, errW_some] <;> rfl) | (simp only [← hji20]; first | rfl | (simp [errW_none, errW_some] <;> rfl)) | (simp [*, errW_none, errW_some] <;> rfl), bw1_ HB.out GE563.out⟩
             rw [if_neg c26] at H
             have c26b0 : decide ((rd l1 x16_1) ≤ (rd l1 (ji20))) = false := decide_eq_false c26
             clear c26
             (first | rw [c26b0] | (simp only [i64_w, i32_w]; rw [c26b0]) | skip)
             by_cases c27 : 0 ≤ (rd l1 x16_1)
             ·rw [if_pos c27] at H
              have c27b0 : decide (0 ≤ (rd l1 x16_1)) = true := decide_eq_true c27
              clear c27
              by_cases c28 : (rd l1 x16_1) < (x5_1.length : Int)
              ·rw [if_pos c28] at H
               have c28b0 : decide ((rd l1 x16_1) < (x5_1.length : Int)) = true := decide_eq_true c28
               clear c28
               obtain ⟨y571, hy571⟩ : ∃ y_ : List Bool, y_ = (x5_1.set ((rd l1 x16_1) : Int).toNat true) := ⟨_, rfl⟩
               replace H : (impl_IsView.l0 k1 l1 y571 l1 (l1.length : Int) (wrap64 (x16_1 + 1)) a0_0 l0_1 l0_2 l0_3) = some r := by first | (rw [hy571]; with_reducible exact H) | (have H2_ := (Option.bind_some _ _).symm.trans H; rw [hy571]; with_reducible exact H2_) | (have H2_ := (Option.bind_some _ _).symm.trans H; with_reducible exact H2_) | with_reducible exact H | (rw [hy571]; exact H) | exact H
               have Ny571 := sd_ hy571
               clear hy571
               have H' := sd_ H
               clear H
               have p29 : 0 ≤ ((rd l1 x16_1) : Int) := dt_
               have q29 : ((rd l1 x16_1) : Int) < ((x5_1.length : Int) : Int) := dt_
               obtain ⟨go29, co29, eo29, gb29, gl29, cl29, HG29⟩ := Kd.R_form HO_5.out (by omega)
               (first | cases eo29 | (injection eo29 with ea_ en_ ec_; (first | subst ea_ | (injection ea_ with ea_; subst ea_)); subst ec_; clear en_))
               have GB29 := sd_ gb29
               have GG29 := sd_ HG29
               clear gb29 gl29 HG29
               obtain ⟨hx29_0, hf29_0⟩ := Kd.R_celln false HO_5.out ((rd l1 x16_1) : Int) p29 q29
               replace p29 := eq_true p29
               replace q29 := eq_true q29
               have HP30 := Kd.R_putg HO_5.out ((rd l1 x16_1) : Int) true
               go_wp2_with (first | ((with_reducible refine gate_store (t := 4) (p := 40) rfl ?_); refine store_event (t := 4) (p := 40) (v := ?vo_w31) (w1 := (w25.setCell ⟨go29, ((rd l1 x16_1) : Int).toNat, none⟩ (.bool true))) ?hg ?ho ?hn ?hr ?_; (case ho => rfl); (case hg => rfl); (case hn => rfl); (case hr => first | (go_simp; done) | (go_simp; rfl)); intro w31 hw; have hg : w25.grownBy w31 (some go29) := (by rw [hw]; exact HP30.2); have hp_ : Kd.R Kd.bool 4 w31 w.heap.size (fun _ => True) (.slice (some ⟨go29, 0, none⟩) x5_1.length co29) y571 := (by rw [hw, Ny571.out]; exact HP30.1); clear HP30; replace BK563 := sd_ (blk_grown (g := gb563) (o := .cells #[.int .i64 a0_0, .slice A0_1 l0_1.length c0_1, .slice A0_2 l0_2.length c0_2, .slice A0_3 l0_3.length c0_3] 27 (0, 0)) (bz_ BK563.out) hg (Kd.R_ne HO_5.out BK563.out (by decide))); replace HO_5 := sd_ (hp_); replace HB := sd_ ((by rw [hw]; exact below_set (HB.out) GB29.out : Below w.heap.size w w31)); clear hg hw hp_))
               go_roundg k1
               case measure => have := HK1.out; omega
               case rel => exact ⟨(y571), (wrap64 (x16_1 + 1)), sm_, H', ⟨by have := HK1.out; omega⟩, ⟨by (with_reducible repeat (first | apply Kd.R_alloc | apply Kd.R_drewN | apply Kd.R_drew)); exact HO_5.out⟩, ⟨by exact bz_ BK563.out⟩, ⟨bw1_ HB.out GE563.out⟩⟩
              rw [if_neg c28] at H
              exact absurd H (by simp)
             rw [if_neg c27] at H
             exact absurd H (by simp)
            rw [if_neg c22] at H
            exact absurd H (by simp)
           rw [if_neg c21] at H
           exact absurd H (by simp)
          rw [if_neg c19] at H
          have c19b0 : decide (0 < x16_1) = false := decide_eq_false c19
          clear c19
          by_cases c32 : 0 ≤ (rd l1 x16_1)
          ·rw [if_pos c32] at H
           have c32b0 : decide (0 ≤ (rd l1 x16_1)) = true := decide_eq_true c32
           clear c32
           by_cases c33 : (rd l1 x16_1) < (x5_1.length : Int)
           ·rw [if_pos c33] at H
            have c33b0 : decide ((rd l1 x16_1) < (x5_1.length : Int)) = true := decide_eq_true c33
            clear c33
            obtain ⟨y572, hy572⟩ : ∃ y_ : List Bool, y_ = (x5_1.set ((rd l1 x16_1) : Int).toNat true) := ⟨_, rfl⟩
            replace H : (impl_IsView.l0 k1 l1 y572 l1 (l1.length : Int) (wrap64 (x16_1 + 1)) a0_0 l0_1 l0_2 l0_3) = some r := by first | (rw [hy572]; with_reducible exact H) | (have H2_ := (Option.bind_some _ _).symm.trans H; rw [hy572]; with_reducible exact H2_) | (have H2_ := (Option.bind_some _ _).symm.trans H; with_reducible exact H2_) | with_reducible exact H | (rw [hy572]; exact H) | exact H
            have Ny572 := sd_ hy572
            clear hy572
            have H' := sd_ H
            clear H
            have p568 : 0 ≤ (x16_1 : Int) := dt_
            have q568 : x16_1 < (l1.length : Int) := dt_
            obtain ⟨ad568, e568, hx568_0⟩ := Kd.at_int HR1.out x16_1 p568 q568
            cases e568
            replace hx568_0 := (HB.out.cell (World.block_lt_of_cell? w _ hx568_0)).trans hx568_0
            replace p568 := eq_true p568
            replace q568 := eq_true q568
            obtain ⟨hcz35_0, hcz35_1, hcz35_2, hcz35_3, hfz35_0, hfz35_1, hfz35_2, hfz35_3⟩ := bf4_ BK563.out
            go_wp2_with (first | ((with_reducible refine gate_callee (f := 76) rfl ?_); refine goesL_ (some 23) rfl rfl Try.func76 (by kernel_rfl) rfl #[.agg #[.int .i64 a0_0, .slice A0_1 l0_1.length c0_1, .slice A0_2 l0_2.length c0_2, .slice A0_3 l0_3.length c0_3], .int .i64 (rd l1 x16_1)] rfl la_ ?_; (with_reducible refine (impl_System_has.calls a0_0 _ _ l0_1 _ _ l0_2 _ _ l0_3 (rd l1 x16_1) true _ (kc_ HR0_1.out HB.out) HC0_1.out (kc_ HR0_2.out HB.out) HC0_2.out (kc_ HR0_3.out HB.out) HC0_3.out A17.out).mono ?_); rintro e w36 ⟨rfl, hb⟩; refine ⟨_, rfl, ?_⟩; replace HO_5 := sd_ (Kd.R_below (ro_ HO_5.out) hb); replace BK563 := sd_ (bb_ BK563.out hb); replace HB := sd_ (below_step (bw1_ HB.out GE563.out) hb); (try clear hb); have p34 : 0 ≤ ((rd l1 x16_1) : Int) := dt_; have q34 : ((rd l1 x16_1) : Int) < ((x5_1.length : Int) : Int) := dt_; obtain ⟨go34, co34, eo34, gb34, gl34, cl34, HG34⟩ := Kd.R_form HO_5.out (by omega); (first | cases eo34 | (injection eo34 with ea_ en_ ec_; (first | subst ea_ | (injection ea_ with ea_; subst ea_)); subst ec_; clear en_)); have GB34 := sd_ gb34; have GG34 := sd_ HG34; clear gb34 gl34 HG34; obtain ⟨hx34_0, hf34_0⟩ := Kd.R_celln false HO_5.out ((rd l1 x16_1) : Int) p34 q34; replace p34 := eq_true p34; replace q34 := eq_true q34; obtain ⟨hy37_, hz37_⟩ := Kd.R_celln false HO_5.out ((rd l1 x16_1) : Int) (dt_) (dt_); have HP37 := Kd.R_putg HO_5.out ((rd l1 x16_1) : Int) true) | ((with_reducible refine gate_store (t := 4) (p := 40) rfl ?_); refine store_event (t := 4) (p := 40) (v := ?vo_w38) (w1 := (w36.setCell ⟨go34, ((rd l1 x16_1) : Int).toNat, none⟩ (.bool true))) ?hg ?ho ?hn ?hr ?_; (case ho => rfl); (case hg => rfl); (case hn => rfl); (case hr => first | (go_simp; done) | (go_simp; rfl)); intro w38 hw; have hg : w36.grownBy w38 (some go34) := (by rw [hw]; exact HP37.2); have hp_ : Kd.R Kd.bool 4 w38 w.heap.size (fun _ => True) (.slice (some ⟨go34, 0, none⟩) x5_1.length co34) y572 := (by rw [hw, Ny572.out]; exact HP37.1); clear HP37; replace BK563 := sd_ (blk_grown (g := gb563) (o := .cells #[.int .i64 a0_0, .slice A0_1 l0_1.length c0_1, .slice A0_2 l0_2.length c0_2, .slice A0_3 l0_3.length c0_3] 27 (0, 0)) (bz_ BK563.out) hg (Kd.R_ne HO_5.out BK563.out (by decide))); replace HO_5 := sd_ (hp_); replace HB := sd_ ((by rw [hw]; exact below_set (HB.out) GB34.out : Below w.heap.size w w38)); clear hg hw hp_))
            go_roundg k1
            case measure => have := HK1.out; omega
            case rel => exact ⟨(y572), (wrap64 (x16_1 + 1)), sm_, H', ⟨by have := HK1.out; omega⟩, ⟨by (with_reducible repeat (first | apply Kd.R_alloc | apply Kd.R_drewN | apply Kd.R_drew)); exact HO_5.out⟩, ⟨by exact bz_ BK563.out⟩, ⟨bw1_ HB.out GE563.out⟩⟩
           rw [if_neg c33] at H
           exact absurd H (by simp)
          rw [if_neg c32] at H
          exact absurd H (by simp)
         replace c18 := Bool.eq_false_iff.mpr c18
         subst c18
         have H1 : (some false) = some r := by rw [if_neg (show ¬ (false = true) by decide)] at H; exact H
         clear H
         have H := H1
         clear H1
         obtain rfl := Option.some.inj H
         have p568 : 0 ≤ (x16_1 : Int) := dt_
         have q568 : x16_1 < (l1.length : Int) := dt_
         obtain ⟨ad568, e568, hx568_0⟩ := Kd.at_int HR1.out x16_1 p568 q568
         cases e568
         replace hx568_0 := (HB.out.cell (World.block_lt_of_cell? w _ hx568_0)).trans hx568_0
         replace p568 := eq_true p568
         replace q568 := eq_true q568
         obtain ⟨hcz39_0, hcz39_1, hcz39_2, hcz39_3, hfz39_0, hfz39_1, hfz39_2, hfz39_3⟩ := bf4_ BK563.out
         go_wp2_with (first | ((with_reducible refine gate_callee (f := 76) rfl ?_); refine goesL_ (some 23) rfl rfl Try.func76 (by kernel_rfl) rfl #[.agg #[.int .i64 a0_0, .slice A0_1 l0_1.length c0_1, .slice A0_2 l0_2.length c0_2, .slice A0_3 l0_3.length c0_3], .int .i64 (rd l1 x16_1)] rfl la_ ?_; (with_reducible refine (impl_System_has.calls a0_0 _ _ l0_1 _ _ l0_2 _ _ l0_3 (rd l1 x16_1) false _ (kc_ HR0_1.out HB.out) HC0_1.out (kc_ HR0_2.out HB.out) HC0_2.out (kc_ HR0_3.out HB.out) HC0_3.out A17.out).mono ?_); rintro e w40 ⟨rfl, hb⟩; refine ⟨_, rfl, ?_⟩; replace HO_5 := sd_ (Kd.R_below (ro_ HO_5.out) hb); replace BK563 := sd_ (bb_ BK563.out hb); replace HB := sd_ (below_step (bw1_ HB.out GE563.out) hb); (try clear hb)))
         go_ret
         exact ⟨an_, bw1_ HB.out GE563.out⟩
        rw [if_neg c16] at H
        exact absurd H (by simp)
       rw [if_neg c15] at H
       exact absurd H (by simp)
      rw [if_neg c14] at H
      have c14b0 : decide (x16_1 < (l1.length : Int)) = false := decide_eq_false c14
      clear c14
      (first | rw [c14b0] | (simp only [i64_w, i32_w]; rw [c14b0]) | skip)
      replace H := Option.bind_eq_some_iff.mp H
      obtain ⟨t573, A410, H⟩ := H
      try dsimp only at H
      have A41 := sd_ A410
      clear A410
      obtain rfl := Option.some.inj H
      obtain ⟨hcz42_0, hcz42_1, hcz42_2, hcz42_3, hfz42_0, hfz42_1, hfz42_2, hfz42_3⟩ := bf4_ BK563.out
      obtain ⟨Ao43, co43, eo43⟩ := Kd.R_slice HO_5.out
      subst eo43
      go_wp2_with (first | ((with_reducible refine gate_callee (f := 105) rfl ?_); refine goesL_ (some 44) rfl rfl Try.func105 (by kernel_rfl) rfl #[.agg #[.int .i64 a0_0, .slice A0_1 l0_1.length c0_1, .slice A0_2 l0_2.length c0_2, .slice A0_3 l0_3.length c0_3], .slice Ao43 x5_1.length co43] rfl la_ ?_; (with_reducible refine (impl_isView.calls k1 a0_0 _ _ l0_1 _ _ l0_2 _ _ l0_3 _ _ x5_1 t573 _ ?side1 ?side2 ?side3 ?side4 ?side5 ?side6 ?side7 ?side8 A41.out).mono ?_); (case side1 => exact kc_ HR0_1.out HB.out); (case side2 => exact HC0_1.out); (case side3 => exact kc_ HR0_2.out HB.out); (case side4 => exact HC0_2.out); (case side5 => exact kc_ HR0_3.out HB.out); (case side6 => exact HC0_3.out); (case side7 => exact kp_ (Kd.R_reads' HO_5.out).2.2); (case side8 => exact (Kd.R_reads' HO_5.out).2.1); rintro e w44 ⟨rfl, hb⟩; refine ⟨_, rfl, ?_⟩; replace HO_5 := sd_ (Kd.R_below (ro_ HO_5.out) hb); replace BK563 := sd_ (bb_ BK563.out hb); replace HB := sd_ (below_step (bw1_ HB.out GE563.out) hb); (try clear hb)))
      go_ret
      exact ⟨an_, bw1_ HB.out GE563.out⟩
   rw [if_neg c10] at H
   exact absurd H (by simp)
  rw [if_neg c9] at H
  exact absurd H (by simp)
 replace c8 := Bool.eq_false_iff.mpr c8
 subst c8
 have H1 : (some false) = some r := by rw [if_neg (show ¬ (false = true) by decide)] at H; exact H
 clear H
 have H := H1
 clear H1
 obtain rfl := Option.some.inj H
 go_wp2
 go_ret
 exact ⟨an_, bw1_ HB.out GE563.out⟩

end Go.Proofs.Ytcdmnofomoadlaa.P
