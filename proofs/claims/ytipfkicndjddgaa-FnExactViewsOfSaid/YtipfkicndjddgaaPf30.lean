-- Printed by this session's own program (wip/tools/mkprint.py) out of the translation. Not trusted: Lean checks it.
import Derived.Test.YtipfkicndjddgaaP0
import Derived.Test.YtipfkicndjddgaaPf77
import Derived.Test.YtipfkicndjddgaaPf78
import Derived.Test.YtipfkicndjddgaaM8
import Derived.Laws.EntriesVeiled
/-! short words -/
namespace Go.Proofs.Ytipfkicndjddgaa.P
open Go.RowKit Go.Proofs.YtipfkicndjddgaaW.PrintWords Go.Proofs.YtipfkicndjddgaaW.PrintLast Go.Proofs.YtipfkicndjddgaaW.PrintMore
attribute [local go_sem] shift_shr_any64 max2_int min2_int max_two min_two max_three min_three max_four min_four   -- for this text's walks alone
set_option linter.unusedVariables false
set_option linter.unusedSimpArgs false

/-! ### impl_ViewsOf: function 30 -/
mutual
def impl_ViewsOf.l0 : Nat → List (List Int) → Int → Int → List Int → List Int → List Bool → Option ((List (List Int)))
 | 0, _, _, _, _, _, _ => none
 | k + 1, x3, x4, x384000, x384001, x384002, x384003 => if 0 ≤ x384000 then (if x4 < (shl .i64 1 x384000) then (if (Go.bits .and .i64 x4 3) = 2 then (if (x384000 : Int).toNat ≤ 281474976710656 then ((some (List.replicate (x384000 : Int).toNat false : List Bool)).bind fun y386 => (impl_ViewsOf.l1 k x3 x4 y386 ([] : List Int) (y386.length : Int) 0 x384000 x384001 x384002 x384003)) else (none)) else (impl_ViewsOf.l0 k x3 (wrap64 (x4 + 1)) x384000 x384001 x384002 x384003)) else ((slices_SortFunc_int_int.f x3 (fun z0_ z1_ => impl_ViewsOf_1.f k z0_ z1_)).bind fun t385 => (some t385))) else (none)
def impl_ViewsOf.l1 : Nat → List (List Int) → Int → List Bool → List Int → Int → Int → Int → List Int → List Int → List Bool → Option ((List (List Int)))
 | 0, _, _, _, _, _, _, _, _, _, _ => none
 | k + 1, x3, x4, x5, x6, x25, x26, x384000, x384001, x384002, x384003 => if x26 < x25 then (if 0 ≤ x26 then (if (Go.bits .and .i64 (shr .i64 x4 x26) 1) = 1 then (if x26 < (x5.length : Int) then (if x6.length < 17592186044416 then (impl_ViewsOf.l1 k x3 x4 (x5.set (x26 : Int).toNat true) (x6 ++ [x26]) x25 (wrap64 (x26 + 1)) x384000 x384001 x384002 x384003) else (none)) else (none)) else (impl_ViewsOf.l1 k x3 x4 x5 x6 x25 (wrap64 (x26 + 1)) x384000 x384001 x384002 x384003)) else (none)) else ((impl_isView.f k x384000 x384001 x384002 x384003 x5).bind fun t393 => (if t393 = true then (if x3.length < 5864062014805 then (impl_ViewsOf.l0 k (x3 ++ [x6]) (wrap64 (x4 + 1)) x384000 x384001 x384002 x384003) else (none)) else (impl_ViewsOf.l0 k x3 (wrap64 (x4 + 1)) x384000 x384001 x384002 x384003)))
end
def impl_ViewsOf.f (k : Nat) (a0_0 : Int) (l0_1 : List Int) (l0_2 : List Int) (l0_3 : List Bool) : Option ((List (List Int))) := (impl_IsSystem.f k a0_0 l0_1 l0_2 l0_3).bind fun t384 => (if t384 = true then (impl_ViewsOf.l0 k ([] : List (List Int)) 0 a0_0 l0_1 l0_2 l0_3) else (some ([] : List (List Int))))
set_option maxHeartbeats 8000000 in
set_option maxRecDepth 100000 in
theorem impl_ViewsOf.calls (k : Nat) (a0_0 : Int) (A0_1 : Option Addr) (c0_1 : Nat) (l0_1 : List Int) (A0_2 : Option Addr) (c0_2 : Nat) (l0_2 : List Int) (A0_3 : Option Addr) (c0_3 : Nat) (l0_3 : List Bool) (r : List (List Int)) (w : World) (hr0_1 : Kd.C (Kd.int .i64) w A0_1 l0_1.length l0_1) (hc0_1 : l0_1.length ≤ c0_1) (hr0_2 : Kd.C (Kd.int .i64) w A0_2 l0_2.length l0_2) (hc0_2 : l0_2.length ≤ c0_2) (hr0_3 : Kd.C Kd.bool w A0_3 l0_3.length l0_3) (hc0_3 : l0_3.length ≤ c0_3) (h : impl_ViewsOf.f k a0_0 l0_1 l0_2 l0_3 = some r) :
  Calls Try.prog 30 #[.agg #[.int .i64 a0_0, .slice A0_1 l0_1.length c0_1, .slice A0_2 l0_2.length c0_2, .slice A0_3 l0_3.length c0_3]] w fun e w' => ∃ v0_ : Value, e = .returned (v0_) ∧ Kd.S (Kd.slice 3 (Kd.int .i64)) 22 w' w.heap.size (fun _ => True) v0_ r ∧ Below w.heap.size w w' := by
 have hu27 := Try.underlying27
 have HR0_1 := sd_ hr0_1
 have HC0_1 := sd_ hc0_1
 clear hr0_1 hc0_1
 have HR0_2 := sd_ hr0_2
 have HC0_2 := sd_ hc0_2
 clear hr0_2 hc0_2
 have HR0_3 := sd_ hr0_3
 have HC0_3 := sd_ hc0_3
 clear hr0_3 hc0_3
 have HB := sd_ (Below.refl w.heap.size w)
 have H : ((impl_IsSystem.f k a0_0 l0_1 l0_2 l0_3).bind fun t384 => (if t384 = true then (impl_ViewsOf.l0 k ([] : List (List Int)) 0 a0_0 l0_1 l0_2 l0_3) else (some ([] : List (List Int))))) = some r := h
 clear h
 replace H := Option.bind_eq_some_iff.mp H
 obtain ⟨t384, A20, H⟩ := H
 try dsimp only at H
 have A2 := sd_ A20
 clear A20
 have HP3 := sd_ H
 clear H
 go_enter Try.func30, Try.ntmps30
 go_upto_if 10 with (first | ((with_reducible refine gate_dst (N := 1) rfl ?_); refine bx_ (N := 1) (cs := #[.int .i64 a0_0, .slice A0_1 l0_1.length c0_1, .slice A0_2 l0_2.length c0_2, .slice A0_3 l0_3.length c0_3]) (t := 27) ?_; intro gb383 hg w4 hbox hb; have BK383 := sd_ (hbox); have GW383 := sd_ (gs_ hg (bw0_ HB.out)); have GE383 := sd_ (gs_ hg (bw0_ HB.out)); replace HB := sd_ (below_step (bw0_ HB.out) hb); clear hb hbox hg; obtain ⟨hcz5_0, hcz5_1, hcz5_2, hcz5_3, hfz5_0, hfz5_1, hfz5_2, hfz5_3⟩ := bf4_ BK383.out) | ((with_reducible refine gate_callee (f := 77) rfl ?_); refine goesL_ (some 9) rfl rfl Try.func77 (by kernel_rfl) rfl #[.agg #[.int .i64 a0_0, .slice A0_1 l0_1.length c0_1, .slice A0_2 l0_2.length c0_2, .slice A0_3 l0_3.length c0_3]] rfl la_ ?_; (with_reducible refine (impl_IsSystem.calls k a0_0 _ _ l0_1 _ _ l0_2 _ _ l0_3 t384 _ (kc_ HR0_1.out HB.out) HC0_1.out (kc_ HR0_2.out HB.out) HC0_2.out (kc_ HR0_3.out HB.out) HC0_3.out A2.out).mono ?_); rintro e w6 ⟨rfl, hb⟩; refine ⟨_, rfl, ?_⟩; replace BK383 := sd_ (bb_ BK383.out hb); replace HB := sd_ (below_step (bw1_ HB.out GE383.out) hb); (try clear hb)))
 have H := HP3.out
 clear HP3
 by_cases c7 : t384 = true
 ·subst c7
  have H1 : (impl_ViewsOf.l0 k ([] : List (List Int)) 0 a0_0 l0_1 l0_2 l0_3) = some r := by rw [if_pos rfl] at H; exact H
  clear H
  have H := H1
  clear H1
  have H' := sd_ H
  clear H
  go_wp2
  go_loopg [3, 4] k (fun kq v3 v4 w' => ∃ (x3_1 : List (List Int)) (x4_1 : Int), v4 = .int .i64 x4_1 ∧ Aside0 (impl_ViewsOf.l0 kq x3_1 x4_1 a0_0 l0_1 l0_2 l0_3 = some r) ∧ Aside0 (kq ≤ k) ∧ Aside0 (Kd.S (Kd.slice 3 (Kd.int .i64)) 22 w' w.heap.size (fun _ => True) v3 x3_1) ∧ Aside0 (w'.heap[gb383]? = some (.cells #[.int .i64 a0_0, (.slice A0_1 l0_1.length c0_1), (.slice A0_2 l0_2.length c0_2), (.slice A0_3 l0_3.length c0_3)] 27 (0, 0))) ∧ Aside0 (Below w.heap.size w w'))
  case atStart => exact ⟨(([] : List (List Int))), (0), sm_, H', ⟨Nat.le_refl _⟩, ⟨by first | exact Kd.S_nil _ _ _ _ _ | exact Kd.N_nil _ _ _ _ _ | exact Kd.V_nil _ _ _ _ _ | exact Kd.Q_nil _ _ _ _ _ | exact Kd.R_nil _ _ _ _ _⟩, ⟨by exact bz_ BK383.out⟩, ⟨bw1_ HB.out GE383.out⟩⟩
  case round =>
   clear H'
   try clear p2
   try clear c3
   try clear c7
   try clear hcz5_0
   try clear hcz5_1
   try clear hcz5_2
   try clear hcz5_3
   try clear hfz5_0
   try clear hfz5_1
   try clear hfz5_2
   try clear hfz5_3
   obtain ⟨x3_1, x4_1, rfl, HA, HK1, HO_3, BK383, HB⟩ := hrel
   cases gk with
   | zero => exact absurd HA.out (by simp [impl_ViewsOf.l0])
   | succ k1 =>
    have H := HA.out
    clear HA
    simp only [impl_ViewsOf.l0] at H
    by_cases c8 : 0 ≤ a0_0
    ·rw [if_pos c8] at H
     have c8b0 := eq_true c8
     have c8b1 : decide (0 ≤ a0_0) = true := decide_eq_true c8
     clear c8
     obtain ⟨ji9, hji9⟩ : ∃ j_ : Int, (shl .i64 1 a0_0) = j_ := ⟨_, rfl⟩
     replace H : (if x4_1 < (ji9) then (if (Go.bits .and .i64 x4_1 3) = 2 then (if (a0_0 : Int).toNat ≤ 281474976710656 then ((some (List.replicate (a0_0 : Int).toNat false : List Bool)).bind fun y386 => (impl_ViewsOf.l1 k1 x3_1 x4_1 y386 ([] : List Int) (y386.length : Int) 0 a0_0 l0_1 l0_2 l0_3)) else (none)) else (impl_ViewsOf.l0 k1 x3_1 (wrap64 (x4_1 + 1)) a0_0 l0_1 l0_2 l0_3)) else ((slices_SortFunc_int_int.f x3_1 (fun z0_ z1_ => impl_ViewsOf_1.f k1 z0_ z1_)).bind fun t385 => (some t385))) = some r := by first | (rw [hji9] at H; exact H) | (simp only [hji9] at H ⊢; exact H)
     have hji9_ : (IntKind.i64.wrap (1 * 2 ^ min a0_0.toNat 64)) = ji9 := hji9
     have hji9z : a0_0 ≤ 64 → (IntKind.i64.wrap (1 * 2 ^ a0_0.toNat)) = ji9 := shl_small hji9
     have hji9u : (IntKind.i64.wrap (2 ^ min a0_0.toNat 64)) = ji9 := by have h_ := hji9_; rw [Int.one_mul] at h_; exact h_
     have hji9v : a0_0 ≤ 64 → (IntKind.i64.wrap (2 ^ a0_0.toNat)) = ji9 := fun hle_ => by have h_ := hji9z hle_; rw [Int.one_mul] at h_; exact h_
     have hji9y : (wrap64 (1 * 2 ^ min a0_0.toNat 64)) = ji9 := (i64_w _).symm.trans hji9_
     have hji9x : a0_0 ≤ 64 → (wrap64 (1 * 2 ^ a0_0.toNat)) = ji9 := fun h_ => (i64_w _).symm.trans (hji9z h_)
     by_cases c10 : x4_1 < (ji9)
     ·rw [if_pos c10] at H
      have c10b0 : decide (x4_1 < (ji9)) = true := decide_eq_true c10
      clear c10
      (first | rw [c10b0] | (simp only [i64_w, i32_w]; rw [c10b0]) | skip)
      by_cases c11 : (Go.bits .and .i64 x4_1 3) = 2
      ·rw [if_pos c11] at H
       have c11b0 : ((Go.bits .and .i64 x4_1 3) == 2) = true := beq_iff_eq.mpr c11
       have c11b1 : ((Go.bits .and .i64 x4_1 3) != 2) = false := bne_eq_false_iff_eq.mpr c11
       clear c11
       by_cases c12 : (a0_0 : Int).toNat ≤ 281474976710656
       ·rw [if_pos c12] at H
        have c12b0 := eq_true c12
        have c12b1 : decide ((a0_0 : Int).toNat ≤ 281474976710656) = true := decide_eq_true c12
        clear c12
        obtain ⟨y386, hy386⟩ : ∃ y_ : List Bool, y_ = (List.replicate (a0_0 : Int).toNat false) := ⟨_, rfl⟩
        replace H : (impl_ViewsOf.l1 k1 x3_1 x4_1 y386 ([] : List Int) (y386.length : Int) 0 a0_0 l0_1 l0_2 l0_3) = some r := by first | (rw [hy386]; with_reducible exact H) | (have H2_ := (Option.bind_some _ _).symm.trans H; rw [hy386]; with_reducible exact H2_) | (have H2_ := (Option.bind_some _ _).symm.trans H; with_reducible exact H2_) | with_reducible exact H | (rw [hy386]; exact H) | exact H
        have Ny386 := sd_ hy386
        clear hy386
        have H' := sd_ H
        clear H
        obtain ⟨hcz13_0, hcz13_1, hcz13_2, hcz13_3, hfz13_0, hfz13_1, hfz13_2, hfz13_3⟩ := bf4_ BK383.out
        go_wp2_with (first | ((with_reducible refine gate_dst (N := 23) rfl ?_); refine Kd.R_make Kd.bool _ 4 rfl (N := 23) rfl 23 _ _ rfl a0_0 rfl rfl Try.underlying23 (.bool false) 1 info4 rfl (by decide) (by omega) false (ok := fun _ => True) (okp := fun _ => True) rfl (fun _ hk => hk) trivial (dt_) (Nat.le_trans (Nat.mul_le_mul_right _ (dt_ : a0_0.toNat ≤ 281474976710656)) (by omega)) (Below.refl _ _) (Nat.le_refl _) ?_; intro v387 w14 ho15 hb hg_ hnew_; clear hg_ hnew_; (first | rw [← Ny386.out] at ho15 | (simp only [Int.reduceToNat] at ho15; rw [← Ny386.out] at ho15)); replace HO_3 := sd_ (Kd.S_below (by (with_reducible repeat (first | apply Kd.S_alloc | apply Kd.S_drewN | apply Kd.S_drew)); exact HO_3.out) hb); have HO388 := sd_ (Kd.R_lower ho15 (below_size (bw1_ HB.out GE383.out))); replace BK383 := sd_ (bb_ BK383.out hb); replace HB := sd_ (below_step (bw1_ HB.out GE383.out) hb); clear hb ho15; obtain ⟨Ao16, co16, eo16⟩ := Kd.R_slice HO388.out; subst eo16))
        go_loopg [6, 26] k1 (fun kq v6 v26 w' => ∃ (x5_2 : List Bool) (x6_2 : List Int) (x26_2 : Int), v26 = .int .i64 x26_2 ∧ Aside0 (impl_ViewsOf.l1 kq x3_1 x4_1 x5_2 x6_2 (y386.length : Int) x26_2 a0_0 l0_1 l0_2 l0_3 = some r) ∧ Aside0 (kq ≤ k1) ∧ Aside0 (Kd.S (Kd.slice 3 (Kd.int .i64)) 22 w' w.heap.size (fun k_ => some k_ ≠ (v6 : Value).ownBlock) u3 x3_1) ∧ Aside0 (Kd.R Kd.bool 4 w' w.heap.size (fun _ => True) (.slice Ao16 y386.length co16) x5_2) ∧ Aside0 (Kd.R (Kd.int .i64) 3 w' w.heap.size (fun _ => True) v6 x6_2) ∧ Aside0 (w'.heap[gb383]? = some (.cells #[.int .i64 a0_0, (.slice A0_1 l0_1.length c0_1), (.slice A0_2 l0_2.length c0_2), (.slice A0_3 l0_3.length c0_3)] 27 (0, 0))) ∧ Aside0 (Below w.heap.size w w'))
        case atStart => exact ⟨(y386), (([] : List Int)), (0), sm_, H', ⟨Nat.le_refl _⟩, ⟨by (with_reducible repeat (first | apply Kd.S_alloc | apply Kd.S_drewN | apply Kd.S_drew)); exact Kd.S_mono HO_3.out (fun _ hk => (by simp [Value.ownBlock]))⟩, ⟨by (with_reducible repeat (first | apply Kd.R_alloc | apply Kd.R_drewN | apply Kd.R_drew)); exact HO388.out⟩, ⟨by first | exact Kd.R_nil _ _ _ _ _ | exact Kd.N_nil _ _ _ _ _ | exact Kd.V_nil _ _ _ _ _ | exact Kd.Q_nil _ _ _ _ _ | exact Kd.S_nil _ _ _ _ _⟩, ⟨by exact bz_ BK383.out⟩, ⟨bw1_ HB.out GE383.out⟩⟩
        case round =>
         clear H'
         try clear c1
         try clear p2
         try clear c3
         try clear p6
         try clear c7
         try clear c8
         try clear c8b0
         try clear c8b1
         try clear c10
         try clear c10b0
         try clear c11
         try clear c11b0
         try clear c11b1
         try clear c12
         try clear c12b0
         try clear c12b1
         try clear hcz13_0
         try clear hcz13_1
         try clear hcz13_2
         try clear hcz13_3
         try clear hcz5_0
         try clear hcz5_1
         try clear hcz5_2
         try clear hcz5_3
         try clear hfz13_0
         try clear hfz13_1
         try clear hfz13_2
         try clear hfz13_3
         try clear hfz5_0
         try clear hfz5_1
         try clear hfz5_2
         try clear hfz5_3
         try clear p2
         obtain ⟨x5_2, x6_2, x26_2, rfl, HA, HK2, HO_3, HO_5, HO_6, BK383, HB⟩ := hrel
         have hl5_2 := (Kd.R_reads' HO_5.out).1
         rw [hl5_2] at HO_5
         (try simp only [hl5_2])
         (try simp only [hl5_2] at BK383)
         (try simp only [hl5_2] at HO_3)
         (try simp only [hl5_2] at HO_6)
         cases gk with
         | zero => exact absurd HA.out (by simp [impl_ViewsOf.l1])
         | succ k2 =>
          have H := HA.out
          clear HA
          simp only [impl_ViewsOf.l1] at H
          by_cases c17 : x26_2 < (y386.length : Int)
          ·rw [if_pos c17] at H
           have c17b0 : decide (x26_2 < (y386.length : Int)) = true := decide_eq_true c17
           (try (have hc9_ := c17b0; rw [hl5_2] at hc9_))
           clear c17
           by_cases c18 : 0 ≤ x26_2
           ·rw [if_pos c18] at H
            have c18b0 := eq_true c18
            have c18b1 : decide (0 ≤ x26_2) = true := decide_eq_true c18
            clear c18
            obtain ⟨ji19, hji19⟩ : ∃ j_ : Int, (shr .i64 x4_1 x26_2) = j_ := ⟨_, rfl⟩
            replace H : (if (Go.bits .and .i64 (ji19) 1) = 1 then (if x26_2 < (x5_2.length : Int) then (if x6_2.length < 17592186044416 then (impl_ViewsOf.l1 k2 x3_1 x4_1 (x5_2.set (x26_2 : Int).toNat true) (x6_2 ++ [x26_2]) (y386.length : Int) (wrap64 (x26_2 + 1)) a0_0 l0_1 l0_2 l0_3) else (none)) else (none)) else (impl_ViewsOf.l1 k2 x3_1 x4_1 x5_2 x6_2 (y386.length : Int) (wrap64 (x26_2 + 1)) a0_0 l0_1 l0_2 l0_3)) = some r := by first | (rw [hji19] at H; exact H) | (simp only [hji19] at H ⊢; exact H)
            have hji19_ : (x4_1 / 2 ^ min x26_2.toNat 64) = ji19 := hji19
            have hji19z : x26_2 ≤ 64 → (x4_1 / 2 ^ x26_2.toNat) = ji19 := shr_small hji19
            by_cases c20 : (Go.bits .and .i64 (ji19) 1) = 1
            ·rw [if_pos c20] at H
             have c20b0 : ((Go.bits .and .i64 (ji19) 1) == 1) = true := beq_iff_eq.mpr c20
             have c20b1 : ((Go.bits .and .i64 (ji19) 1) != 1) = false := bne_eq_false_iff_eq.mpr c20
             clear c20
             by_cases c21 : x26_2 < (x5_2.length : Int)
             ·rw [if_pos c21] at H
              have c21b0 : decide (x26_2 < (x5_2.length : Int)) = true := decide_eq_true c21
              clear c21
              obtain ⟨y389, hy389⟩ : ∃ y_ : List Bool, y_ = (x5_2.set (x26_2 : Int).toNat true) := ⟨_, rfl⟩
              replace H : (if x6_2.length < 17592186044416 then (impl_ViewsOf.l1 k2 x3_1 x4_1 y389 (x6_2 ++ [x26_2]) (y386.length : Int) (wrap64 (x26_2 + 1)) a0_0 l0_1 l0_2 l0_3) else (none)) = some r := by first | (rw [hy389]; with_reducible exact H) | (have H2_ := (Option.bind_some _ _).symm.trans H; rw [hy389]; with_reducible exact H2_) | (have H2_ := (Option.bind_some _ _).symm.trans H; with_reducible exact H2_) | with_reducible exact H | (rw [hy389]; exact H) | exact H
              have Ny389 := sd_ hy389
              clear hy389
              by_cases c23 : x6_2.length < 17592186044416
              ·rw [if_pos c23] at H
               have LMc23 := sd_ c23
               clear c23
               obtain ⟨y390, hy390⟩ : ∃ y_ : List Int, y_ = (x6_2 ++ [x26_2]) := ⟨_, rfl⟩
               replace H : (impl_ViewsOf.l1 k2 x3_1 x4_1 y389 y390 (y386.length : Int) (wrap64 (x26_2 + 1)) a0_0 l0_1 l0_2 l0_3) = some r := by first | (rw [hy390]; with_reducible exact H) | (have H2_ := (Option.bind_some _ _).symm.trans H; rw [hy390]; with_reducible exact H2_) | (have H2_ := (Option.bind_some _ _).symm.trans H; with_reducible exact H2_) | with_reducible exact H | (rw [hy390]; exact H) | exact H
               have Ny390 := sd_ hy390
               clear hy390
               have H' := sd_ H
               clear H
               have p22 : 0 ≤ (x26_2 : Int) := dt_
               have q22 : (x26_2 : Int) < ((x5_2.length : Int) : Int) := dt_
               obtain ⟨go22, co22, eo22, gb22, gl22, cl22, HG22⟩ := Kd.R_form HO_5.out (by omega)
               (first | cases eo22 | (injection eo22 with ea_ en_ ec_; (first | subst ea_ | (injection ea_ with ea_; subst ea_)); subst ec_; clear en_))
               have GB22 := sd_ gb22
               have GG22 := sd_ HG22
               clear gb22 gl22 HG22
               obtain ⟨hx22_0, hf22_0⟩ := Kd.R_celln false HO_5.out (x26_2 : Int) p22 q22
               replace p22 := eq_true p22
               replace q22 := eq_true q22
               have HP24 := Kd.R_putg HO_5.out (x26_2 : Int) true
               go_wp2_with (first | ((with_reducible refine gate_store (t := 4) (p := 36) rfl ?_); refine store_event (t := 4) (p := 36) (v := ?vo_w25) (w1 := (wr.setCell ⟨go22, (x26_2 : Int).toNat, none⟩ (.bool true))) ?hg ?ho ?hn ?hr ?_; (case ho => rfl); (case hg => rfl); (case hn => rfl); (case hr => first | (go_simp; done) | (go_simp; rfl)); intro w25 hw; have hg : wr.grownBy w25 (some go22) := (by rw [hw]; exact HP24.2); have hp_ : Kd.R Kd.bool 4 w25 w.heap.size (fun _ => True) (.slice (some ⟨go22, 0, none⟩) x5_2.length co16) y389 := (by rw [hw, Ny389.out]; exact HP24.1); clear HP24; replace HO_3 := sd_ (Kd.S_over' (v := (.slice (some ⟨go22, 0, none⟩) x5_2.length co16)) (by (with_reducible repeat (first | apply Kd.S_alloc | apply Kd.S_drewN | apply Kd.S_drew)); exact HO_3.out) (Kd.R_typed HO_5.out) (by decide) hg); replace HO_6 := sd_ (Kd.R_over' (v := (.slice (some ⟨go22, 0, none⟩) x5_2.length co16)) (ro_ HO_6.out) (Kd.R_typed HO_5.out) (by decide) hg); replace BK383 := sd_ (blk_grown (g := gb383) (o := .cells #[.int .i64 a0_0, .slice A0_1 l0_1.length c0_1, .slice A0_2 l0_2.length c0_2, .slice A0_3 l0_3.length c0_3] 27 (0, 0)) (bz_ BK383.out) hg (Kd.R_ne HO_5.out BK383.out (by decide))); replace HO_5 := sd_ (hp_); replace HB := sd_ ((by rw [hw]; exact below_set (HB.out) GB22.out : Below w.heap.size w w25)); clear hg hw hp_) | ((with_reducible refine gate_builtin (b := .append) (xs := #[.tmp 37, .tmp 39]) rfl ?_); at_builtin; refine Kd.R_append (Kd.int .i64) (w0 := w) w.heap.size rfl (.tmp 37) (.tmp 39) 22 3 (.int .i64 0) 8 rfl Try.underlying22 info3 rfl (by decide) (by omega) u6 x6_2 x26_2 [.int .i64 x26_2] (fun _ => True) (fun _ => False) rfl rfl ?aP (fun _ hk => hk.elim) ?aF ?aO ?aB ?aS ?aL ?_; (case aP => exact rfl); (case aB => exact (bw1_ HB.out GE383.out)); (case aF => exact (fun _ _ => trivial)); (case aO => exact (ro_ HO_6.out)); (case aS => exact (below_size (bw1_ HB.out GE383.out))); (case aL => have := LMc23.out; omega); intro v391 w26 ho hb hg hat; rw [← Ny390.out] at ho; have n0_ := sd_ (Kd.S_after (ok := (fun _ => True)) (by (with_reducible repeat (first | apply Kd.S_alloc | apply Kd.S_drewN | apply Kd.S_drew)); exact Kd.S_mono HO_3.out (fun _ hk => ⟨trivial, hk⟩)) hg hat); have n1_ := sd_ (Kd.R_over' (ro_ HO_5.out) (Kd.R_typed (ro_ HO_6.out)) (by decide) hg); have n2_ := sd_ (blk_grown (g := gb383) (o := .cells #[.int .i64 a0_0, .slice A0_1 l0_1.length c0_1, .slice A0_2 l0_2.length c0_2, .slice A0_3 l0_3.length c0_3] 27 (0, 0)) (bz_ BK383.out) hg (Kd.R_ne HO_6.out BK383.out (by decide))); have n3_ := sd_ (hb); have n4_ := sd_ (ho); clear HO_3; clear HO_5; clear BK383; clear HB; clear HO_6; have HO_3 := n0_; have HO_5 := n1_; have BK383 := n2_; have HB := n3_; have HO392 := n4_; clear n0_ n1_ n2_ n3_ n4_; clear ho hb hg hat))
               (try simp only [← hl5_2])
               go_roundg k2
               case measure => have := HK1.out; have := HK2.out; omega
               case rel => exact ⟨(y389), (y390), (wrap64 (x26_2 + 1)), sm_, H', ⟨by have := HK1.out; have := HK2.out; omega⟩, ⟨by (try simp only [hl5_2]); (with_reducible repeat (first | apply Kd.S_alloc | apply Kd.S_drewN | apply Kd.S_drew)); exact Kd.S_mono HO_3.out (fun _ hk => hk.2)⟩, ⟨by (try simp only [hl5_2]); (with_reducible repeat (first | apply Kd.R_alloc | apply Kd.R_drewN | apply Kd.R_drew)); exact HO_5.out⟩, ⟨by (try simp only [hl5_2]); (with_reducible repeat (first | apply Kd.R_alloc | apply Kd.R_drewN | apply Kd.R_drew)); exact HO392.out⟩, ⟨by (try simp only [hl5_2]); exact bz_ BK383.out⟩, ⟨bw1_ HB.out GE383.out⟩⟩
              rw [if_neg c23] at H
              exact absurd H (by simp)
             rw [if_neg c21] at H
             exact absurd H (by simp)
            rw [if_neg c20] at H
            have c20b0 : ((Go.bits .and .i64 (ji19) 1) == 1) = false := beq_eq_false_iff_ne.mpr c20
            have c20b1 : ((Go.bits .and .i64 (ji19) 1) != 1) = true := bne_iff_ne.mpr c20
            have H' := sd_ H
            clear H
            go_wp2
            (try simp only [← hl5_2])
            go_roundg k2
            case measure => have := HK1.out; have := HK2.out; omega
            case rel => exact ⟨(x5_2), (x6_2), (wrap64 (x26_2 + 1)), sm_, H', ⟨by have := HK1.out; have := HK2.out; omega⟩, ⟨by (try simp only [hl5_2]); (with_reducible repeat (first | apply Kd.S_alloc | apply Kd.S_drewN | apply Kd.S_drew)); exact HO_3.out⟩, ⟨by (try simp only [hl5_2]); (with_reducible repeat (first | apply Kd.R_alloc | apply Kd.R_drewN | apply Kd.R_drew)); exact HO_5.out⟩, ⟨by (try simp only [hl5_2]); (with_reducible repeat (first | apply Kd.R_alloc | apply Kd.R_drewN | apply Kd.R_drew)); exact HO_6.out⟩, ⟨by (try simp only [hl5_2]); exact bz_ BK383.out⟩, ⟨bw1_ HB.out GE383.out⟩⟩
           rw [if_neg c18] at H
           exact absurd H (by simp)
          rw [if_neg c17] at H
          have c17b0 : decide (x26_2 < (y386.length : Int)) = false := decide_eq_false c17
          (try (have hc9_ := c17b0; rw [hl5_2] at hc9_))
          clear c17
          replace H := Option.bind_eq_some_iff.mp H
          obtain ⟨t393, A270, H⟩ := H
          try dsimp only at H
          have A27 := sd_ A270
          clear A270
          have HP28 := sd_ H
          clear H
          obtain ⟨hcz29_0, hcz29_1, hcz29_2, hcz29_3, hfz29_0, hfz29_1, hfz29_2, hfz29_3⟩ := bf4_ BK383.out
          go_upto_if 44 with (first | ((with_reducible refine gate_callee (f := 78) rfl ?_); refine goesL_ (some 44) rfl rfl Try.func78 (by kernel_rfl) rfl #[.agg #[.int .i64 a0_0, .slice A0_1 l0_1.length c0_1, .slice A0_2 l0_2.length c0_2, .slice A0_3 l0_3.length c0_3], .slice Ao16 x5_2.length co16] rfl la_ ?_; (with_reducible refine (impl_isView.calls k2 a0_0 _ _ l0_1 _ _ l0_2 _ _ l0_3 _ _ x5_2 t393 _ ?side1 ?side2 ?side3 ?side4 ?side5 ?side6 ?side7 ?side8 A27.out).mono ?_); (case side1 => exact kc_ HR0_1.out HB.out); (case side2 => exact HC0_1.out); (case side3 => exact kc_ HR0_2.out HB.out); (case side4 => exact HC0_2.out); (case side5 => exact kc_ HR0_3.out HB.out); (case side6 => exact HC0_3.out); (case side7 => exact kp_ (Kd.R_reads' HO_5.out).2.2); (case side8 => exact (Kd.R_reads' HO_5.out).2.1); rintro e w30 ⟨rfl, hb⟩; refine ⟨_, rfl, ?_⟩; replace HO_3 := sd_ (Kd.S_below (by (with_reducible repeat (first | apply Kd.S_alloc | apply Kd.S_drewN | apply Kd.S_drew)); exact HO_3.out) hb); replace HO_5 := sd_ (Kd.R_below (ro_ HO_5.out) hb); replace HO_6 := sd_ (Kd.R_below (ro_ HO_6.out) hb); replace BK383 := sd_ (bb_ BK383.out hb); replace HB := sd_ (below_step (bw1_ HB.out GE383.out) hb); (try clear hb)))
          have H := HP28.out
          clear HP28
          by_cases c31 : t393 = true
          ·subst c31
           have H1 : (if x3_1.length < 5864062014805 then (impl_ViewsOf.l0 k2 (x3_1 ++ [x6_2]) (wrap64 (x4_1 + 1)) a0_0 l0_1 l0_2 l0_3) else (none)) = some r := by rw [if_pos rfl] at H; exact H
           clear H
           have H := H1
           clear H1
           by_cases c32 : x3_1.length < 5864062014805
           ·rw [if_pos c32] at H
            have LMc32 := sd_ c32
            clear c32
            obtain ⟨y394, hy394⟩ : ∃ y_ : List (List Int), y_ = (x3_1 ++ [x6_2]) := ⟨_, rfl⟩
            replace H : (impl_ViewsOf.l0 k2 y394 (wrap64 (x4_1 + 1)) a0_0 l0_1 l0_2 l0_3) = some r := by first | (rw [hy394]; with_reducible exact H) | (have H2_ := (Option.bind_some _ _).symm.trans H; rw [hy394]; with_reducible exact H2_) | (have H2_ := (Option.bind_some _ _).symm.trans H; with_reducible exact H2_) | with_reducible exact H | (rw [hy394]; exact H) | exact H
            have Ny394 := sd_ hy394
            clear hy394
            have H' := sd_ H
            clear H
            obtain ⟨Ao34, co34, eo34⟩ := Kd.R_slice HO_6.out
            subst eo34
            go_wp2_with (first | ((with_reducible refine gate_builtin (b := .append) (xs := #[.tmp 45, .tmp 47]) rfl ?_); at_builtin; refine Kd.S_append (Kd.slice 3 (Kd.int .i64)) (w0 := w) w.heap.size rfl (.tmp 45) (.tmp 47) 54 22 (.slice none 0 0) 24 rfl Try.underlying54 info22 rfl (by decide) (by omega) u3 x3_1 x6_2 [.slice Ao34 x6_2.length co34] (fun _ => True) (fun k_ => some k_ = (.slice Ao34 x6_2.length co34 : Value).ownBlock) rfl rfl ?aP (fun k_ hk_ => ((Kd.R_mono (ok' := fun k_ => ((fun _ => True)) k_ ∧ some k_ ≠ (u3 : Value).ownBlock) (Kd.R_apart' (HO_6.out) (Kd.S_typed HO_3.out) (by decide)) (fun k_ hk => ⟨trivial, hk.2⟩))).1 k_ hk_.symm) ?aF ?aO ?aB ?aS ?aL ?_; (case aP => exact Kd.M_row (Kd.R_mono (Kd.R_tight rfl (Kd.R_mono (ok' := fun k_ => ((fun _ => True)) k_ ∧ some k_ ≠ (u3 : Value).ownBlock) (Kd.R_apart' (HO_6.out) (Kd.S_typed HO_3.out) (by decide)) (fun k_ hk => ⟨trivial, hk.2⟩))) (fun _ h_ => h_))); (case aB => exact (bw1_ HB.out GE383.out)); (case aF => exact (fun _ _ => trivial)); (case aO => exact (by (with_reducible repeat (first | apply Kd.S_alloc | apply Kd.S_drewN | apply Kd.S_drew)); exact Kd.S_mono HO_3.out (fun k_ hk => ⟨trivial, fun e_ => hk e_⟩))); (case aS => exact (below_size (bw1_ HB.out GE383.out))); (case aL => have := LMc32.out; omega); intro v395 w33 ho hb hg hat; rw [← Ny394.out] at ho; have n0_ := sd_ (Kd.R_over' (ro_ HO_5.out) (Kd.S_typed (by (with_reducible repeat (first | apply Kd.S_alloc | apply Kd.S_drewN | apply Kd.S_drew)); exact HO_3.out)) (by decide) hg); have n1_ := sd_ (blk_grown (g := gb383) (o := .cells #[.int .i64 a0_0, .slice A0_1 l0_1.length c0_1, .slice A0_2 l0_2.length c0_2, .slice A0_3 l0_3.length c0_3] 27 (0, 0)) (bz_ BK383.out) hg (Kd.S_ne HO_3.out BK383.out (by decide))); have n2_ := sd_ (hb); have n3_ := sd_ (ho); clear HO_5; clear BK383; clear HB; clear HO_3; clear HO_6; have HO_5 := n0_; have BK383 := n1_; have HB := n2_; have HO396 := n3_; clear n0_ n1_ n2_ n3_; clear ho hb hg hat))
            (try simp only [← hl5_2])
            go_roundg k2
            case measure => have := HK1.out; have := HK2.out; omega
            case rel => exact ⟨(y394), (wrap64 (x4_1 + 1)), sm_, H', ⟨by have := HK1.out; have := HK2.out; omega⟩, ⟨by (try simp only [hl5_2]); (with_reducible repeat (first | apply Kd.S_alloc | apply Kd.S_drewN | apply Kd.S_drew)); exact HO396.out⟩, ⟨by (try simp only [hl5_2]); exact bz_ BK383.out⟩, ⟨bw1_ HB.out GE383.out⟩⟩
           rw [if_neg c32] at H
           exact absurd H (by simp)
          replace c31 := Bool.eq_false_iff.mpr c31
          subst c31
          have H1 : (impl_ViewsOf.l0 k2 x3_1 (wrap64 (x4_1 + 1)) a0_0 l0_1 l0_2 l0_3) = some r := by rw [if_neg (show ¬ (false = true) by decide)] at H; exact H
          clear H
          have H := H1
          clear H1
          have H' := sd_ H
          clear H
          go_wp2
          (try simp only [← hl5_2])
          go_roundg k2
          case measure => have := HK1.out; have := HK2.out; omega
          case rel => exact ⟨(x3_1), (wrap64 (x4_1 + 1)), sm_, H', ⟨by have := HK1.out; have := HK2.out; omega⟩, ⟨by (try simp only [hl5_2]); (with_reducible repeat (first | apply Kd.S_alloc | apply Kd.S_drewN | apply Kd.S_drew)); exact Kd.S_mono HO_3.out (fun _ hk => trivial)⟩, ⟨by (try simp only [hl5_2]); exact bz_ BK383.out⟩, ⟨bw1_ HB.out GE383.out⟩⟩
       rw [if_neg c12] at H
       exact absurd H (by simp)
      rw [if_neg c11] at H
      have c11b0 : ((Go.bits .and .i64 x4_1 3) == 2) = false := beq_eq_false_iff_ne.mpr c11
      have c11b1 : ((Go.bits .and .i64 x4_1 3) != 2) = true := bne_iff_ne.mpr c11
      have H' := sd_ H
      clear H
      obtain ⟨hcz35_0, hcz35_1, hcz35_2, hcz35_3, hfz35_0, hfz35_1, hfz35_2, hfz35_3⟩ := bf4_ BK383.out
      go_wp2
      go_roundg k1
      case measure => have := HK1.out; omega
      case rel => exact ⟨(x3_1), (wrap64 (x4_1 + 1)), sm_, H', ⟨by have := HK1.out; omega⟩, ⟨by (with_reducible repeat (first | apply Kd.S_alloc | apply Kd.S_drewN | apply Kd.S_drew)); exact HO_3.out⟩, ⟨by exact bz_ BK383.out⟩, ⟨bw1_ HB.out GE383.out⟩⟩
     rw [if_neg c10] at H
     have c10b0 : decide (x4_1 < (ji9)) = false := decide_eq_false c10
     clear c10
     (first | rw [c10b0] | (simp only [i64_w, i32_w]; rw [c10b0]) | skip)
     replace H := Option.bind_eq_some_iff.mp H
     obtain ⟨t385, A360, H⟩ := H
     try dsimp only at H
     have A36 := sd_ A360
     clear A360
     obtain rfl := Option.some.inj H
     obtain ⟨hcz37_0, hcz37_1, hcz37_2, hcz37_3, hfz37_0, hfz37_1, hfz37_2, hfz37_3⟩ := bf4_ BK383.out
     obtain ⟨Ao38, co38, eo38⟩ := Kd.S_slice HO_3.out
     subst eo38
     go_wp2_with (first | ((with_reducible refine gate_callee (f := 79) rfl ?_); refine goesL_ (some 50) rfl rfl Try.func79 (by kernel_rfl) rfl #[.slice Ao38 x3_1.length co38, .func (.func 80) #[] #[]] rfl la_ ?_; (with_reducible refine (slices_SortFunc_int_int.calls (ok := fun _ => True) k1 (.slice Ao38 x3_1.length co38) x3_1 t385 w _ ?side1 ?side2 A36.out).mono ?_); (case side1 => repeat (first | (with_reducible first | exact HB.out | apply below_alloc | apply pw_below_drewN | apply below_drew1 | refine below_set ?_ GE383.out) | exact HB.out)); (case side2 => exact (by (with_reducible repeat (first | apply Kd.S_alloc | apply Kd.S_drewN | apply Kd.S_drew)); exact Kd.S_mono HO_3.out (fun _ _ => trivial))); rintro e w39 ⟨rfl, hy0, hb, hkp⟩; refine ⟨_, rfl, ?_⟩; replace BK383 := sd_ (blk_kept (bz_ BK383.out) hkp (fun hs_ => (fun e_ => (Kd.R_ne (Kd.S_R HO_3.out) BK383.out (by decide)) e_) hs_)); replace HO_3 := sd_ hy0; replace HB := sd_ (hb); (try clear hb); (try clear hkp); (try clear hy0)))
     go_ret
     exact ⟨_, by first | rfl | (simp [errW_none, errW_some] <;> rfl) | (simp only [← hji9]; first | rfl | (simp [errW_none, errW_some] <;> rfl)) | (simp [*, errW_none, errW_some] <;> rfl), by (with_reducible repeat (first | apply Kd.S_alloc | apply Kd.S_drewN | apply Kd.S_drew)); exact HO_3.out, bw1_ HB.out GE383.out⟩
    rw [if_neg c8] at H
    exact absurd H (by simp)
 replace c7 := Bool.eq_false_iff.mpr c7
 subst c7
 have H1 : (some ([] : List (List Int))) = some r := by rw [if_neg (show ¬ (false = true) by decide)] at H; exact H
 clear H
 have H := H1
 clear H1
 obtain rfl := Option.some.inj H
 go_wp2
 go_ret
 exact ⟨_, an_, by first | exact Kd.S_nil _ _ _ _ _ | exact Kd.N_nil _ _ _ _ _ | exact Kd.V_nil _ _ _ _ _ | exact Kd.Q_nil _ _ _ _ _ | exact Kd.R_nil _ _ _ _ _, bw1_ HB.out GE383.out⟩

end Go.Proofs.Ytipfkicndjddgaa.P
