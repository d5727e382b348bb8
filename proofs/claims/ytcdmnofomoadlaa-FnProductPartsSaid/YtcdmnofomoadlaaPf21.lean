-- Printed by this session's own program (wip/tools/mkprint.py) out of the translation. Not trusted: Lean checks it.
import Derived.Test.YtcdmnofomoadlaaM1
import Derived.Test.YtcdmnofomoadlaaPf31
import Derived.Test.YtcdmnofomoadlaaM2
import Derived.Test.YtcdmnofomoadlaaM3
import Derived.Test.YtcdmnofomoadlaaM4
import Derived.Test.YtcdmnofomoadlaaM9
/-! short words -/
namespace Go.Proofs.Ytcdmnofomoadlaa.P
open Go.RowKit Go.Proofs.YtcdmnofomoadlaaW.PrintWords Go.Proofs.YtcdmnofomoadlaaW.PrintLast Go.Proofs.YtcdmnofomoadlaaW.PrintMore
attribute [local go_sem] max2_int min2_int max_two min_two max_three min_three max_four min_four   -- for this text's walks alone
set_option linter.unusedVariables false
set_option linter.unusedSimpArgs false

/-! ### impl_IsMap: function 21 -/
mutual
def impl_IsMap.j0 : Nat → List Int → Bool → Int → List Int → List Int → List Bool → Int → List Int → List Int → List Bool → Option (Bool)
 | 0, _, _, _, _, _, _, _, _, _, _ => none
 | k + 1, x2, x40, x314000, x314001, x314002, x314003, x315000, x315001, x315002, x315003 => if x40 = true then (some false) else (impl_IsMap.l0 k x2 0 x314000 x314001 x314002 x314003 x315000 x315001 x315002 x315003)
def impl_IsMap.l0 : Nat → List Int → Int → Int → List Int → List Int → List Bool → Int → List Int → List Int → List Bool → Option (Bool)
 | 0, _, _, _, _, _, _, _, _, _, _ => none
 | k + 1, x2, x7, x314000, x314001, x314002, x314003, x315000, x315001, x315002, x315003 => if x7 < x314000 then (impl_IsMap.l1 k x2 x7 0 x314000 x314001 x314002 x314003 x315000 x315001 x315002 x315003) else (some true)
def impl_IsMap.l1 : Nat → List Int → Int → Int → Int → List Int → List Int → List Bool → Int → List Int → List Int → List Bool → Option (Bool)
 | 0, _, _, _, _, _, _, _, _, _, _, _ => none
 | k + 1, x2, x7, x8, x314000, x314001, x314002, x314003, x315000, x315001, x315002, x315003 => if x8 < x314000 then ((impl_System_plus.f x314000 x314001 x314002 x314003 x7 x8).bind fun t320 => (if 0 ≤ t320 then (if t320 < (x2.length : Int) then (if 0 ≤ x7 then (if x7 < (x2.length : Int) then (if 0 ≤ x8 then (if x8 < (x2.length : Int) then ((impl_System_plus.f x315000 x315001 x315002 x315003 (rd x2 x7) (rd x2 x8)).bind fun t324 => (if (rd x2 t320) = t324 then ((impl_System_times.f x314000 x314001 x314002 x314003 x7 x8).bind fun t325 => (if 0 ≤ t325 then (if t325 < (x2.length : Int) then ((impl_System_times.f x315000 x315001 x315002 x315003 (rd x2 x7) (rd x2 x8)).bind fun t329 => (if (rd x2 t325) = t329 then ((impl_System_below.f x314000 x314001 x314002 x314003 x7 x8).bind fun t330 => (if t330 = true then ((impl_System_below.f x315000 x315001 x315002 x315003 (rd x2 x7) (rd x2 x8)).bind fun t333 => (if t333 = true then (impl_IsMap.l1 k x2 x7 (wrap64 (x8 + 1)) x314000 x314001 x314002 x314003 x315000 x315001 x315002 x315003) else (some false))) else (impl_IsMap.l1 k x2 x7 (wrap64 (x8 + 1)) x314000 x314001 x314002 x314003 x315000 x315001 x315002 x315003))) else (some false))) else (none)) else (none))) else (some false))) else (none)) else (none)) else (none)) else (none)) else (none)) else (none))) else (impl_IsMap.l0 k x2 (wrap64 (x7 + 1)) x314000 x314001 x314002 x314003 x315000 x315001 x315002 x315003)
end
def impl_IsMap.f (k : Nat) (a0_0 : Int) (l0_1 : List Int) (l0_2 : List Int) (l0_3 : List Bool) (a1_0 : Int) (l1_1 : List Int) (l1_2 : List Int) (l1_3 : List Bool) (l2 : List Int) : Option (Bool) := (impl_IsSystem.f k a0_0 l0_1 l0_2 l0_3).bind fun t315 => (if t315 = true then ((impl_IsSystem.f k a1_0 l1_1 l1_2 l1_3).bind fun t316 => (if t316 = true then (if (l2.length : Int) = a0_0 then ((slices_ContainsFunc_int_int.f k l2 (fun z0_ => impl_IsMap_1.f z0_ a1_0 l1_1 l1_2 l1_3)).bind fun t317 => (if t317 = true then (impl_IsMap.j0 k l2 true a0_0 l0_1 l0_2 l0_3 a1_0 l1_1 l1_2 l1_3) else (if 0 < (l2.length : Int) then (if (rd l2 0) = 0 then (if 1 < (l2.length : Int) then (impl_IsMap.j0 k l2 ((rd l2 1) != 1) a0_0 l0_1 l0_2 l0_3 a1_0 l1_1 l1_2 l1_3) else (none)) else (impl_IsMap.j0 k l2 true a0_0 l0_1 l0_2 l0_3 a1_0 l1_1 l1_2 l1_3)) else (none)))) else (impl_IsMap.j0 k l2 true a0_0 l0_1 l0_2 l0_3 a1_0 l1_1 l1_2 l1_3)) else (impl_IsMap.j0 k l2 true a0_0 l0_1 l0_2 l0_3 a1_0 l1_1 l1_2 l1_3))) else (impl_IsMap.j0 k l2 true a0_0 l0_1 l0_2 l0_3 a1_0 l1_1 l1_2 l1_3))
set_option maxHeartbeats 8000000 in
set_option maxRecDepth 100000 in
theorem impl_IsMap.calls (k : Nat) (a0_0 : Int) (A0_1 : Option Addr) (c0_1 : Nat) (l0_1 : List Int) (A0_2 : Option Addr) (c0_2 : Nat) (l0_2 : List Int) (A0_3 : Option Addr) (c0_3 : Nat) (l0_3 : List Bool) (a1_0 : Int) (A1_1 : Option Addr) (c1_1 : Nat) (l1_1 : List Int) (A1_2 : Option Addr) (c1_2 : Nat) (l1_2 : List Int) (A1_3 : Option Addr) (c1_3 : Nat) (l1_3 : List Bool) (A2 : Option Addr) (c2 : Nat) (l2 : List Int) (r : Bool) (w : World) (hr0_1 : Kd.C (Kd.int .i64) w A0_1 l0_1.length l0_1) (hc0_1 : l0_1.length ≤ c0_1) (hr0_2 : Kd.C (Kd.int .i64) w A0_2 l0_2.length l0_2) (hc0_2 : l0_2.length ≤ c0_2) (hr0_3 : Kd.C Kd.bool w A0_3 l0_3.length l0_3) (hc0_3 : l0_3.length ≤ c0_3) (hr1_1 : Kd.C (Kd.int .i64) w A1_1 l1_1.length l1_1) (hc1_1 : l1_1.length ≤ c1_1) (hr1_2 : Kd.C (Kd.int .i64) w A1_2 l1_2.length l1_2) (hc1_2 : l1_2.length ≤ c1_2) (hr1_3 : Kd.C Kd.bool w A1_3 l1_3.length l1_3) (hc1_3 : l1_3.length ≤ c1_3) (hr2 : Kd.C (Kd.int .i64) w A2 l2.length l2) (hc2 : l2.length ≤ c2) (h : impl_IsMap.f k a0_0 l0_1 l0_2 l0_3 a1_0 l1_1 l1_2 l1_3 l2 = some r) :
  Calls Try.prog 21 #[.agg #[.int .i64 a0_0, .slice A0_1 l0_1.length c0_1, .slice A0_2 l0_2.length c0_2, .slice A0_3 l0_3.length c0_3], .agg #[.int .i64 a1_0, .slice A1_1 l1_1.length c1_1, .slice A1_2 l1_2.length c1_2, .slice A1_3 l1_3.length c1_3], .slice A2 l2.length c2] w fun e w' => e = .returned (.bool r) ∧ Below w.heap.size w w' := by
 have hu27 := Try.underlying27
 have HR0_1 := sd_ hr0_1
 have HC0_1 := sd_ hc0_1
 clear hr0_1 hc0_1
 have HR0_2 := sd_ hr0_2
 have HC0_2 := sd_ hc0_2
 clear hr0_2 hc0_2
 have HR0_3 := sd_ hr0_3
 have HC0_3 := sd_ hc0_3
 clear hr0_3 hc0_3
 have HR1_1 := sd_ hr1_1
 have HC1_1 := sd_ hc1_1
 clear hr1_1 hc1_1
 have HR1_2 := sd_ hr1_2
 have HC1_2 := sd_ hc1_2
 clear hr1_2 hc1_2
 have HR1_3 := sd_ hr1_3
 have HC1_3 := sd_ hc1_3
 clear hr1_3 hc1_3
 have HR2 := sd_ hr2
 have HC2 := sd_ hc2
 clear hr2 hc2
 have HB := sd_ (Below.refl w.heap.size w)
 have H : ((impl_IsSystem.f k a0_0 l0_1 l0_2 l0_3).bind fun t315 => (if t315 = true then ((impl_IsSystem.f k a1_0 l1_1 l1_2 l1_3).bind fun t316 => (if t316 = true then (if (l2.length : Int) = a0_0 then ((slices_ContainsFunc_int_int.f k l2 (fun z0_ => impl_IsMap_1.f z0_ a1_0 l1_1 l1_2 l1_3)).bind fun t317 => (if t317 = true then (impl_IsMap.j0 k l2 true a0_0 l0_1 l0_2 l0_3 a1_0 l1_1 l1_2 l1_3) else (if 0 < (l2.length : Int) then (if (rd l2 0) = 0 then (if 1 < (l2.length : Int) then (impl_IsMap.j0 k l2 ((rd l2 1) != 1) a0_0 l0_1 l0_2 l0_3 a1_0 l1_1 l1_2 l1_3) else (none)) else (impl_IsMap.j0 k l2 true a0_0 l0_1 l0_2 l0_3 a1_0 l1_1 l1_2 l1_3)) else (none)))) else (impl_IsMap.j0 k l2 true a0_0 l0_1 l0_2 l0_3 a1_0 l1_1 l1_2 l1_3)) else (impl_IsMap.j0 k l2 true a0_0 l0_1 l0_2 l0_3 a1_0 l1_1 l1_2 l1_3))) else (impl_IsMap.j0 k l2 true a0_0 l0_1 l0_2 l0_3 a1_0 l1_1 l1_2 l1_3))) = some r := h
 clear h
 have HC4 := sd_ H
 clear H
 go_enter Try.func21, Try.ntmps21
 go_upto_region 1 with (first | ((with_reducible refine gate_dst (N := 3) rfl ?_); (try (refine gate_guard (by rfl) ?_; dsimp only)); refine bx_ (N := 3) (cs := #[.int .i64 a0_0, .slice A0_1 l0_1.length c0_1, .slice A0_2 l0_2.length c0_2, .slice A0_3 l0_3.length c0_3]) (t := 27) ?_; intro gb313 hg w5 hbox hb; have BK313 := sd_ (hbox); have GW313 := sd_ (gs_ hg (bw0_ HB.out)); have GE313 := sd_ (gs_ hg (bw0_ HB.out)); replace HB := sd_ (below_step (bw0_ HB.out) hb); clear hb hbox hg) | ((with_reducible refine gate_dst (N := 4) rfl ?_); (try (refine gate_guard (by rfl) ?_; dsimp only)); refine bx_ (N := 4) (cs := #[.int .i64 a1_0, .slice A1_1 l1_1.length c1_1, .slice A1_2 l1_2.length c1_2, .slice A1_3 l1_3.length c1_3]) (t := 27) ?_; intro gb314 hg w6 hbox hb; have BK314 := sd_ (hbox); have GW314 := sd_ (gs_ hg (bw1_ HB.out GE313.out)); have GE314 := sd_ (gs_ hg (bw1_ HB.out GE313.out)); replace HB := sd_ (below_step (bw1_ HB.out GE313.out) hb); have NB313_314 := sd_ (nl_ hg (bl_ BK313.out)); have NB314_313 := sd_ (ng_ hg (bl_ BK313.out)); replace BK313 := sd_ (bb_ BK313.out hb); clear hb hbox hg))
 (try simp only [Act.put, List.setIfInBounds_toArray, List.set_cons_zero, List.set_cons_succ])
 go_cut [40] (fun v40 wc => ∃ (kq : Nat) (x40_3 : Bool), v40 = .bool x40_3 ∧ Aside0 (impl_IsMap.j0 kq l2 x40_3 a0_0 l0_1 l0_2 l0_3 a1_0 l1_1 l1_2 l1_3 = some r) ∧ Aside0 (kq ≤ k) ∧ Aside0 (wc.heap[gb313]? = some (.cells #[.int .i64 a0_0, (.slice A0_1 l0_1.length c0_1), (.slice A0_2 l0_2.length c0_2), (.slice A0_3 l0_3.length c0_3)] 27 (0, 0))) ∧ Aside0 (wc.heap[gb314]? = some (.cells #[.int .i64 a1_0, (.slice A1_1 l1_1.length c1_1), (.slice A1_2 l1_2.length c1_2), (.slice A1_3 l1_3.length c1_3)] 27 (0, 0))) ∧ Aside0 (Below w.heap.size w wc))
 case first =>
  have H := HC4.out
  clear HC4
  replace H := Option.bind_eq_some_iff.mp H
  obtain ⟨t315, A70, H⟩ := H
  try dsimp only at H
  have A7 := sd_ A70
  clear A70
  by_cases c8 : t315 = true
  ·subst c8
   have H1 : ((impl_IsSystem.f k a1_0 l1_1 l1_2 l1_3).bind fun t316 => (if t316 = true then (if (l2.length : Int) = a0_0 then ((slices_ContainsFunc_int_int.f k l2 (fun z0_ => impl_IsMap_1.f z0_ a1_0 l1_1 l1_2 l1_3)).bind fun t317 => (if t317 = true then (impl_IsMap.j0 k l2 true a0_0 l0_1 l0_2 l0_3 a1_0 l1_1 l1_2 l1_3) else (if 0 < (l2.length : Int) then (if (rd l2 0) = 0 then (if 1 < (l2.length : Int) then (impl_IsMap.j0 k l2 ((rd l2 1) != 1) a0_0 l0_1 l0_2 l0_3 a1_0 l1_1 l1_2 l1_3) else (none)) else (impl_IsMap.j0 k l2 true a0_0 l0_1 l0_2 l0_3 a1_0 l1_1 l1_2 l1_3)) else (none)))) else (impl_IsMap.j0 k l2 true a0_0 l0_1 l0_2 l0_3 a1_0 l1_1 l1_2 l1_3)) else (impl_IsMap.j0 k l2 true a0_0 l0_1 l0_2 l0_3 a1_0 l1_1 l1_2 l1_3))) = some r := by rw [if_pos rfl] at H; exact H
   clear H
   have H := H1
   clear H1
   replace H := Option.bind_eq_some_iff.mp H
   obtain ⟨t316, A90, H⟩ := H
   try dsimp only at H
   have A9 := sd_ A90
   clear A90
   by_cases c10 : t316 = true
   ·subst c10
    have H1 : (if (l2.length : Int) = a0_0 then ((slices_ContainsFunc_int_int.f k l2 (fun z0_ => impl_IsMap_1.f z0_ a1_0 l1_1 l1_2 l1_3)).bind fun t317 => (if t317 = true then (impl_IsMap.j0 k l2 true a0_0 l0_1 l0_2 l0_3 a1_0 l1_1 l1_2 l1_3) else (if 0 < (l2.length : Int) then (if (rd l2 0) = 0 then (if 1 < (l2.length : Int) then (impl_IsMap.j0 k l2 ((rd l2 1) != 1) a0_0 l0_1 l0_2 l0_3 a1_0 l1_1 l1_2 l1_3) else (none)) else (impl_IsMap.j0 k l2 true a0_0 l0_1 l0_2 l0_3 a1_0 l1_1 l1_2 l1_3)) else (none)))) else (impl_IsMap.j0 k l2 true a0_0 l0_1 l0_2 l0_3 a1_0 l1_1 l1_2 l1_3)) = some r := by rw [if_pos rfl] at H; exact H
    clear H
    have H := H1
    clear H1
    by_cases c11 : (l2.length : Int) = a0_0
    ·rw [if_pos c11] at H
     have c11b0 : ((l2.length : Int) == a0_0) = true := beq_iff_eq.mpr c11
     have c11b1 : ((l2.length : Int) != a0_0) = false := bne_eq_false_iff_eq.mpr c11
     clear c11
     (first | rw [c11b0] | (simp only [i64_w, i32_w]; rw [c11b0]) | skip)
     replace H := Option.bind_eq_some_iff.mp H
     obtain ⟨t317, A120, H⟩ := H
     try dsimp only at H
     have A12 := sd_ A120
     clear A120
     by_cases c13 : t317 = true
     ·subst c13
      have H1 : (impl_IsMap.j0 k l2 true a0_0 l0_1 l0_2 l0_3 a1_0 l1_1 l1_2 l1_3) = some r := by rw [if_pos rfl] at H; exact H
      clear H
      have H := H1
      clear H1
      have H' := sd_ H
      clear H
      have hnb14 := NB313_314.out
      have hnc14 := NB314_313.out
      obtain ⟨hcz15_0, hcz15_1, hcz15_2, hcz15_3, hfz15_0, hfz15_1, hfz15_2, hfz15_3⟩ := bf4_ BK313.out
      go_wp2_with (first | ((with_reducible refine gate_callee (f := 31) rfl ?_); refine goesL_ (some 10) rfl rfl Try.func31 (by kernel_rfl) rfl #[.agg #[.int .i64 a0_0, .slice A0_1 l0_1.length c0_1, .slice A0_2 l0_2.length c0_2, .slice A0_3 l0_3.length c0_3]] rfl la_ ?_; (with_reducible refine (impl_IsSystem.calls k a0_0 _ _ l0_1 _ _ l0_2 _ _ l0_3 true _ (kc_ HR0_1.out HB.out) HC0_1.out (kc_ HR0_2.out HB.out) HC0_2.out (kc_ HR0_3.out HB.out) HC0_3.out A7.out).mono ?_); rintro e w16 ⟨rfl, hb⟩; refine ⟨_, rfl, ?_⟩; replace BK313 := sd_ (bb_ BK313.out hb); replace BK314 := sd_ (bb_ BK314.out hb); replace HB := sd_ (below_step (bw2_ HB.out GE313.out GE314.out) hb); (try clear hb); obtain ⟨hcz17_0, hcz17_1, hcz17_2, hcz17_3, hfz17_0, hfz17_1, hfz17_2, hfz17_3⟩ := bf4_ BK314.out) | (go_at_call 31; (with_reducible refine (impl_IsSystem.calls k a1_0 _ _ l1_1 _ _ l1_2 _ _ l1_3 true _ (kc_ HR1_1.out HB.out) HC1_1.out (kc_ HR1_2.out HB.out) HC1_2.out (kc_ HR1_3.out HB.out) HC1_3.out A9.out).mono ?_); rintro e w18 ⟨rfl, hb⟩; replace BK313 := sd_ (bb_ BK313.out hb); replace BK314 := sd_ (bb_ BK314.out hb); replace HB := sd_ (below_step (bw2_ HB.out GE313.out GE314.out) hb); (try clear hb); obtain ⟨hcz19_0, hcz19_1, hcz19_2, hcz19_3, hfz19_0, hfz19_1, hfz19_2, hfz19_3⟩ := bf4_ BK313.out) | (go_at_call 74; (with_reducible refine (slices_ContainsFunc_int_int.calls k _ _ l2 (fun z0_ => impl_IsMap_1.f z0_ a1_0 l1_1 l1_2 l1_3) 75 #[] #[.pointer (some ⟨gb314, 0, none⟩)] true _ ?side1 ?side2 ?side3 ?side4 A12.out).mono ?_); (case side1 => exact kc_ HR2.out HB.out); (case side2 => exact HC2.out); (case side3 => exact ⟨_, Try.func75, (by kernel_rfl), rfl⟩); (case side4 => intro z0_0 rr0_0 w9_0  hb9_0 h9_0; refine calls_of_args (args' := #[.int .i64 z0_0, .pointer (some ⟨gb314, 0, none⟩)]) (by first | rfl | simp) ?_; refine (impl_IsMap_1.calls z0_0 gb314 a1_0 _ _ l1_1 _ _ l1_2 _ _ l1_3 rr0_0 w9_0 (Kd.C_below (by exact kc_ HR1_1.out HB.out) hb9_0) (by exact HC1_1.out) (Kd.C_below (by exact kc_ HR1_2.out HB.out) hb9_0) (by exact HC1_2.out) (Kd.C_below (by exact kc_ HR1_3.out HB.out) hb9_0) (by exact HC1_3.out) (blk_below (bz_ BK314.out) hb9_0) h9_0).mono ?_; exact fun _ _ h_ => h_); rintro e w20 ⟨rfl, hb⟩; replace BK313 := sd_ (bb_ BK313.out hb); replace BK314 := sd_ (bb_ BK314.out hb); replace HB := sd_ (below_step (bw2_ HB.out GE313.out GE314.out) hb); (try clear hb)))
      go_meet
      case rel => exact ⟨_, (true), sm_, H', ⟨by first | omega | exact Nat.le_refl _⟩, ⟨by (with_reducible repeat (first | refine blk_drewN ?_ _ | refine blk_drew ?_ | refine blk_alloc ?_ _)); exact BK313.out⟩, ⟨by (with_reducible repeat (first | refine blk_drewN ?_ _ | refine blk_drew ?_ | refine blk_alloc ?_ _)); exact BK314.out⟩, ⟨bw2_ HB.out GE313.out GE314.out⟩⟩
     ·replace c13 := Bool.eq_false_iff.mpr c13
      subst c13
      have H1 : (if 0 < (l2.length : Int) then (if (rd l2 0) = 0 then (if 1 < (l2.length : Int) then (impl_IsMap.j0 k l2 ((rd l2 1) != 1) a0_0 l0_1 l0_2 l0_3 a1_0 l1_1 l1_2 l1_3) else (none)) else (impl_IsMap.j0 k l2 true a0_0 l0_1 l0_2 l0_3 a1_0 l1_1 l1_2 l1_3)) else (none)) = some r := by rw [if_neg (show ¬ (false = true) by decide)] at H; exact H
      clear H
      have H := H1
      clear H1
      by_cases c21 : 0 < (l2.length : Int)
      ·rw [if_pos c21] at H
       have c21b0 : decide (0 < (l2.length : Int)) = true := decide_eq_true c21
       have c21b1 : decide (0 < l2.length) = true := decide_eq_true (by omega)
       clear c21
       by_cases c22 : (rd l2 0) = 0
       ·rw [if_pos c22] at H
        have c22b0 : ((rd l2 0) == 0) = true := beq_iff_eq.mpr c22
        have c22b1 : ((rd l2 0) != 0) = false := bne_eq_false_iff_eq.mpr c22
        clear c22
        by_cases c23 : 1 < (l2.length : Int)
        ·rw [if_pos c23] at H
         have c23b0 : decide (1 < (l2.length : Int)) = true := decide_eq_true c23
         have c23b1 : decide (1 < l2.length) = true := decide_eq_true (by omega)
         clear c23
         have H' := sd_ H
         clear H
         have hnb24 := NB313_314.out
         have hnc24 := NB314_313.out
         obtain ⟨hcz25_0, hcz25_1, hcz25_2, hcz25_3, hfz25_0, hfz25_1, hfz25_2, hfz25_3⟩ := bf4_ BK313.out
         go_wp2_with (first | ((with_reducible refine gate_callee (f := 31) rfl ?_); refine goesL_ (some 10) rfl rfl Try.func31 (by kernel_rfl) rfl #[.agg #[.int .i64 a0_0, .slice A0_1 l0_1.length c0_1, .slice A0_2 l0_2.length c0_2, .slice A0_3 l0_3.length c0_3]] rfl la_ ?_; (with_reducible refine (impl_IsSystem.calls k a0_0 _ _ l0_1 _ _ l0_2 _ _ l0_3 true _ (kc_ HR0_1.out HB.out) HC0_1.out (kc_ HR0_2.out HB.out) HC0_2.out (kc_ HR0_3.out HB.out) HC0_3.out A7.out).mono ?_); rintro e w26 ⟨rfl, hb⟩; refine ⟨_, rfl, ?_⟩; replace BK313 := sd_ (bb_ BK313.out hb); replace BK314 := sd_ (bb_ BK314.out hb); replace HB := sd_ (below_step (bw2_ HB.out GE313.out GE314.out) hb); (try clear hb); obtain ⟨hcz27_0, hcz27_1, hcz27_2, hcz27_3, hfz27_0, hfz27_1, hfz27_2, hfz27_3⟩ := bf4_ BK314.out) | (go_at_call 31; (with_reducible refine (impl_IsSystem.calls k a1_0 _ _ l1_1 _ _ l1_2 _ _ l1_3 true _ (kc_ HR1_1.out HB.out) HC1_1.out (kc_ HR1_2.out HB.out) HC1_2.out (kc_ HR1_3.out HB.out) HC1_3.out A9.out).mono ?_); rintro e w28 ⟨rfl, hb⟩; replace BK313 := sd_ (bb_ BK313.out hb); replace BK314 := sd_ (bb_ BK314.out hb); replace HB := sd_ (below_step (bw2_ HB.out GE313.out GE314.out) hb); (try clear hb); obtain ⟨hcz29_0, hcz29_1, hcz29_2, hcz29_3, hfz29_0, hfz29_1, hfz29_2, hfz29_3⟩ := bf4_ BK313.out) | (go_at_call 74; (with_reducible refine (slices_ContainsFunc_int_int.calls k _ _ l2 (fun z0_ => impl_IsMap_1.f z0_ a1_0 l1_1 l1_2 l1_3) 75 #[] #[.pointer (some ⟨gb314, 0, none⟩)] false _ ?side1 ?side2 ?side3 ?side4 A12.out).mono ?_); (case side1 => exact kc_ HR2.out HB.out); (case side2 => exact HC2.out); (case side3 => exact ⟨_, Try.func75, (by kernel_rfl), rfl⟩); (case side4 => intro z0_0 rr0_0 w9_0  hb9_0 h9_0; refine calls_of_args (args' := #[.int .i64 z0_0, .pointer (some ⟨gb314, 0, none⟩)]) (by first | rfl | simp) ?_; refine (impl_IsMap_1.calls z0_0 gb314 a1_0 _ _ l1_1 _ _ l1_2 _ _ l1_3 rr0_0 w9_0 (Kd.C_below (by exact kc_ HR1_1.out HB.out) hb9_0) (by exact HC1_1.out) (Kd.C_below (by exact kc_ HR1_2.out HB.out) hb9_0) (by exact HC1_2.out) (Kd.C_below (by exact kc_ HR1_3.out HB.out) hb9_0) (by exact HC1_3.out) (blk_below (bz_ BK314.out) hb9_0) h9_0).mono ?_; exact fun _ _ h_ => h_); rintro e w30 ⟨rfl, hb⟩; replace BK313 := sd_ (bb_ BK313.out hb); replace BK314 := sd_ (bb_ BK314.out hb); replace HB := sd_ (below_step (bw2_ HB.out GE313.out GE314.out) hb); (try clear hb); have p318 : 0 ≤ (0 : Int) := (by omega); have q318 : 0 < (l2.length : Int) := dt_; obtain ⟨ad318, e318, hx318_0⟩ := Kd.at_int HR2.out 0 p318 q318; cases e318; have qi318 : (0 < l2.length) = True := eq_true (by omega); (try rw [show ((0 : Int)).toNat = 0 from rfl] at hx318_0); (try rw [Addr.add_zero'] at hx318_0); replace hx318_0 := (HB.out.cell (World.block_lt_of_cell? w _ hx318_0)).trans hx318_0; replace p318 := eq_true p318; replace q318 := eq_true q318; have p319 : 0 ≤ (1 : Int) := (by omega); have q319 : 1 < (l2.length : Int) := dt_; obtain ⟨ad319, e319, hx319_0⟩ := Kd.at_int HR2.out 1 p319 q319; obtain rfl : ad318 = ad319 := (by injection e319); (try simp only [show (1 : Int).toNat = 1 from rfl, Nat.reduceMul, Nat.reduceEqDiff, Go.Addr.add, ↓reduceIte] at hx319_0); have qi319 : (1 < l2.length) = True := eq_true (by omega); (try rw [show ((1 : Int)).toNat = 1 from rfl] at hx319_0); replace hx319_0 := (HB.out.cell (World.block_lt_of_cell? w _ hx319_0)).trans hx319_0; replace p319 := eq_true p319; replace q319 := eq_true q319))
         go_meet
         case rel => exact ⟨_, (((rd l2 1) != 1)), sm_, H', ⟨by first | omega | exact Nat.le_refl _⟩, ⟨by (with_reducible repeat (first | refine blk_drewN ?_ _ | refine blk_drew ?_ | refine blk_alloc ?_ _)); exact BK313.out⟩, ⟨by (with_reducible repeat (first | refine blk_drewN ?_ _ | refine blk_drew ?_ | refine blk_alloc ?_ _)); exact BK314.out⟩, ⟨bw2_ HB.out GE313.out GE314.out⟩⟩
        ·rw [if_neg c23] at H
         exact absurd H (by simp)
       ·rw [if_neg c22] at H
        have c22b0 : ((rd l2 0) == 0) = false := beq_eq_false_iff_ne.mpr c22
        have c22b1 : ((rd l2 0) != 0) = true := bne_iff_ne.mpr c22
        have H' := sd_ H
        clear H
        have hnb31 := NB313_314.out
        have hnc31 := NB314_313.out
        obtain ⟨hcz32_0, hcz32_1, hcz32_2, hcz32_3, hfz32_0, hfz32_1, hfz32_2, hfz32_3⟩ := bf4_ BK313.out
        go_wp2_with (first | ((with_reducible refine gate_callee (f := 31) rfl ?_); refine goesL_ (some 10) rfl rfl Try.func31 (by kernel_rfl) rfl #[.agg #[.int .i64 a0_0, .slice A0_1 l0_1.length c0_1, .slice A0_2 l0_2.length c0_2, .slice A0_3 l0_3.length c0_3]] rfl la_ ?_; (with_reducible refine (impl_IsSystem.calls k a0_0 _ _ l0_1 _ _ l0_2 _ _ l0_3 true _ (kc_ HR0_1.out HB.out) HC0_1.out (kc_ HR0_2.out HB.out) HC0_2.out (kc_ HR0_3.out HB.out) HC0_3.out A7.out).mono ?_); rintro e w33 ⟨rfl, hb⟩; refine ⟨_, rfl, ?_⟩; replace BK313 := sd_ (bb_ BK313.out hb); replace BK314 := sd_ (bb_ BK314.out hb); replace HB := sd_ (below_step (bw2_ HB.out GE313.out GE314.out) hb); (try clear hb); obtain ⟨hcz34_0, hcz34_1, hcz34_2, hcz34_3, hfz34_0, hfz34_1, hfz34_2, hfz34_3⟩ := bf4_ BK314.out) | (go_at_call 31; (with_reducible refine (impl_IsSystem.calls k a1_0 _ _ l1_1 _ _ l1_2 _ _ l1_3 true _ (kc_ HR1_1.out HB.out) HC1_1.out (kc_ HR1_2.out HB.out) HC1_2.out (kc_ HR1_3.out HB.out) HC1_3.out A9.out).mono ?_); rintro e w35 ⟨rfl, hb⟩; replace BK313 := sd_ (bb_ BK313.out hb); replace BK314 := sd_ (bb_ BK314.out hb); replace HB := sd_ (below_step (bw2_ HB.out GE313.out GE314.out) hb); (try clear hb); obtain ⟨hcz36_0, hcz36_1, hcz36_2, hcz36_3, hfz36_0, hfz36_1, hfz36_2, hfz36_3⟩ := bf4_ BK313.out) | (go_at_call 74; (with_reducible refine (slices_ContainsFunc_int_int.calls k _ _ l2 (fun z0_ => impl_IsMap_1.f z0_ a1_0 l1_1 l1_2 l1_3) 75 #[] #[.pointer (some ⟨gb314, 0, none⟩)] false _ ?side1 ?side2 ?side3 ?side4 A12.out).mono ?_); (case side1 => exact kc_ HR2.out HB.out); (case side2 => exact HC2.out); (case side3 => exact ⟨_, Try.func75, (by kernel_rfl), rfl⟩); (case side4 => intro z0_0 rr0_0 w9_0  hb9_0 h9_0; refine calls_of_args (args' := #[.int .i64 z0_0, .pointer (some ⟨gb314, 0, none⟩)]) (by first | rfl | simp) ?_; refine (impl_IsMap_1.calls z0_0 gb314 a1_0 _ _ l1_1 _ _ l1_2 _ _ l1_3 rr0_0 w9_0 (Kd.C_below (by exact kc_ HR1_1.out HB.out) hb9_0) (by exact HC1_1.out) (Kd.C_below (by exact kc_ HR1_2.out HB.out) hb9_0) (by exact HC1_2.out) (Kd.C_below (by exact kc_ HR1_3.out HB.out) hb9_0) (by exact HC1_3.out) (blk_below (bz_ BK314.out) hb9_0) h9_0).mono ?_; exact fun _ _ h_ => h_); rintro e w37 ⟨rfl, hb⟩; replace BK313 := sd_ (bb_ BK313.out hb); replace BK314 := sd_ (bb_ BK314.out hb); replace HB := sd_ (below_step (bw2_ HB.out GE313.out GE314.out) hb); (try clear hb); have p318 : 0 ≤ (0 : Int) := (by omega); have q318 : 0 < (l2.length : Int) := dt_; obtain ⟨ad318, e318, hx318_0⟩ := Kd.at_int HR2.out 0 p318 q318; cases e318; have qi318 : (0 < l2.length) = True := eq_true (by omega); (try rw [show ((0 : Int)).toNat = 0 from rfl] at hx318_0); (try rw [Addr.add_zero'] at hx318_0); replace hx318_0 := (HB.out.cell (World.block_lt_of_cell? w _ hx318_0)).trans hx318_0; replace p318 := eq_true p318; replace q318 := eq_true q318))
        go_meet
        case rel => exact ⟨_, (true), sm_, H', ⟨by first | omega | exact Nat.le_refl _⟩, ⟨by (with_reducible repeat (first | refine blk_drewN ?_ _ | refine blk_drew ?_ | refine blk_alloc ?_ _)); exact BK313.out⟩, ⟨by (with_reducible repeat (first | refine blk_drewN ?_ _ | refine blk_drew ?_ | refine blk_alloc ?_ _)); exact BK314.out⟩, ⟨bw2_ HB.out GE313.out GE314.out⟩⟩
      ·rw [if_neg c21] at H
       exact absurd H (by simp)
    ·rw [if_neg c11] at H
     have c11b0 : ((l2.length : Int) == a0_0) = false := beq_eq_false_iff_ne.mpr c11
     have c11b1 : ((l2.length : Int) != a0_0) = true := bne_iff_ne.mpr c11
     (first | rw [c11b0] | (simp only [i64_w, i32_w]; rw [c11b0]) | skip)
     have H' := sd_ H
     clear H
     have hnb38 := NB313_314.out
     have hnc38 := NB314_313.out
     obtain ⟨hcz39_0, hcz39_1, hcz39_2, hcz39_3, hfz39_0, hfz39_1, hfz39_2, hfz39_3⟩ := bf4_ BK313.out
     go_wp2_with (first | ((with_reducible refine gate_callee (f := 31) rfl ?_); refine goesL_ (some 10) rfl rfl Try.func31 (by kernel_rfl) rfl #[.agg #[.int .i64 a0_0, .slice A0_1 l0_1.length c0_1, .slice A0_2 l0_2.length c0_2, .slice A0_3 l0_3.length c0_3]] rfl la_ ?_; (with_reducible refine (impl_IsSystem.calls k a0_0 _ _ l0_1 _ _ l0_2 _ _ l0_3 true _ (kc_ HR0_1.out HB.out) HC0_1.out (kc_ HR0_2.out HB.out) HC0_2.out (kc_ HR0_3.out HB.out) HC0_3.out A7.out).mono ?_); rintro e w40 ⟨rfl, hb⟩; refine ⟨_, rfl, ?_⟩; replace BK313 := sd_ (bb_ BK313.out hb); replace BK314 := sd_ (bb_ BK314.out hb); replace HB := sd_ (below_step (bw2_ HB.out GE313.out GE314.out) hb); (try clear hb); obtain ⟨hcz41_0, hcz41_1, hcz41_2, hcz41_3, hfz41_0, hfz41_1, hfz41_2, hfz41_3⟩ := bf4_ BK314.out) | (go_at_call 31; (with_reducible refine (impl_IsSystem.calls k a1_0 _ _ l1_1 _ _ l1_2 _ _ l1_3 true _ (kc_ HR1_1.out HB.out) HC1_1.out (kc_ HR1_2.out HB.out) HC1_2.out (kc_ HR1_3.out HB.out) HC1_3.out A9.out).mono ?_); rintro e w42 ⟨rfl, hb⟩; replace BK313 := sd_ (bb_ BK313.out hb); replace BK314 := sd_ (bb_ BK314.out hb); replace HB := sd_ (below_step (bw2_ HB.out GE313.out GE314.out) hb); (try clear hb); obtain ⟨hcz43_0, hcz43_1, hcz43_2, hcz43_3, hfz43_0, hfz43_1, hfz43_2, hfz43_3⟩ := bf4_ BK313.out))
     go_meet
     case rel => exact ⟨_, (true), sm_, H', ⟨by first | omega | exact Nat.le_refl _⟩, ⟨by (with_reducible repeat (first | refine blk_drewN ?_ _ | refine blk_drew ?_ | refine blk_alloc ?_ _)); exact BK313.out⟩, ⟨by (with_reducible repeat (first | refine blk_drewN ?_ _ | refine blk_drew ?_ | refine blk_alloc ?_ _)); exact BK314.out⟩, ⟨bw2_ HB.out GE313.out GE314.out⟩⟩
   ·replace c10 := Bool.eq_false_iff.mpr c10
    subst c10
    have H1 : (impl_IsMap.j0 k l2 true a0_0 l0_1 l0_2 l0_3 a1_0 l1_1 l1_2 l1_3) = some r := by rw [if_neg (show ¬ (false = true) by decide)] at H; exact H
    clear H
    have H := H1
    clear H1
    have H' := sd_ H
    clear H
    have hnb44 := NB313_314.out
    have hnc44 := NB314_313.out
    obtain ⟨hcz45_0, hcz45_1, hcz45_2, hcz45_3, hfz45_0, hfz45_1, hfz45_2, hfz45_3⟩ := bf4_ BK313.out
    go_wp2_with (first | ((with_reducible refine gate_callee (f := 31) rfl ?_); refine goesL_ (some 10) rfl rfl Try.func31 (by kernel_rfl) rfl #[.agg #[.int .i64 a0_0, .slice A0_1 l0_1.length c0_1, .slice A0_2 l0_2.length c0_2, .slice A0_3 l0_3.length c0_3]] rfl la_ ?_; (with_reducible refine (impl_IsSystem.calls k a0_0 _ _ l0_1 _ _ l0_2 _ _ l0_3 true _ (kc_ HR0_1.out HB.out) HC0_1.out (kc_ HR0_2.out HB.out) HC0_2.out (kc_ HR0_3.out HB.out) HC0_3.out A7.out).mono ?_); rintro e w46 ⟨rfl, hb⟩; refine ⟨_, rfl, ?_⟩; replace BK313 := sd_ (bb_ BK313.out hb); replace BK314 := sd_ (bb_ BK314.out hb); replace HB := sd_ (below_step (bw2_ HB.out GE313.out GE314.out) hb); (try clear hb); obtain ⟨hcz47_0, hcz47_1, hcz47_2, hcz47_3, hfz47_0, hfz47_1, hfz47_2, hfz47_3⟩ := bf4_ BK314.out) | (go_at_call 31; (with_reducible refine (impl_IsSystem.calls k a1_0 _ _ l1_1 _ _ l1_2 _ _ l1_3 false _ (kc_ HR1_1.out HB.out) HC1_1.out (kc_ HR1_2.out HB.out) HC1_2.out (kc_ HR1_3.out HB.out) HC1_3.out A9.out).mono ?_); rintro e w48 ⟨rfl, hb⟩; replace BK313 := sd_ (bb_ BK313.out hb); replace BK314 := sd_ (bb_ BK314.out hb); replace HB := sd_ (below_step (bw2_ HB.out GE313.out GE314.out) hb); (try clear hb)))
    go_meet
    case rel => exact ⟨_, (true), sm_, H', ⟨by first | omega | exact Nat.le_refl _⟩, ⟨by (with_reducible repeat (first | refine blk_drewN ?_ _ | refine blk_drew ?_ | refine blk_alloc ?_ _)); exact BK313.out⟩, ⟨by (with_reducible repeat (first | refine blk_drewN ?_ _ | refine blk_drew ?_ | refine blk_alloc ?_ _)); exact BK314.out⟩, ⟨bw2_ HB.out GE313.out GE314.out⟩⟩
  ·replace c8 := Bool.eq_false_iff.mpr c8
   subst c8
   have H1 : (impl_IsMap.j0 k l2 true a0_0 l0_1 l0_2 l0_3 a1_0 l1_1 l1_2 l1_3) = some r := by rw [if_neg (show ¬ (false = true) by decide)] at H; exact H
   clear H
   have H := H1
   clear H1
   have H' := sd_ H
   clear H
   have hnb49 := NB313_314.out
   have hnc49 := NB314_313.out
   obtain ⟨hcz50_0, hcz50_1, hcz50_2, hcz50_3, hfz50_0, hfz50_1, hfz50_2, hfz50_3⟩ := bf4_ BK313.out
   go_wp2_with (first | ((with_reducible refine gate_callee (f := 31) rfl ?_); refine goesL_ (some 10) rfl rfl Try.func31 (by kernel_rfl) rfl #[.agg #[.int .i64 a0_0, .slice A0_1 l0_1.length c0_1, .slice A0_2 l0_2.length c0_2, .slice A0_3 l0_3.length c0_3]] rfl la_ ?_; (with_reducible refine (impl_IsSystem.calls k a0_0 _ _ l0_1 _ _ l0_2 _ _ l0_3 false _ (kc_ HR0_1.out HB.out) HC0_1.out (kc_ HR0_2.out HB.out) HC0_2.out (kc_ HR0_3.out HB.out) HC0_3.out A7.out).mono ?_); rintro e w51 ⟨rfl, hb⟩; refine ⟨_, rfl, ?_⟩; replace BK313 := sd_ (bb_ BK313.out hb); replace BK314 := sd_ (bb_ BK314.out hb); replace HB := sd_ (below_step (bw2_ HB.out GE313.out GE314.out) hb); (try clear hb)))
   go_meet
   case rel => exact ⟨_, (true), sm_, H', ⟨by first | omega | exact Nat.le_refl _⟩, ⟨by (with_reducible repeat (first | refine blk_drewN ?_ _ | refine blk_drew ?_ | refine blk_alloc ?_ _)); exact BK313.out⟩, ⟨by (with_reducible repeat (first | refine blk_drewN ?_ _ | refine blk_drew ?_ | refine blk_alloc ?_ _)); exact BK314.out⟩, ⟨bw2_ HB.out GE313.out GE314.out⟩⟩
 case rest =>
  clear HC4
  try clear c1
  try clear c2
  try clear c21
  obtain ⟨kq, x40_3, rfl, HA, HJ3, BK313, BK314, HB⟩ := hcut
  cases kq with
  | zero => exact absurd HA.out (by simp [impl_IsMap.j0])
  | succ kj3 =>
   have H := HA.out
   clear HA
   simp only [impl_IsMap.j0] at H
   by_cases c52 : x40_3 = true
   ·subst c52
    have H1 : (some false) = some r := by rw [if_pos rfl] at H; exact H
    clear H
    have H := H1
    clear H1
    obtain rfl := Option.some.inj H
    go_wp2
    go_ret
    exact ⟨an_, bw2_ HB.out GE313.out GE314.out⟩
   ·replace c52 := Bool.eq_false_iff.mpr c52
    subst c52
    have H1 : (impl_IsMap.l0 kj3 l2 0 a0_0 l0_1 l0_2 l0_3 a1_0 l1_1 l1_2 l1_3) = some r := by rw [if_neg (show ¬ (false = true) by decide)] at H; exact H
    clear H
    have H := H1
    clear H1
    have H' := sd_ H
    clear H
    go_wp2
    go_loopg [7] kj3 (fun kq v7 w' => ∃ (x7_2 : Int), v7 = .int .i64 x7_2 ∧ Aside0 (impl_IsMap.l0 kq l2 x7_2 a0_0 l0_1 l0_2 l0_3 a1_0 l1_1 l1_2 l1_3 = some r) ∧ Aside0 (kq ≤ kj3) ∧ Aside0 (w'.heap[gb313]? = some (.cells #[.int .i64 a0_0, (.slice A0_1 l0_1.length c0_1), (.slice A0_2 l0_2.length c0_2), (.slice A0_3 l0_3.length c0_3)] 27 (0, 0))) ∧ Aside0 (w'.heap[gb314]? = some (.cells #[.int .i64 a1_0, (.slice A1_1 l1_1.length c1_1), (.slice A1_2 l1_2.length c1_2), (.slice A1_3 l1_3.length c1_3)] 27 (0, 0))) ∧ Aside0 (Below w.heap.size w w'))
    case atStart => exact ⟨(0), sm_, H', ⟨Nat.le_refl _⟩, ⟨by (with_reducible repeat (first | refine blk_drewN ?_ _ | refine blk_drew ?_ | refine blk_alloc ?_ _)); exact BK313.out⟩, ⟨by (with_reducible repeat (first | refine blk_drewN ?_ _ | refine blk_drew ?_ | refine blk_alloc ?_ _)); exact BK314.out⟩, ⟨bw2_ HB.out GE313.out GE314.out⟩⟩
    case round =>
     clear H'
     try clear c1
     try clear c2
     try clear p2
     try clear c5
     try clear c21
     try clear c52
     obtain ⟨x7_2, rfl, HA, HK2, BK313, BK314, HB⟩ := hrel
     cases gk with
     | zero => exact absurd HA.out (by simp [impl_IsMap.l0])
     | succ k2 =>
      have H := HA.out
      clear HA
      simp only [impl_IsMap.l0] at H
      by_cases c53 : x7_2 < a0_0
      ·rw [if_pos c53] at H
       have c53b0 : decide (x7_2 < a0_0) = true := decide_eq_true c53
       clear c53
       have H' := sd_ H
       clear H
       have hnb54 := NB313_314.out
       have hnc54 := NB314_313.out
       obtain ⟨hcz55_0, hcz55_1, hcz55_2, hcz55_3, hfz55_0, hfz55_1, hfz55_2, hfz55_3⟩ := bf4_ BK313.out
       go_wp2
       go_loopg [8] k2 (fun kq v8 w' => ∃ (x8_3 : Int), v8 = .int .i64 x8_3 ∧ Aside0 (impl_IsMap.l1 kq l2 x7_2 x8_3 a0_0 l0_1 l0_2 l0_3 a1_0 l1_1 l1_2 l1_3 = some r) ∧ Aside0 (kq ≤ k2) ∧ Aside0 (w'.heap[gb313]? = some (.cells #[.int .i64 a0_0, (.slice A0_1 l0_1.length c0_1), (.slice A0_2 l0_2.length c0_2), (.slice A0_3 l0_3.length c0_3)] 27 (0, 0))) ∧ Aside0 (w'.heap[gb314]? = some (.cells #[.int .i64 a1_0, (.slice A1_1 l1_1.length c1_1), (.slice A1_2 l1_2.length c1_2), (.slice A1_3 l1_3.length c1_3)] 27 (0, 0))) ∧ Aside0 (Below w.heap.size w w'))
       case atStart => exact ⟨(0), sm_, H', ⟨Nat.le_refl _⟩, ⟨by (with_reducible repeat (first | refine blk_drewN ?_ _ | refine blk_drew ?_ | refine blk_alloc ?_ _)); exact BK313.out⟩, ⟨by (with_reducible repeat (first | refine blk_drewN ?_ _ | refine blk_drew ?_ | refine blk_alloc ?_ _)); exact BK314.out⟩, ⟨bw2_ HB.out GE313.out GE314.out⟩⟩
       case round =>
        clear H'
        try clear c1
        try clear c2
        try clear p2
        try clear c5
        try clear c21
        try clear c52
        try clear c53
        try clear c53b0
        try clear c54
        try clear hcz55_0
        try clear hcz55_1
        try clear hcz55_2
        try clear hcz55_3
        try clear hfz55_0
        try clear hfz55_1
        try clear hfz55_2
        try clear hfz55_3
        try clear p2
        obtain ⟨x8_3, rfl, HA, HK3, BK313, BK314, HB⟩ := hrel
        cases gk with
        | zero => exact absurd HA.out (by simp [impl_IsMap.l1])
        | succ k3 =>
         have H := HA.out
         clear HA
         simp only [impl_IsMap.l1] at H
         by_cases c56 : x8_3 < a0_0
         ·rw [if_pos c56] at H
          have c56b0 : decide (x8_3 < a0_0) = true := decide_eq_true c56
          clear c56
          replace H := Option.bind_eq_some_iff.mp H
          obtain ⟨t320, A570, H⟩ := H
          try dsimp only at H
          have A57 := sd_ A570
          clear A570
          by_cases c58 : 0 ≤ t320
          ·rw [if_pos c58] at H
           have c58b0 : decide (0 ≤ t320) = true := decide_eq_true c58
           clear c58
           by_cases c59 : t320 < (l2.length : Int)
           ·rw [if_pos c59] at H
            have c59b0 : decide (t320 < (l2.length : Int)) = true := decide_eq_true c59
            clear c59
            by_cases c60 : 0 ≤ x7_2
            ·rw [if_pos c60] at H
             have c60b0 : decide (0 ≤ x7_2) = true := decide_eq_true c60
             clear c60
             by_cases c61 : x7_2 < (l2.length : Int)
             ·rw [if_pos c61] at H
              have c61b0 : decide (x7_2 < (l2.length : Int)) = true := decide_eq_true c61
              clear c61
              by_cases c62 : 0 ≤ x8_3
              ·rw [if_pos c62] at H
               have c62b0 : decide (0 ≤ x8_3) = true := decide_eq_true c62
               clear c62
               by_cases c63 : x8_3 < (l2.length : Int)
               ·rw [if_pos c63] at H
                have c63b0 : decide (x8_3 < (l2.length : Int)) = true := decide_eq_true c63
                clear c63
                replace H := Option.bind_eq_some_iff.mp H
                obtain ⟨t324, A640, H⟩ := H
                try dsimp only at H
                have A64 := sd_ A640
                clear A640
                by_cases c65 : (rd l2 t320) = t324
                ·rw [if_pos c65] at H
                 have c65b0 : ((rd l2 t320) == t324) = true := beq_iff_eq.mpr c65
                 have c65b1 : ((rd l2 t320) != t324) = false := bne_eq_false_iff_eq.mpr c65
                 clear c65
                 replace H := Option.bind_eq_some_iff.mp H
                 obtain ⟨t325, A660, H⟩ := H
                 try dsimp only at H
                 have A66 := sd_ A660
                 clear A660
                 by_cases c67 : 0 ≤ t325
                 ·rw [if_pos c67] at H
                  have c67b0 : decide (0 ≤ t325) = true := decide_eq_true c67
                  clear c67
                  by_cases c68 : t325 < (l2.length : Int)
                  ·rw [if_pos c68] at H
                   have c68b0 : decide (t325 < (l2.length : Int)) = true := decide_eq_true c68
                   clear c68
                   replace H := Option.bind_eq_some_iff.mp H
                   obtain ⟨t329, A690, H⟩ := H
                   try dsimp only at H
                   have A69 := sd_ A690
                   clear A690
                   by_cases c70 : (rd l2 t325) = t329
                   ·rw [if_pos c70] at H
                    have c70b0 : ((rd l2 t325) == t329) = true := beq_iff_eq.mpr c70
                    have c70b1 : ((rd l2 t325) != t329) = false := bne_eq_false_iff_eq.mpr c70
                    clear c70
                    replace H := Option.bind_eq_some_iff.mp H
                    obtain ⟨t330, A710, H⟩ := H
                    try dsimp only at H
                    have A71 := sd_ A710
                    clear A710
                    by_cases c72 : t330 = true
                    ·subst c72
                     have H1 : ((impl_System_below.f a1_0 l1_1 l1_2 l1_3 (rd l2 x7_2) (rd l2 x8_3)).bind fun t333 => (if t333 = true then (impl_IsMap.l1 k3 l2 x7_2 (wrap64 (x8_3 + 1)) a0_0 l0_1 l0_2 l0_3 a1_0 l1_1 l1_2 l1_3) else (some false))) = some r := by rw [if_pos rfl] at H; exact H
                     clear H
                     have H := H1
                     clear H1
                     replace H := Option.bind_eq_some_iff.mp H
                     obtain ⟨t333, A730, H⟩ := H
                     try dsimp only at H
                     have A73 := sd_ A730
                     clear A730
                     by_cases c74 : t333 = true
                     ·subst c74
                      have H1 : (impl_IsMap.l1 k3 l2 x7_2 (wrap64 (x8_3 + 1)) a0_0 l0_1 l0_2 l0_3 a1_0 l1_1 l1_2 l1_3) = some r := by rw [if_pos rfl] at H; exact H
                      clear H
                      have H := H1
                      clear H1
                      have H' := sd_ H
                      clear H
                      have hnb75 := NB313_314.out
                      have hnc75 := NB314_313.out
                      obtain ⟨hcz76_0, hcz76_1, hcz76_2, hcz76_3, hfz76_0, hfz76_1, hfz76_2, hfz76_3⟩ := bf4_ BK313.out
                      try go_wp2
                      have p321 : 0 ≤ (t320 : Int) := dt_
                      have q321 : t320 < (l2.length : Int) := dt_
                      obtain ⟨ad321, e321, hx321_0⟩ := Kd.at_int HR2.out t320 p321 q321
                      cases e321
                      replace hx321_0 := (HB.out.cell (World.block_lt_of_cell? w _ hx321_0)).trans hx321_0
                      replace p321 := eq_true p321
                      replace q321 := eq_true q321
                      have p322 : 0 ≤ (x7_2 : Int) := dt_
                      have q322 : x7_2 < (l2.length : Int) := dt_
                      obtain ⟨ad322, e322, hx322_0⟩ := Kd.at_int HR2.out x7_2 p322 q322
                      obtain rfl : ad321 = ad322 := (by injection e322)
                      replace hx322_0 := (HB.out.cell (World.block_lt_of_cell? w _ hx322_0)).trans hx322_0
                      replace p322 := eq_true p322
                      replace q322 := eq_true q322
                      have p323 : 0 ≤ (x8_3 : Int) := dt_
                      have q323 : x8_3 < (l2.length : Int) := dt_
                      obtain ⟨ad323, e323, hx323_0⟩ := Kd.at_int HR2.out x8_3 p323 q323
                      obtain rfl : ad321 = ad323 := (by injection e323)
                      replace hx323_0 := (HB.out.cell (World.block_lt_of_cell? w _ hx323_0)).trans hx323_0
                      replace p323 := eq_true p323
                      replace q323 := eq_true q323
                      have p326 : 0 ≤ (t325 : Int) := dt_
                      have q326 : t325 < (l2.length : Int) := dt_
                      obtain ⟨ad326, e326, hx326_0⟩ := Kd.at_int HR2.out t325 p326 q326
                      obtain rfl : ad321 = ad326 := (by injection e326)
                      replace hx326_0 := (HB.out.cell (World.block_lt_of_cell? w _ hx326_0)).trans hx326_0
                      replace p326 := eq_true p326
                      replace q326 := eq_true q326
                      have p327 : 0 ≤ (x7_2 : Int) := dt_
                      have q327 : x7_2 < (l2.length : Int) := dt_
                      obtain ⟨ad327, e327, hx327_0⟩ := Kd.at_int HR2.out x7_2 p327 q327
                      obtain rfl : ad321 = ad327 := (by injection e327)
                      replace hx327_0 := (HB.out.cell (World.block_lt_of_cell? w _ hx327_0)).trans hx327_0
                      replace p327 := eq_true p327
                      replace q327 := eq_true q327
                      have p328 : 0 ≤ (x8_3 : Int) := dt_
                      have q328 : x8_3 < (l2.length : Int) := dt_
                      obtain ⟨ad328, e328, hx328_0⟩ := Kd.at_int HR2.out x8_3 p328 q328
                      obtain rfl : ad321 = ad328 := (by injection e328)
                      replace hx328_0 := (HB.out.cell (World.block_lt_of_cell? w _ hx328_0)).trans hx328_0
                      replace p328 := eq_true p328
                      replace q328 := eq_true q328
                      have p331 : 0 ≤ (x7_2 : Int) := dt_
                      have q331 : x7_2 < (l2.length : Int) := dt_
                      obtain ⟨ad331, e331, hx331_0⟩ := Kd.at_int HR2.out x7_2 p331 q331
                      obtain rfl : ad321 = ad331 := (by injection e331)
                      replace hx331_0 := (HB.out.cell (World.block_lt_of_cell? w _ hx331_0)).trans hx331_0
                      replace p331 := eq_true p331
                      replace q331 := eq_true q331
                      have p332 : 0 ≤ (x8_3 : Int) := dt_
                      have q332 : x8_3 < (l2.length : Int) := dt_
                      obtain ⟨ad332, e332, hx332_0⟩ := Kd.at_int HR2.out x8_3 p332 q332
                      obtain rfl : ad321 = ad332 := (by injection e332)
                      replace hx332_0 := (HB.out.cell (World.block_lt_of_cell? w _ hx332_0)).trans hx332_0
                      replace p332 := eq_true p332
                      replace q332 := eq_true q332
                      refine qb_region (by kernel_rfl) (by kernel_rfl) ?_
                      have HQ := fun (wq : World) (hq : Below wr.heap.size wr wq) => below_step HB.out hq
                      repeat ((first | (apply qb_skip; (focus rfl)) | (refine qb_callN 57 rfl ?_; apply qb_call 57 rfl Try.func67 (by kernel_rfl) rfl rfl; (focus rfl); (focus (exact fun wq9 hb9 => qb_b hb9 (impl_System_plus.calls a0_0 _ _ l0_1 _ _ l0_2 _ _ l0_3 x7_2 x8_3 t320 _ (Kd.C_below HR0_1.out (HQ _ hb9)) HC0_1.out (Kd.C_below HR0_2.out (HQ _ hb9)) HC0_2.out (Kd.C_below HR0_3.out (HQ _ hb9)) HC0_3.out A57.out))); (focus (rfl))) | (refine qb_callN 69 rfl ?_; apply qb_call 69 rfl Try.func67 (by kernel_rfl) rfl rfl; (focus rfl); (focus (exact fun wq9 hb9 => qb_b hb9 (impl_System_plus.calls a1_0 _ _ l1_1 _ _ l1_2 _ _ l1_3 (rd l2 x7_2) (rd l2 x8_3) t324 _ (Kd.C_below HR1_1.out (HQ _ hb9)) HC1_1.out (Kd.C_below HR1_2.out (HQ _ hb9)) HC1_2.out (Kd.C_below HR1_3.out (HQ _ hb9)) HC1_3.out A64.out))); (focus (rfl))) | (refine qb_callN 76 rfl ?_; apply qb_call 76 rfl Try.func69 (by kernel_rfl) rfl rfl; (focus rfl); (focus (exact fun wq9 hb9 => qb_b hb9 (impl_System_times.calls a0_0 _ _ l0_1 _ _ l0_2 _ _ l0_3 x7_2 x8_3 t325 _ (Kd.C_below HR0_1.out (HQ _ hb9)) HC0_1.out (Kd.C_below HR0_2.out (HQ _ hb9)) HC0_2.out (Kd.C_below HR0_3.out (HQ _ hb9)) HC0_3.out A66.out))); (focus (rfl))) | (refine qb_callN 88 rfl ?_; apply qb_call 88 rfl Try.func69 (by kernel_rfl) rfl rfl; (focus rfl); (focus (exact fun wq9 hb9 => qb_b hb9 (impl_System_times.calls a1_0 _ _ l1_1 _ _ l1_2 _ _ l1_3 (rd l2 x7_2) (rd l2 x8_3) t329 _ (Kd.C_below HR1_1.out (HQ _ hb9)) HC1_1.out (Kd.C_below HR1_2.out (HQ _ hb9)) HC1_2.out (Kd.C_below HR1_3.out (HQ _ hb9)) HC1_3.out A69.out))); (focus (rfl))) | (refine qb_callN 95 rfl ?_; apply qb_call 95 rfl Try.func71 (by kernel_rfl) rfl rfl; (focus rfl); (focus (exact fun wq9 hb9 => qb_b hb9 (impl_System_below.calls a0_0 _ _ l0_1 _ _ l0_2 _ _ l0_3 x7_2 x8_3 true _ (Kd.C_below HR0_1.out (HQ _ hb9)) HC0_1.out (Kd.C_below HR0_2.out (HQ _ hb9)) HC0_2.out (Kd.C_below HR0_3.out (HQ _ hb9)) HC0_3.out A71.out))); (focus (rfl))) | (refine qb_callN 106 rfl ?_; apply qb_call 106 rfl Try.func71 (by kernel_rfl) rfl rfl; (focus rfl); (focus (exact fun wq9 hb9 => qb_b hb9 (impl_System_below.calls a1_0 _ _ l1_1 _ _ l1_2 _ _ l1_3 (rd l2 x7_2) (rd l2 x8_3) true _ (Kd.C_below HR1_1.out (HQ _ hb9)) HC1_1.out (Kd.C_below HR1_2.out (HQ _ hb9)) HC1_2.out (Kd.C_below HR1_3.out (HQ _ hb9)) HC1_3.out A73.out))); (focus (rfl))) | (apply qb_val; (focus rfl); (focus (intro wq9 _; go_simp; with_reducible rfl))) | (apply qb_val; (focus rfl); (focus (intro wq9 hb9_; have hb9 : Below wr.heap.size wr wq9 := hb9_; have BK313 := sd_ (blk_below BK313.out hb9); have BK314 := sd_ (blk_below BK314.out hb9); have hc9_313_0 : wq9.cell? ⟨gb313, 0, none⟩ = some (.int .i64 a0_0) := (blk_cell BK313.out 0).trans rfl; have hc9_313_1 : wq9.cell? ⟨gb313, 1, none⟩ = some (.slice A0_1 l0_1.length c0_1) := (blk_cell BK313.out 1).trans rfl; have hc9_313_2 : wq9.cell? ⟨gb313, 2, none⟩ = some (.slice A0_2 l0_2.length c0_2) := (blk_cell BK313.out 2).trans rfl; have hc9_313_3 : wq9.cell? ⟨gb313, 3, none⟩ = some (.slice A0_3 l0_3.length c0_3) := (blk_cell BK313.out 3).trans rfl; have hc9_314_0 : wq9.cell? ⟨gb314, 0, none⟩ = some (.int .i64 a1_0) := (blk_cell BK314.out 0).trans rfl; have hc9_314_1 : wq9.cell? ⟨gb314, 1, none⟩ = some (.slice A1_1 l1_1.length c1_1) := (blk_cell BK314.out 1).trans rfl; have hc9_314_2 : wq9.cell? ⟨gb314, 2, none⟩ = some (.slice A1_2 l1_2.length c1_2) := (blk_cell BK314.out 2).trans rfl; have hc9_314_3 : wq9.cell? ⟨gb314, 3, none⟩ = some (.slice A1_3 l1_3.length c1_3) := (blk_cell BK314.out 3).trans rfl; have hx321_0 := (hb9.cell (World.block_lt_of_cell? _ _ hx321_0)).trans hx321_0; have hx322_0 := (hb9.cell (World.block_lt_of_cell? _ _ hx322_0)).trans hx322_0; have hx323_0 := (hb9.cell (World.block_lt_of_cell? _ _ hx323_0)).trans hx323_0; have hx326_0 := (hb9.cell (World.block_lt_of_cell? _ _ hx326_0)).trans hx326_0; have hx327_0 := (hb9.cell (World.block_lt_of_cell? _ _ hx327_0)).trans hx327_0; have hx328_0 := (hb9.cell (World.block_lt_of_cell? _ _ hx328_0)).trans hx328_0; have hx331_0 := (hb9.cell (World.block_lt_of_cell? _ _ hx331_0)).trans hx331_0; have hx332_0 := (hb9.cell (World.block_lt_of_cell? _ _ hx332_0)).trans hx332_0; go_simp; with_reducible rfl)))); (focus (simp only [Act.put, List.setIfInBounds_toArray, List.set_cons_zero, List.set_cons_succ, i64_w, i32_w]; rfl)))
                      refine qb_nil ?_
                      intro w83 hb
                      replace BK313 := sd_ (blk_below BK313.out hb)
                      replace BK314 := sd_ (blk_below BK314.out hb)
                      replace HB := sd_ (below_step HB.out hb)
                      clear hb
                      (try clear HQ)
                      try go_wp2
                      go_roundg k3
                      case measure => have := HJ3.out; have := HK2.out; have := HK3.out; omega
                      case rel => exact ⟨(wrap64 (x8_3 + 1)), sm_, H', ⟨by have := HJ3.out; have := HK2.out; have := HK3.out; omega⟩, ⟨by (with_reducible repeat (first | refine blk_drewN ?_ _ | refine blk_drew ?_ | refine blk_alloc ?_ _)); exact BK313.out⟩, ⟨by (with_reducible repeat (first | refine blk_drewN ?_ _ | refine blk_drew ?_ | refine blk_alloc ?_ _)); exact BK314.out⟩, ⟨bw2_ HB.out GE313.out GE314.out⟩⟩
                     ·replace c74 := Bool.eq_false_iff.mpr c74
                      subst c74
                      have H1 : (some false) = some r := by rw [if_neg (show ¬ (false = true) by decide)] at H; exact H
                      clear H
                      have H := H1
                      clear H1
                      obtain rfl := Option.some.inj H
                      have hnb84 := NB313_314.out
                      have hnc84 := NB314_313.out
                      obtain ⟨hcz85_0, hcz85_1, hcz85_2, hcz85_3, hfz85_0, hfz85_1, hfz85_2, hfz85_3⟩ := bf4_ BK313.out
                      try go_wp2
                      have p321 : 0 ≤ (t320 : Int) := dt_
                      have q321 : t320 < (l2.length : Int) := dt_
                      obtain ⟨ad321, e321, hx321_0⟩ := Kd.at_int HR2.out t320 p321 q321
                      cases e321
                      replace hx321_0 := (HB.out.cell (World.block_lt_of_cell? w _ hx321_0)).trans hx321_0
                      replace p321 := eq_true p321
                      replace q321 := eq_true q321
                      have p322 : 0 ≤ (x7_2 : Int) := dt_
                      have q322 : x7_2 < (l2.length : Int) := dt_
                      obtain ⟨ad322, e322, hx322_0⟩ := Kd.at_int HR2.out x7_2 p322 q322
                      obtain rfl : ad321 = ad322 := (by injection e322)
                      replace hx322_0 := (HB.out.cell (World.block_lt_of_cell? w _ hx322_0)).trans hx322_0
                      replace p322 := eq_true p322
                      replace q322 := eq_true q322
                      have p323 : 0 ≤ (x8_3 : Int) := dt_
                      have q323 : x8_3 < (l2.length : Int) := dt_
                      obtain ⟨ad323, e323, hx323_0⟩ := Kd.at_int HR2.out x8_3 p323 q323
                      obtain rfl : ad321 = ad323 := (by injection e323)
                      replace hx323_0 := (HB.out.cell (World.block_lt_of_cell? w _ hx323_0)).trans hx323_0
                      replace p323 := eq_true p323
                      replace q323 := eq_true q323
                      have p326 : 0 ≤ (t325 : Int) := dt_
                      have q326 : t325 < (l2.length : Int) := dt_
                      obtain ⟨ad326, e326, hx326_0⟩ := Kd.at_int HR2.out t325 p326 q326
                      obtain rfl : ad321 = ad326 := (by injection e326)
                      replace hx326_0 := (HB.out.cell (World.block_lt_of_cell? w _ hx326_0)).trans hx326_0
                      replace p326 := eq_true p326
                      replace q326 := eq_true q326
                      have p327 : 0 ≤ (x7_2 : Int) := dt_
                      have q327 : x7_2 < (l2.length : Int) := dt_
                      obtain ⟨ad327, e327, hx327_0⟩ := Kd.at_int HR2.out x7_2 p327 q327
                      obtain rfl : ad321 = ad327 := (by injection e327)
                      replace hx327_0 := (HB.out.cell (World.block_lt_of_cell? w _ hx327_0)).trans hx327_0
                      replace p327 := eq_true p327
                      replace q327 := eq_true q327
                      have p328 : 0 ≤ (x8_3 : Int) := dt_
                      have q328 : x8_3 < (l2.length : Int) := dt_
                      obtain ⟨ad328, e328, hx328_0⟩ := Kd.at_int HR2.out x8_3 p328 q328
                      obtain rfl : ad321 = ad328 := (by injection e328)
                      replace hx328_0 := (HB.out.cell (World.block_lt_of_cell? w _ hx328_0)).trans hx328_0
                      replace p328 := eq_true p328
                      replace q328 := eq_true q328
                      have p331 : 0 ≤ (x7_2 : Int) := dt_
                      have q331 : x7_2 < (l2.length : Int) := dt_
                      obtain ⟨ad331, e331, hx331_0⟩ := Kd.at_int HR2.out x7_2 p331 q331
                      obtain rfl : ad321 = ad331 := (by injection e331)
                      replace hx331_0 := (HB.out.cell (World.block_lt_of_cell? w _ hx331_0)).trans hx331_0
                      replace p331 := eq_true p331
                      replace q331 := eq_true q331
                      have p332 : 0 ≤ (x8_3 : Int) := dt_
                      have q332 : x8_3 < (l2.length : Int) := dt_
                      obtain ⟨ad332, e332, hx332_0⟩ := Kd.at_int HR2.out x8_3 p332 q332
                      obtain rfl : ad321 = ad332 := (by injection e332)
                      replace hx332_0 := (HB.out.cell (World.block_lt_of_cell? w _ hx332_0)).trans hx332_0
                      replace p332 := eq_true p332
                      replace q332 := eq_true q332
                      refine qb_region (by kernel_rfl) (by kernel_rfl) ?_
                      have HQ := fun (wq : World) (hq : Below wr.heap.size wr wq) => below_step HB.out hq
                      repeat ((first | (apply qb_skip; (focus rfl)) | (refine qb_callN 57 rfl ?_; apply qb_call 57 rfl Try.func67 (by kernel_rfl) rfl rfl; (focus rfl); (focus (exact fun wq9 hb9 => qb_b hb9 (impl_System_plus.calls a0_0 _ _ l0_1 _ _ l0_2 _ _ l0_3 x7_2 x8_3 t320 _ (Kd.C_below HR0_1.out (HQ _ hb9)) HC0_1.out (Kd.C_below HR0_2.out (HQ _ hb9)) HC0_2.out (Kd.C_below HR0_3.out (HQ _ hb9)) HC0_3.out A57.out))); (focus (rfl))) | (refine qb_callN 69 rfl ?_; apply qb_call 69 rfl Try.func67 (by kernel_rfl) rfl rfl; (focus rfl); (focus (exact fun wq9 hb9 => qb_b hb9 (impl_System_plus.calls a1_0 _ _ l1_1 _ _ l1_2 _ _ l1_3 (rd l2 x7_2) (rd l2 x8_3) t324 _ (Kd.C_below HR1_1.out (HQ _ hb9)) HC1_1.out (Kd.C_below HR1_2.out (HQ _ hb9)) HC1_2.out (Kd.C_below HR1_3.out (HQ _ hb9)) HC1_3.out A64.out))); (focus (rfl))) | (refine qb_callN 76 rfl ?_; apply qb_call 76 rfl Try.func69 (by kernel_rfl) rfl rfl; (focus rfl); (focus (exact fun wq9 hb9 => qb_b hb9 (impl_System_times.calls a0_0 _ _ l0_1 _ _ l0_2 _ _ l0_3 x7_2 x8_3 t325 _ (Kd.C_below HR0_1.out (HQ _ hb9)) HC0_1.out (Kd.C_below HR0_2.out (HQ _ hb9)) HC0_2.out (Kd.C_below HR0_3.out (HQ _ hb9)) HC0_3.out A66.out))); (focus (rfl))) | (refine qb_callN 88 rfl ?_; apply qb_call 88 rfl Try.func69 (by kernel_rfl) rfl rfl; (focus rfl); (focus (exact fun wq9 hb9 => qb_b hb9 (impl_System_times.calls a1_0 _ _ l1_1 _ _ l1_2 _ _ l1_3 (rd l2 x7_2) (rd l2 x8_3) t329 _ (Kd.C_below HR1_1.out (HQ _ hb9)) HC1_1.out (Kd.C_below HR1_2.out (HQ _ hb9)) HC1_2.out (Kd.C_below HR1_3.out (HQ _ hb9)) HC1_3.out A69.out))); (focus (rfl))) | (refine qb_callN 95 rfl ?_; apply qb_call 95 rfl Try.func71 (by kernel_rfl) rfl rfl; (focus rfl); (focus (exact fun wq9 hb9 => qb_b hb9 (impl_System_below.calls a0_0 _ _ l0_1 _ _ l0_2 _ _ l0_3 x7_2 x8_3 true _ (Kd.C_below HR0_1.out (HQ _ hb9)) HC0_1.out (Kd.C_below HR0_2.out (HQ _ hb9)) HC0_2.out (Kd.C_below HR0_3.out (HQ _ hb9)) HC0_3.out A71.out))); (focus (rfl))) | (refine qb_callN 106 rfl ?_; apply qb_call 106 rfl Try.func71 (by kernel_rfl) rfl rfl; (focus rfl); (focus (exact fun wq9 hb9 => qb_b hb9 (impl_System_below.calls a1_0 _ _ l1_1 _ _ l1_2 _ _ l1_3 (rd l2 x7_2) (rd l2 x8_3) false _ (Kd.C_below HR1_1.out (HQ _ hb9)) HC1_1.out (Kd.C_below HR1_2.out (HQ _ hb9)) HC1_2.out (Kd.C_below HR1_3.out (HQ _ hb9)) HC1_3.out A73.out))); (focus (rfl))) | (apply qb_val; (focus rfl); (focus (intro wq9 _; go_simp; with_reducible rfl))) | (apply qb_val; (focus rfl); (focus (intro wq9 hb9_; have hb9 : Below wr.heap.size wr wq9 := hb9_; have BK313 := sd_ (blk_below BK313.out hb9); have BK314 := sd_ (blk_below BK314.out hb9); have hc9_313_0 : wq9.cell? ⟨gb313, 0, none⟩ = some (.int .i64 a0_0) := (blk_cell BK313.out 0).trans rfl; have hc9_313_1 : wq9.cell? ⟨gb313, 1, none⟩ = some (.slice A0_1 l0_1.length c0_1) := (blk_cell BK313.out 1).trans rfl; have hc9_313_2 : wq9.cell? ⟨gb313, 2, none⟩ = some (.slice A0_2 l0_2.length c0_2) := (blk_cell BK313.out 2).trans rfl; have hc9_313_3 : wq9.cell? ⟨gb313, 3, none⟩ = some (.slice A0_3 l0_3.length c0_3) := (blk_cell BK313.out 3).trans rfl; have hc9_314_0 : wq9.cell? ⟨gb314, 0, none⟩ = some (.int .i64 a1_0) := (blk_cell BK314.out 0).trans rfl; have hc9_314_1 : wq9.cell? ⟨gb314, 1, none⟩ = some (.slice A1_1 l1_1.length c1_1) := (blk_cell BK314.out 1).trans rfl; have hc9_314_2 : wq9.cell? ⟨gb314, 2, none⟩ = some (.slice A1_2 l1_2.length c1_2) := (blk_cell BK314.out 2).trans rfl; have hc9_314_3 : wq9.cell? ⟨gb314, 3, none⟩ = some (.slice A1_3 l1_3.length c1_3) := (blk_cell BK314.out 3).trans rfl; have hx321_0 := (hb9.cell (World.block_lt_of_cell? _ _ hx321_0)).trans hx321_0; have hx322_0 := (hb9.cell (World.block_lt_of_cell? _ _ hx322_0)).trans hx322_0; have hx323_0 := (hb9.cell (World.block_lt_of_cell? _ _ hx323_0)).trans hx323_0; have hx326_0 := (hb9.cell (World.block_lt_of_cell? _ _ hx326_0)).trans hx326_0; have hx327_0 := (hb9.cell (World.block_lt_of_cell? _ _ hx327_0)).trans hx327_0; have hx328_0 := (hb9.cell (World.block_lt_of_cell? _ _ hx328_0)).trans hx328_0; have hx331_0 := (hb9.cell (World.block_lt_of_cell? _ _ hx331_0)).trans hx331_0; have hx332_0 := (hb9.cell (World.block_lt_of_cell? _ _ hx332_0)).trans hx332_0; go_simp; with_reducible rfl)))); (focus (simp only [Act.put, List.setIfInBounds_toArray, List.set_cons_zero, List.set_cons_succ, i64_w, i32_w]; rfl)))
                      refine qb_nil ?_
                      intro w92 hb
                      replace BK313 := sd_ (blk_below BK313.out hb)
                      replace BK314 := sd_ (blk_below BK314.out hb)
                      replace HB := sd_ (below_step HB.out hb)
                      clear hb
                      (try clear HQ)
                      try go_wp2
                      go_ret
                      exact ⟨an_, bw2_ HB.out GE313.out GE314.out⟩
                    ·replace c72 := Bool.eq_false_iff.mpr c72
                     subst c72
                     have H1 : (impl_IsMap.l1 k3 l2 x7_2 (wrap64 (x8_3 + 1)) a0_0 l0_1 l0_2 l0_3 a1_0 l1_1 l1_2 l1_3) = some r := by rw [if_neg (show ¬ (false = true) by decide)] at H; exact H
                     clear H
                     have H := H1
                     clear H1
                     have H' := sd_ H
                     clear H
                     have hnb93 := NB313_314.out
                     have hnc93 := NB314_313.out
                     obtain ⟨hcz94_0, hcz94_1, hcz94_2, hcz94_3, hfz94_0, hfz94_1, hfz94_2, hfz94_3⟩ := bf4_ BK313.out
                     try go_wp2
                     have p321 : 0 ≤ (t320 : Int) := dt_
                     have q321 : t320 < (l2.length : Int) := dt_
                     obtain ⟨ad321, e321, hx321_0⟩ := Kd.at_int HR2.out t320 p321 q321
                     cases e321
                     replace hx321_0 := (HB.out.cell (World.block_lt_of_cell? w _ hx321_0)).trans hx321_0
                     replace p321 := eq_true p321
                     replace q321 := eq_true q321
                     have p322 : 0 ≤ (x7_2 : Int) := dt_
                     have q322 : x7_2 < (l2.length : Int) := dt_
                     obtain ⟨ad322, e322, hx322_0⟩ := Kd.at_int HR2.out x7_2 p322 q322
                     obtain rfl : ad321 = ad322 := (by injection e322)
                     replace hx322_0 := (HB.out.cell (World.block_lt_of_cell? w _ hx322_0)).trans hx322_0
                     replace p322 := eq_true p322
                     replace q322 := eq_true q322
                     have p323 : 0 ≤ (x8_3 : Int) := dt_
                     have q323 : x8_3 < (l2.length : Int) := dt_
                     obtain ⟨ad323, e323, hx323_0⟩ := Kd.at_int HR2.out x8_3 p323 q323
                     obtain rfl : ad321 = ad323 := (by injection e323)
                     replace hx323_0 := (HB.out.cell (World.block_lt_of_cell? w _ hx323_0)).trans hx323_0
                     replace p323 := eq_true p323
                     replace q323 := eq_true q323
                     have p326 : 0 ≤ (t325 : Int) := dt_
                     have q326 : t325 < (l2.length : Int) := dt_
                     obtain ⟨ad326, e326, hx326_0⟩ := Kd.at_int HR2.out t325 p326 q326
                     obtain rfl : ad321 = ad326 := (by injection e326)
                     replace hx326_0 := (HB.out.cell (World.block_lt_of_cell? w _ hx326_0)).trans hx326_0
                     replace p326 := eq_true p326
                     replace q326 := eq_true q326
                     have p327 : 0 ≤ (x7_2 : Int) := dt_
                     have q327 : x7_2 < (l2.length : Int) := dt_
                     obtain ⟨ad327, e327, hx327_0⟩ := Kd.at_int HR2.out x7_2 p327 q327
                     obtain rfl : ad321 = ad327 := (by injection e327)
                     replace hx327_0 := (HB.out.cell (World.block_lt_of_cell? w _ hx327_0)).trans hx327_0
                     replace p327 := eq_true p327
                     replace q327 := eq_true q327
                     have p328 : 0 ≤ (x8_3 : Int) := dt_
                     have q328 : x8_3 < (l2.length : Int) := dt_
                     obtain ⟨ad328, e328, hx328_0⟩ := Kd.at_int HR2.out x8_3 p328 q328
                     obtain rfl : ad321 = ad328 := (by injection e328)
                     replace hx328_0 := (HB.out.cell (World.block_lt_of_cell? w _ hx328_0)).trans hx328_0
                     replace p328 := eq_true p328
                     replace q328 := eq_true q328
                     refine qb_region (by kernel_rfl) (by kernel_rfl) ?_
                     have HQ := fun (wq : World) (hq : Below wr.heap.size wr wq) => below_step HB.out hq
                     repeat ((first | (apply qb_skip; (focus rfl)) | (refine qb_callN 57 rfl ?_; apply qb_call 57 rfl Try.func67 (by kernel_rfl) rfl rfl; (focus rfl); (focus (exact fun wq9 hb9 => qb_b hb9 (impl_System_plus.calls a0_0 _ _ l0_1 _ _ l0_2 _ _ l0_3 x7_2 x8_3 t320 _ (Kd.C_below HR0_1.out (HQ _ hb9)) HC0_1.out (Kd.C_below HR0_2.out (HQ _ hb9)) HC0_2.out (Kd.C_below HR0_3.out (HQ _ hb9)) HC0_3.out A57.out))); (focus (rfl))) | (refine qb_callN 69 rfl ?_; apply qb_call 69 rfl Try.func67 (by kernel_rfl) rfl rfl; (focus rfl); (focus (exact fun wq9 hb9 => qb_b hb9 (impl_System_plus.calls a1_0 _ _ l1_1 _ _ l1_2 _ _ l1_3 (rd l2 x7_2) (rd l2 x8_3) t324 _ (Kd.C_below HR1_1.out (HQ _ hb9)) HC1_1.out (Kd.C_below HR1_2.out (HQ _ hb9)) HC1_2.out (Kd.C_below HR1_3.out (HQ _ hb9)) HC1_3.out A64.out))); (focus (rfl))) | (refine qb_callN 76 rfl ?_; apply qb_call 76 rfl Try.func69 (by kernel_rfl) rfl rfl; (focus rfl); (focus (exact fun wq9 hb9 => qb_b hb9 (impl_System_times.calls a0_0 _ _ l0_1 _ _ l0_2 _ _ l0_3 x7_2 x8_3 t325 _ (Kd.C_below HR0_1.out (HQ _ hb9)) HC0_1.out (Kd.C_below HR0_2.out (HQ _ hb9)) HC0_2.out (Kd.C_below HR0_3.out (HQ _ hb9)) HC0_3.out A66.out))); (focus (rfl))) | (refine qb_callN 88 rfl ?_; apply qb_call 88 rfl Try.func69 (by kernel_rfl) rfl rfl; (focus rfl); (focus (exact fun wq9 hb9 => qb_b hb9 (impl_System_times.calls a1_0 _ _ l1_1 _ _ l1_2 _ _ l1_3 (rd l2 x7_2) (rd l2 x8_3) t329 _ (Kd.C_below HR1_1.out (HQ _ hb9)) HC1_1.out (Kd.C_below HR1_2.out (HQ _ hb9)) HC1_2.out (Kd.C_below HR1_3.out (HQ _ hb9)) HC1_3.out A69.out))); (focus (rfl))) | (refine qb_callN 95 rfl ?_; apply qb_call 95 rfl Try.func71 (by kernel_rfl) rfl rfl; (focus rfl); (focus (exact fun wq9 hb9 => qb_b hb9 (impl_System_below.calls a0_0 _ _ l0_1 _ _ l0_2 _ _ l0_3 x7_2 x8_3 false _ (Kd.C_below HR0_1.out (HQ _ hb9)) HC0_1.out (Kd.C_below HR0_2.out (HQ _ hb9)) HC0_2.out (Kd.C_below HR0_3.out (HQ _ hb9)) HC0_3.out A71.out))); (focus (rfl))) | (apply qb_val; (focus rfl); (focus (intro wq9 _; go_simp; with_reducible rfl))) | (apply qb_val; (focus rfl); (focus (intro wq9 hb9_; have hb9 : Below wr.heap.size wr wq9 := hb9_; have BK313 := sd_ (blk_below BK313.out hb9); have BK314 := sd_ (blk_below BK314.out hb9); have hc9_313_0 : wq9.cell? ⟨gb313, 0, none⟩ = some (.int .i64 a0_0) := (blk_cell BK313.out 0).trans rfl; have hc9_313_1 : wq9.cell? ⟨gb313, 1, none⟩ = some (.slice A0_1 l0_1.length c0_1) := (blk_cell BK313.out 1).trans rfl; have hc9_313_2 : wq9.cell? ⟨gb313, 2, none⟩ = some (.slice A0_2 l0_2.length c0_2) := (blk_cell BK313.out 2).trans rfl; have hc9_313_3 : wq9.cell? ⟨gb313, 3, none⟩ = some (.slice A0_3 l0_3.length c0_3) := (blk_cell BK313.out 3).trans rfl; have hc9_314_0 : wq9.cell? ⟨gb314, 0, none⟩ = some (.int .i64 a1_0) := (blk_cell BK314.out 0).trans rfl; have hc9_314_1 : wq9.cell? ⟨gb314, 1, none⟩ = some (.slice A1_1 l1_1.length c1_1) := (blk_cell BK314.out 1).trans rfl; have hc9_314_2 : wq9.cell? ⟨gb314, 2, none⟩ = some (.slice A1_2 l1_2.length c1_2) := (blk_cell BK314.out 2).trans rfl; have hc9_314_3 : wq9.cell? ⟨gb314, 3, none⟩ = some (.slice A1_3 l1_3.length c1_3) := (blk_cell BK314.out 3).trans rfl; have hx321_0 := (hb9.cell (World.block_lt_of_cell? _ _ hx321_0)).trans hx321_0; have hx322_0 := (hb9.cell (World.block_lt_of_cell? _ _ hx322_0)).trans hx322_0; have hx323_0 := (hb9.cell (World.block_lt_of_cell? _ _ hx323_0)).trans hx323_0; have hx326_0 := (hb9.cell (World.block_lt_of_cell? _ _ hx326_0)).trans hx326_0; have hx327_0 := (hb9.cell (World.block_lt_of_cell? _ _ hx327_0)).trans hx327_0; have hx328_0 := (hb9.cell (World.block_lt_of_cell? _ _ hx328_0)).trans hx328_0; go_simp; with_reducible rfl)))); (focus (simp only [Act.put, List.setIfInBounds_toArray, List.set_cons_zero, List.set_cons_succ, i64_w, i32_w]; rfl)))
                     refine qb_nil ?_
                     intro w100 hb
                     replace BK313 := sd_ (blk_below BK313.out hb)
                     replace BK314 := sd_ (blk_below BK314.out hb)
                     replace HB := sd_ (below_step HB.out hb)
                     clear hb
                     (try clear HQ)
                     try go_wp2
                     go_roundg k3
                     case measure => have := HJ3.out; have := HK2.out; have := HK3.out; omega
                     case rel => exact ⟨(wrap64 (x8_3 + 1)), sm_, H', ⟨by have := HJ3.out; have := HK2.out; have := HK3.out; omega⟩, ⟨by (with_reducible repeat (first | refine blk_drewN ?_ _ | refine blk_drew ?_ | refine blk_alloc ?_ _)); exact BK313.out⟩, ⟨by (with_reducible repeat (first | refine blk_drewN ?_ _ | refine blk_drew ?_ | refine blk_alloc ?_ _)); exact BK314.out⟩, ⟨bw2_ HB.out GE313.out GE314.out⟩⟩
                   ·rw [if_neg c70] at H
                    have c70b0 : ((rd l2 t325) == t329) = false := beq_eq_false_iff_ne.mpr c70
                    have c70b1 : ((rd l2 t325) != t329) = true := bne_iff_ne.mpr c70
                    obtain rfl := Option.some.inj H
                    have hnb101 := NB313_314.out
                    have hnc101 := NB314_313.out
                    obtain ⟨hcz102_0, hcz102_1, hcz102_2, hcz102_3, hfz102_0, hfz102_1, hfz102_2, hfz102_3⟩ := bf4_ BK313.out
                    try go_wp2
                    have p321 : 0 ≤ (t320 : Int) := dt_
                    have q321 : t320 < (l2.length : Int) := dt_
                    obtain ⟨ad321, e321, hx321_0⟩ := Kd.at_int HR2.out t320 p321 q321
                    cases e321
                    replace hx321_0 := (HB.out.cell (World.block_lt_of_cell? w _ hx321_0)).trans hx321_0
                    replace p321 := eq_true p321
                    replace q321 := eq_true q321
                    have p322 : 0 ≤ (x7_2 : Int) := dt_
                    have q322 : x7_2 < (l2.length : Int) := dt_
                    obtain ⟨ad322, e322, hx322_0⟩ := Kd.at_int HR2.out x7_2 p322 q322
                    obtain rfl : ad321 = ad322 := (by injection e322)
                    replace hx322_0 := (HB.out.cell (World.block_lt_of_cell? w _ hx322_0)).trans hx322_0
                    replace p322 := eq_true p322
                    replace q322 := eq_true q322
                    have p323 : 0 ≤ (x8_3 : Int) := dt_
                    have q323 : x8_3 < (l2.length : Int) := dt_
                    obtain ⟨ad323, e323, hx323_0⟩ := Kd.at_int HR2.out x8_3 p323 q323
                    obtain rfl : ad321 = ad323 := (by injection e323)
                    replace hx323_0 := (HB.out.cell (World.block_lt_of_cell? w _ hx323_0)).trans hx323_0
                    replace p323 := eq_true p323
                    replace q323 := eq_true q323
                    have p326 : 0 ≤ (t325 : Int) := dt_
                    have q326 : t325 < (l2.length : Int) := dt_
                    obtain ⟨ad326, e326, hx326_0⟩ := Kd.at_int HR2.out t325 p326 q326
                    obtain rfl : ad321 = ad326 := (by injection e326)
                    replace hx326_0 := (HB.out.cell (World.block_lt_of_cell? w _ hx326_0)).trans hx326_0
                    replace p326 := eq_true p326
                    replace q326 := eq_true q326
                    have p327 : 0 ≤ (x7_2 : Int) := dt_
                    have q327 : x7_2 < (l2.length : Int) := dt_
                    obtain ⟨ad327, e327, hx327_0⟩ := Kd.at_int HR2.out x7_2 p327 q327
                    obtain rfl : ad321 = ad327 := (by injection e327)
                    replace hx327_0 := (HB.out.cell (World.block_lt_of_cell? w _ hx327_0)).trans hx327_0
                    replace p327 := eq_true p327
                    replace q327 := eq_true q327
                    have p328 : 0 ≤ (x8_3 : Int) := dt_
                    have q328 : x8_3 < (l2.length : Int) := dt_
                    obtain ⟨ad328, e328, hx328_0⟩ := Kd.at_int HR2.out x8_3 p328 q328
                    obtain rfl : ad321 = ad328 := (by injection e328)
                    replace hx328_0 := (HB.out.cell (World.block_lt_of_cell? w _ hx328_0)).trans hx328_0
                    replace p328 := eq_true p328
                    replace q328 := eq_true q328
                    refine qb_region (by kernel_rfl) (by kernel_rfl) ?_
                    have HQ := fun (wq : World) (hq : Below wr.heap.size wr wq) => below_step HB.out hq
                    repeat ((first | (apply qb_skip; (focus rfl)) | (refine qb_callN 57 rfl ?_; apply qb_call 57 rfl Try.func67 (by kernel_rfl) rfl rfl; (focus rfl); (focus (exact fun wq9 hb9 => qb_b hb9 (impl_System_plus.calls a0_0 _ _ l0_1 _ _ l0_2 _ _ l0_3 x7_2 x8_3 t320 _ (Kd.C_below HR0_1.out (HQ _ hb9)) HC0_1.out (Kd.C_below HR0_2.out (HQ _ hb9)) HC0_2.out (Kd.C_below HR0_3.out (HQ _ hb9)) HC0_3.out A57.out))); (focus (rfl))) | (refine qb_callN 69 rfl ?_; apply qb_call 69 rfl Try.func67 (by kernel_rfl) rfl rfl; (focus rfl); (focus (exact fun wq9 hb9 => qb_b hb9 (impl_System_plus.calls a1_0 _ _ l1_1 _ _ l1_2 _ _ l1_3 (rd l2 x7_2) (rd l2 x8_3) t324 _ (Kd.C_below HR1_1.out (HQ _ hb9)) HC1_1.out (Kd.C_below HR1_2.out (HQ _ hb9)) HC1_2.out (Kd.C_below HR1_3.out (HQ _ hb9)) HC1_3.out A64.out))); (focus (rfl))) | (refine qb_callN 76 rfl ?_; apply qb_call 76 rfl Try.func69 (by kernel_rfl) rfl rfl; (focus rfl); (focus (exact fun wq9 hb9 => qb_b hb9 (impl_System_times.calls a0_0 _ _ l0_1 _ _ l0_2 _ _ l0_3 x7_2 x8_3 t325 _ (Kd.C_below HR0_1.out (HQ _ hb9)) HC0_1.out (Kd.C_below HR0_2.out (HQ _ hb9)) HC0_2.out (Kd.C_below HR0_3.out (HQ _ hb9)) HC0_3.out A66.out))); (focus (rfl))) | (refine qb_callN 88 rfl ?_; apply qb_call 88 rfl Try.func69 (by kernel_rfl) rfl rfl; (focus rfl); (focus (exact fun wq9 hb9 => qb_b hb9 (impl_System_times.calls a1_0 _ _ l1_1 _ _ l1_2 _ _ l1_3 (rd l2 x7_2) (rd l2 x8_3) t329 _ (Kd.C_below HR1_1.out (HQ _ hb9)) HC1_1.out (Kd.C_below HR1_2.out (HQ _ hb9)) HC1_2.out (Kd.C_below HR1_3.out (HQ _ hb9)) HC1_3.out A69.out))); (focus (rfl))) | (apply qb_val; (focus rfl); (focus (intro wq9 _; go_simp; with_reducible rfl))) | (apply qb_val; (focus rfl); (focus (intro wq9 hb9_; have hb9 : Below wr.heap.size wr wq9 := hb9_; have BK313 := sd_ (blk_below BK313.out hb9); have BK314 := sd_ (blk_below BK314.out hb9); have hc9_313_0 : wq9.cell? ⟨gb313, 0, none⟩ = some (.int .i64 a0_0) := (blk_cell BK313.out 0).trans rfl; have hc9_313_1 : wq9.cell? ⟨gb313, 1, none⟩ = some (.slice A0_1 l0_1.length c0_1) := (blk_cell BK313.out 1).trans rfl; have hc9_313_2 : wq9.cell? ⟨gb313, 2, none⟩ = some (.slice A0_2 l0_2.length c0_2) := (blk_cell BK313.out 2).trans rfl; have hc9_313_3 : wq9.cell? ⟨gb313, 3, none⟩ = some (.slice A0_3 l0_3.length c0_3) := (blk_cell BK313.out 3).trans rfl; have hc9_314_0 : wq9.cell? ⟨gb314, 0, none⟩ = some (.int .i64 a1_0) := (blk_cell BK314.out 0).trans rfl; have hc9_314_1 : wq9.cell? ⟨gb314, 1, none⟩ = some (.slice A1_1 l1_1.length c1_1) := (blk_cell BK314.out 1).trans rfl; have hc9_314_2 : wq9.cell? ⟨gb314, 2, none⟩ = some (.slice A1_2 l1_2.length c1_2) := (blk_cell BK314.out 2).trans rfl; have hc9_314_3 : wq9.cell? ⟨gb314, 3, none⟩ = some (.slice A1_3 l1_3.length c1_3) := (blk_cell BK314.out 3).trans rfl; have hx321_0 := (hb9.cell (World.block_lt_of_cell? _ _ hx321_0)).trans hx321_0; have hx322_0 := (hb9.cell (World.block_lt_of_cell? _ _ hx322_0)).trans hx322_0; have hx323_0 := (hb9.cell (World.block_lt_of_cell? _ _ hx323_0)).trans hx323_0; have hx326_0 := (hb9.cell (World.block_lt_of_cell? _ _ hx326_0)).trans hx326_0; have hx327_0 := (hb9.cell (World.block_lt_of_cell? _ _ hx327_0)).trans hx327_0; have hx328_0 := (hb9.cell (World.block_lt_of_cell? _ _ hx328_0)).trans hx328_0; go_simp; with_reducible rfl)))); (focus (simp only [Act.put, List.setIfInBounds_toArray, List.set_cons_zero, List.set_cons_succ, i64_w, i32_w]; rfl)))
                    refine qb_nil ?_
                    intro w107 hb
                    replace BK313 := sd_ (blk_below BK313.out hb)
                    replace BK314 := sd_ (blk_below BK314.out hb)
                    replace HB := sd_ (below_step HB.out hb)
                    clear hb
                    (try clear HQ)
                    try go_wp2
                    go_ret
                    exact ⟨an_, bw2_ HB.out GE313.out GE314.out⟩
                  ·rw [if_neg c68] at H
                   exact absurd H (by simp)
                 ·rw [if_neg c67] at H
                  exact absurd H (by simp)
                ·rw [if_neg c65] at H
                 have c65b0 : ((rd l2 t320) == t324) = false := beq_eq_false_iff_ne.mpr c65
                 have c65b1 : ((rd l2 t320) != t324) = true := bne_iff_ne.mpr c65
                 obtain rfl := Option.some.inj H
                 have hnb108 := NB313_314.out
                 have hnc108 := NB314_313.out
                 obtain ⟨hcz109_0, hcz109_1, hcz109_2, hcz109_3, hfz109_0, hfz109_1, hfz109_2, hfz109_3⟩ := bf4_ BK313.out
                 try go_wp2
                 have p321 : 0 ≤ (t320 : Int) := dt_
                 have q321 : t320 < (l2.length : Int) := dt_
                 obtain ⟨ad321, e321, hx321_0⟩ := Kd.at_int HR2.out t320 p321 q321
                 cases e321
                 replace hx321_0 := (HB.out.cell (World.block_lt_of_cell? w _ hx321_0)).trans hx321_0
                 replace p321 := eq_true p321
                 replace q321 := eq_true q321
                 have p322 : 0 ≤ (x7_2 : Int) := dt_
                 have q322 : x7_2 < (l2.length : Int) := dt_
                 obtain ⟨ad322, e322, hx322_0⟩ := Kd.at_int HR2.out x7_2 p322 q322
                 obtain rfl : ad321 = ad322 := (by injection e322)
                 replace hx322_0 := (HB.out.cell (World.block_lt_of_cell? w _ hx322_0)).trans hx322_0
                 replace p322 := eq_true p322
                 replace q322 := eq_true q322
                 have p323 : 0 ≤ (x8_3 : Int) := dt_
                 have q323 : x8_3 < (l2.length : Int) := dt_
                 obtain ⟨ad323, e323, hx323_0⟩ := Kd.at_int HR2.out x8_3 p323 q323
                 obtain rfl : ad321 = ad323 := (by injection e323)
                 replace hx323_0 := (HB.out.cell (World.block_lt_of_cell? w _ hx323_0)).trans hx323_0
                 replace p323 := eq_true p323
                 replace q323 := eq_true q323
                 refine qb_region (by kernel_rfl) (by kernel_rfl) ?_
                 have HQ := fun (wq : World) (hq : Below wr.heap.size wr wq) => below_step HB.out hq
                 repeat ((first | (apply qb_skip; (focus rfl)) | (refine qb_callN 57 rfl ?_; apply qb_call 57 rfl Try.func67 (by kernel_rfl) rfl rfl; (focus rfl); (focus (exact fun wq9 hb9 => qb_b hb9 (impl_System_plus.calls a0_0 _ _ l0_1 _ _ l0_2 _ _ l0_3 x7_2 x8_3 t320 _ (Kd.C_below HR0_1.out (HQ _ hb9)) HC0_1.out (Kd.C_below HR0_2.out (HQ _ hb9)) HC0_2.out (Kd.C_below HR0_3.out (HQ _ hb9)) HC0_3.out A57.out))); (focus (rfl))) | (refine qb_callN 69 rfl ?_; apply qb_call 69 rfl Try.func67 (by kernel_rfl) rfl rfl; (focus rfl); (focus (exact fun wq9 hb9 => qb_b hb9 (impl_System_plus.calls a1_0 _ _ l1_1 _ _ l1_2 _ _ l1_3 (rd l2 x7_2) (rd l2 x8_3) t324 _ (Kd.C_below HR1_1.out (HQ _ hb9)) HC1_1.out (Kd.C_below HR1_2.out (HQ _ hb9)) HC1_2.out (Kd.C_below HR1_3.out (HQ _ hb9)) HC1_3.out A64.out))); (focus (rfl))) | (apply qb_val; (focus rfl); (focus (intro wq9 _; go_simp; with_reducible rfl))) | (apply qb_val; (focus rfl); (focus (intro wq9 hb9_; have hb9 : Below wr.heap.size wr wq9 := hb9_; have BK313 := sd_ (blk_below BK313.out hb9); have BK314 := sd_ (blk_below BK314.out hb9); have hc9_313_0 : wq9.cell? ⟨gb313, 0, none⟩ = some (.int .i64 a0_0) := (blk_cell BK313.out 0).trans rfl; have hc9_313_1 : wq9.cell? ⟨gb313, 1, none⟩ = some (.slice A0_1 l0_1.length c0_1) := (blk_cell BK313.out 1).trans rfl; have hc9_313_2 : wq9.cell? ⟨gb313, 2, none⟩ = some (.slice A0_2 l0_2.length c0_2) := (blk_cell BK313.out 2).trans rfl; have hc9_313_3 : wq9.cell? ⟨gb313, 3, none⟩ = some (.slice A0_3 l0_3.length c0_3) := (blk_cell BK313.out 3).trans rfl; have hc9_314_0 : wq9.cell? ⟨gb314, 0, none⟩ = some (.int .i64 a1_0) := (blk_cell BK314.out 0).trans rfl; have hc9_314_1 : wq9.cell? ⟨gb314, 1, none⟩ = some (.slice A1_1 l1_1.length c1_1) := (blk_cell BK314.out 1).trans rfl; have hc9_314_2 : wq9.cell? ⟨gb314, 2, none⟩ = some (.slice A1_2 l1_2.length c1_2) := (blk_cell BK314.out 2).trans rfl; have hc9_314_3 : wq9.cell? ⟨gb314, 3, none⟩ = some (.slice A1_3 l1_3.length c1_3) := (blk_cell BK314.out 3).trans rfl; have hx321_0 := (hb9.cell (World.block_lt_of_cell? _ _ hx321_0)).trans hx321_0; have hx322_0 := (hb9.cell (World.block_lt_of_cell? _ _ hx322_0)).trans hx322_0; have hx323_0 := (hb9.cell (World.block_lt_of_cell? _ _ hx323_0)).trans hx323_0; go_simp; with_reducible rfl)))); (focus (simp only [Act.put, List.setIfInBounds_toArray, List.set_cons_zero, List.set_cons_succ, i64_w, i32_w]; rfl)))
                 refine qb_nil ?_
                 intro w112 hb
                 replace BK313 := sd_ (blk_below BK313.out hb)
                 replace BK314 := sd_ (blk_below BK314.out hb)
                 replace HB := sd_ (below_step HB.out hb)
                 clear hb
                 (try clear HQ)
                 try go_wp2
                 go_ret
                 exact ⟨an_, bw2_ HB.out GE313.out GE314.out⟩
               ·rw [if_neg c63] at H
                exact absurd H (by simp)
              ·rw [if_neg c62] at H
               exact absurd H (by simp)
             ·rw [if_neg c61] at H
              exact absurd H (by simp)
            ·rw [if_neg c60] at H
             exact absurd H (by simp)
           ·rw [if_neg c59] at H
            exact absurd H (by simp)
          ·rw [if_neg c58] at H
           exact absurd H (by simp)
         ·rw [if_neg c56] at H
          have c56b0 : decide (x8_3 < a0_0) = false := decide_eq_false c56
          clear c56
          have H' := sd_ H
          clear H
          have hnb113 := NB313_314.out
          have hnc113 := NB314_313.out
          obtain ⟨hcz114_0, hcz114_1, hcz114_2, hcz114_3, hfz114_0, hfz114_1, hfz114_2, hfz114_3⟩ := bf4_ BK313.out
          go_wp2
          go_roundg k3
          case measure => have := HJ3.out; have := HK2.out; have := HK3.out; omega
          case rel => exact ⟨(wrap64 (x7_2 + 1)), sm_, H', ⟨by have := HJ3.out; have := HK2.out; have := HK3.out; omega⟩, ⟨by (with_reducible repeat (first | refine blk_drewN ?_ _ | refine blk_drew ?_ | refine blk_alloc ?_ _)); exact BK313.out⟩, ⟨by (with_reducible repeat (first | refine blk_drewN ?_ _ | refine blk_drew ?_ | refine blk_alloc ?_ _)); exact BK314.out⟩, ⟨bw2_ HB.out GE313.out GE314.out⟩⟩
      ·rw [if_neg c53] at H
       have c53b0 : decide (x7_2 < a0_0) = false := decide_eq_false c53
       clear c53
       obtain rfl := Option.some.inj H
       have hnb115 := NB313_314.out
       have hnc115 := NB314_313.out
       obtain ⟨hcz116_0, hcz116_1, hcz116_2, hcz116_3, hfz116_0, hfz116_1, hfz116_2, hfz116_3⟩ := bf4_ BK313.out
       go_wp2
       go_ret
       exact ⟨an_, bw2_ HB.out GE313.out GE314.out⟩

end Go.Proofs.Ytcdmnofomoadlaa.P
