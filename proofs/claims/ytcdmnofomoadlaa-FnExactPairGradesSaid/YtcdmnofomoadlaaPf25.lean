-- Printed by this session's own program (wip/tools/mkprint.py) out of the translation. Not trusted: Lean checks it.
import Derived.Test.YtcdmnofomoadlaaP0
import Derived.Test.YtcdmnofomoadlaaPf84
import Derived.Test.YtcdmnofomoadlaaPf85
/-! short words -/
namespace Go.Proofs.Ytcdmnofomoadlaa.P
open Go.RowKit Go.Proofs.YtcdmnofomoadlaaW.PrintWords Go.Proofs.YtcdmnofomoadlaaW.PrintLast Go.Proofs.YtcdmnofomoadlaaW.PrintMore
attribute [local go_sem] max2_int min2_int max_two min_two max_three min_three max_four min_four   -- for this text's walks alone
set_option linter.unusedVariables false
set_option linter.unusedSimpArgs false

/-! ### laws_eqSystem: function 25 -/
def laws_eqSystem.f (k : Nat) (a0_0 : Int) (l0_1 : List Int) (l0_2 : List Int) (l0_3 : List Bool) (a1_0 : Int) (l1_1 : List Int) (l1_2 : List Int) (l1_3 : List Bool) : Option (Bool) := if a0_0 = a1_0 then ((laws_eqIntS.f k l0_1 l1_1).bind fun t509 => (if t509 = true then ((laws_eqIntS.f k l0_2 l1_2).bind fun t510 => (if t510 = true then ((laws_eqBoolS.f k l0_3 l1_3).bind fun t511 => (if t511 = true then (some true) else (some false))) else (some false))) else (some false))) else (some false)
set_option maxHeartbeats 8000000 in
set_option maxRecDepth 100000 in
theorem laws_eqSystem.calls (k : Nat) (a0_0 : Int) (A0_1 : Option Addr) (c0_1 : Nat) (l0_1 : List Int) (A0_2 : Option Addr) (c0_2 : Nat) (l0_2 : List Int) (A0_3 : Option Addr) (c0_3 : Nat) (l0_3 : List Bool) (a1_0 : Int) (A1_1 : Option Addr) (c1_1 : Nat) (l1_1 : List Int) (A1_2 : Option Addr) (c1_2 : Nat) (l1_2 : List Int) (A1_3 : Option Addr) (c1_3 : Nat) (l1_3 : List Bool) (r : Bool) (w : World) (hr0_1 : Kd.C (Kd.int .i64) w A0_1 l0_1.length l0_1) (hc0_1 : l0_1.length ≤ c0_1) (hr0_2 : Kd.C (Kd.int .i64) w A0_2 l0_2.length l0_2) (hc0_2 : l0_2.length ≤ c0_2) (hr0_3 : Kd.C Kd.bool w A0_3 l0_3.length l0_3) (hc0_3 : l0_3.length ≤ c0_3) (hr1_1 : Kd.C (Kd.int .i64) w A1_1 l1_1.length l1_1) (hc1_1 : l1_1.length ≤ c1_1) (hr1_2 : Kd.C (Kd.int .i64) w A1_2 l1_2.length l1_2) (hc1_2 : l1_2.length ≤ c1_2) (hr1_3 : Kd.C Kd.bool w A1_3 l1_3.length l1_3) (hc1_3 : l1_3.length ≤ c1_3) (h : laws_eqSystem.f k a0_0 l0_1 l0_2 l0_3 a1_0 l1_1 l1_2 l1_3 = some r) :
  Calls Try.prog 25 #[.agg #[.int .i64 a0_0, .slice A0_1 l0_1.length c0_1, .slice A0_2 l0_2.length c0_2, .slice A0_3 l0_3.length c0_3], .agg #[.int .i64 a1_0, .slice A1_1 l1_1.length c1_1, .slice A1_2 l1_2.length c1_2, .slice A1_3 l1_3.length c1_3]] w fun e w' => e = .returned (.bool r) ∧ Below w.heap.size w w' := by
 have hu27 := Try.underlying27
 have HR0_1 := sd_ hr0_1
 have HC0_1 := sd_ hc0_1
 clear hr0_1 hc0_1
 have HR0_2 := sd_ hr0_2
 have HC0_2 := sd_ hc0_2
 clear hr0_2 hc0_2
 have HR0_3 := sd_ hr0_3
 have HC0_3 := sd_ hc0_3
 clear hr0_3 hc0_3
 have HR1_1 := sd_ hr1_1
 have HC1_1 := sd_ hc1_1
 clear hr1_1 hc1_1
 have HR1_2 := sd_ hr1_2
 have HC1_2 := sd_ hc1_2
 clear hr1_2 hc1_2
 have HR1_3 := sd_ hr1_3
 have HC1_3 := sd_ hc1_3
 clear hr1_3 hc1_3
 have HB := sd_ (Below.refl w.heap.size w)
 have H : (if a0_0 = a1_0 then ((laws_eqIntS.f k l0_1 l1_1).bind fun t509 => (if t509 = true then ((laws_eqIntS.f k l0_2 l1_2).bind fun t510 => (if t510 = true then ((laws_eqBoolS.f k l0_3 l1_3).bind fun t511 => (if t511 = true then (some true) else (some false))) else (some false))) else (some false))) else (some false)) = some r := h
 clear h
 have HP3 := sd_ H
 clear H
 go_enter Try.func25, Try.ntmps25
 go_upto_if 9 with (first | ((with_reducible refine gate_dst (N := 2) rfl ?_); refine box_event ?hg (N := 2) ?hd (cs := #[.int .i64 a0_0, .slice A0_1 l0_1.length c0_1, .slice A0_2 l0_2.length c0_2, .slice A0_3 l0_3.length c0_3]) (t := 27) ?hr ?_; (case hd => rfl); (case hg => rfl); (case hr => first | (go_simp; done) | (go_simp; rfl)); intro gb507 hg w4 hbox hb; have BK507 := sd_ (hbox); have GW507 := sd_ ((by rw [hg]; exact (below_size (bw0_ HB.out)) : w.heap.size ≤ gb507)); have GE507 := sd_ ((by rw [hg]; exact (below_size (bw0_ HB.out)) : w.heap.size ≤ gb507)); replace HB := sd_ (below_step (bw0_ HB.out) hb); clear hb hbox hg) | ((with_reducible refine gate_dst (N := 3) rfl ?_); refine box_event ?hg (N := 3) ?hd (cs := #[.int .i64 a1_0, .slice A1_1 l1_1.length c1_1, .slice A1_2 l1_2.length c1_2, .slice A1_3 l1_3.length c1_3]) (t := 27) ?hr ?_; (case hd => rfl); (case hg => rfl); (case hr => first | (go_simp; done) | (go_simp; rfl)); intro gb508 hg w5 hbox hb; have BK508 := sd_ (hbox); have GW508 := sd_ ((by rw [hg]; exact (below_size (bw1_ HB.out GE507.out)) : w.heap.size ≤ gb508)); have GE508 := sd_ ((by rw [hg]; exact (below_size (bw1_ HB.out GE507.out)) : w.heap.size ≤ gb508)); replace HB := sd_ (below_step (bw1_ HB.out GE507.out) hb); have NB507_508 := sd_ ((by rw [hg]; exact Nat.ne_of_lt (bl_ BK507.out) : gb507 ≠ gb508)); have NB508_507 := sd_ ((by rw [hg]; exact Nat.ne_of_gt (bl_ BK507.out) : gb508 ≠ gb507)); replace BK507 := sd_ (bb_ BK507.out hb); clear hb hbox hg; have hnb6 := NB507_508.out; have hnc6 := NB508_507.out; have hcz7_0 : w5.cell? ⟨gb507, 0, none⟩ = some (.int .i64 a0_0) := (blk_cell BK507.out 0).trans rfl; have hcz7_1 : w5.cell? ⟨gb507, 1, none⟩ = some (.slice A0_1 l0_1.length c0_1) := (blk_cell BK507.out 1).trans rfl; have hcz7_2 : w5.cell? ⟨gb507, 2, none⟩ = some (.slice A0_2 l0_2.length c0_2) := (blk_cell BK507.out 2).trans rfl; have hcz7_3 : w5.cell? ⟨gb507, 3, none⟩ = some (.slice A0_3 l0_3.length c0_3) := (blk_cell BK507.out 3).trans rfl; have hfz7_0 := blk_frozen BK507.out 0; have hfz7_1 := blk_frozen BK507.out 1; have hfz7_2 := blk_frozen BK507.out 2; have hfz7_3 := blk_frozen BK507.out 3; have hcz8_0 : w5.cell? ⟨gb508, 0, none⟩ = some (.int .i64 a1_0) := (blk_cell BK508.out 0).trans rfl; have hcz8_1 : w5.cell? ⟨gb508, 1, none⟩ = some (.slice A1_1 l1_1.length c1_1) := (blk_cell BK508.out 1).trans rfl; have hcz8_2 : w5.cell? ⟨gb508, 2, none⟩ = some (.slice A1_2 l1_2.length c1_2) := (blk_cell BK508.out 2).trans rfl; have hcz8_3 : w5.cell? ⟨gb508, 3, none⟩ = some (.slice A1_3 l1_3.length c1_3) := (blk_cell BK508.out 3).trans rfl; have hfz8_0 := blk_frozen BK508.out 0; have hfz8_1 := blk_frozen BK508.out 1; have hfz8_2 := blk_frozen BK508.out 2; have hfz8_3 := blk_frozen BK508.out 3))
 have H := HP3.out
 clear HP3
 by_cases c9 : a0_0 = a1_0
 ·rw [if_pos c9] at H
  have c9b0 : (a0_0 == a1_0) = true := beq_iff_eq.mpr c9
  have c9b1 : (a0_0 != a1_0) = false := bne_eq_false_iff_eq.mpr c9
  clear c9
  (first | rw [c9b0] | (simp only [i64_w, i32_w]; rw [c9b0]) | skip)
  replace H := Option.bind_eq_some_iff.mp H
  obtain ⟨t509, A100, H⟩ := H
  replace H : (if t509 = true then ((laws_eqIntS.f k l0_2 l1_2).bind fun t510 => (if t510 = true then ((laws_eqBoolS.f k l0_3 l1_3).bind fun t511 => (if t511 = true then (some true) else (some false))) else (some false))) else (some false)) = some r := H
  have A10 := sd_ A100
  clear A100
  by_cases c11 : t509 = true
  ·subst c11
   have H1 : ((laws_eqIntS.f k l0_2 l1_2).bind fun t510 => (if t510 = true then ((laws_eqBoolS.f k l0_3 l1_3).bind fun t511 => (if t511 = true then (some true) else (some false))) else (some false))) = some r := by rw [if_pos rfl] at H; exact H
   clear H
   have H := H1
   clear H1
   replace H := Option.bind_eq_some_iff.mp H
   obtain ⟨t510, A120, H⟩ := H
   replace H : (if t510 = true then ((laws_eqBoolS.f k l0_3 l1_3).bind fun t511 => (if t511 = true then (some true) else (some false))) else (some false)) = some r := H
   have A12 := sd_ A120
   clear A120
   by_cases c13 : t510 = true
   ·subst c13
    have H1 : ((laws_eqBoolS.f k l0_3 l1_3).bind fun t511 => (if t511 = true then (some true) else (some false))) = some r := by rw [if_pos rfl] at H; exact H
    clear H
    have H := H1
    clear H1
    replace H := Option.bind_eq_some_iff.mp H
    obtain ⟨t511, A140, H⟩ := H
    replace H : (if t511 = true then (some true) else (some false)) = some r := H
    have A14 := sd_ A140
    clear A140
    by_cases c15 : t511 = true
    ·subst c15
     have H1 : (some true) = some r := by rw [if_pos rfl] at H; exact H
     clear H
     have H := H1
     clear H1
     obtain rfl := Option.some.inj H
     have hnb16 := NB507_508.out
     have hnc16 := NB508_507.out
     have hcz17_0 : w5.cell? ⟨gb507, 0, none⟩ = some (.int .i64 a0_0) := (blk_cell BK507.out 0).trans rfl
     have hcz17_1 : w5.cell? ⟨gb507, 1, none⟩ = some (.slice A0_1 l0_1.length c0_1) := (blk_cell BK507.out 1).trans rfl
     have hcz17_2 : w5.cell? ⟨gb507, 2, none⟩ = some (.slice A0_2 l0_2.length c0_2) := (blk_cell BK507.out 2).trans rfl
     have hcz17_3 : w5.cell? ⟨gb507, 3, none⟩ = some (.slice A0_3 l0_3.length c0_3) := (blk_cell BK507.out 3).trans rfl
     have hfz17_0 := blk_frozen BK507.out 0
     have hfz17_1 := blk_frozen BK507.out 1
     have hfz17_2 := blk_frozen BK507.out 2
     have hfz17_3 := blk_frozen BK507.out 3
     have hcz18_0 : w5.cell? ⟨gb508, 0, none⟩ = some (.int .i64 a1_0) := (blk_cell BK508.out 0).trans rfl
     have hcz18_1 : w5.cell? ⟨gb508, 1, none⟩ = some (.slice A1_1 l1_1.length c1_1) := (blk_cell BK508.out 1).trans rfl
     have hcz18_2 : w5.cell? ⟨gb508, 2, none⟩ = some (.slice A1_2 l1_2.length c1_2) := (blk_cell BK508.out 2).trans rfl
     have hcz18_3 : w5.cell? ⟨gb508, 3, none⟩ = some (.slice A1_3 l1_3.length c1_3) := (blk_cell BK508.out 3).trans rfl
     have hfz18_0 := blk_frozen BK508.out 0
     have hfz18_1 := blk_frozen BK508.out 1
     have hfz18_2 := blk_frozen BK508.out 2
     have hfz18_3 := blk_frozen BK508.out 3
     go_wp2_with (first | ((with_reducible refine gate_callee (f := 84) rfl ?_); refine goesL_ (some 14) rfl rfl Try.func84 (by kernel_rfl) rfl #[.slice A0_1 l0_1.length c0_1, .slice A1_1 l1_1.length c1_1] rfl (by (try simp only [List.map_toArray, List.map_cons, List.map_nil]); first | done | rfl | (simp only [List.length_drop, List.length_take]; rfl)) ?_; (with_reducible refine (laws_eqIntS.calls k _ _ l0_1 _ _ l1_1 true _ ?side1 ?side2 ?side3 ?side4 A10.out).mono ?_); (case side1 => exact kc_ HR0_1.out HB.out); (case side2 => exact HC0_1.out); (case side3 => exact kc_ HR1_1.out HB.out); (case side4 => exact HC1_1.out); rintro e w' ⟨rfl, ⟨nd, rfl⟩⟩; refine ⟨_, rfl, ?_⟩) | ((with_reducible refine gate_callee (f := 84) rfl ?_); refine goesL_ (some 20) rfl rfl Try.func84 (by kernel_rfl) rfl #[.slice A0_2 l0_2.length c0_2, .slice A1_2 l1_2.length c1_2] rfl (by (try simp only [List.map_toArray, List.map_cons, List.map_nil]); first | done | rfl | (simp only [List.length_drop, List.length_take]; rfl)) ?_; (with_reducible refine (laws_eqIntS.calls k _ _ l0_2 _ _ l1_2 true _ ?side1 ?side2 ?side3 ?side4 A12.out).mono ?_); (case side1 => repeat (first | exact (Kd.C_below HR0_2.out (bw2_ HB.out GE507.out GE508.out)) | (with_reducible refine Kd.C_alloc ?_ _) | (with_reducible refine Kd.C_drewN ?_ _) | (with_reducible refine Kd.C_drew ?_))); (case side2 => exact HC0_2.out); (case side3 => repeat (first | exact (Kd.C_below HR1_2.out (bw2_ HB.out GE507.out GE508.out)) | (with_reducible refine Kd.C_alloc ?_ _) | (with_reducible refine Kd.C_drewN ?_ _) | (with_reducible refine Kd.C_drew ?_))); (case side4 => exact HC1_2.out); rintro e w' ⟨rfl, ⟨nd, rfl⟩⟩; refine ⟨_, rfl, ?_⟩) | ((with_reducible refine gate_callee (f := 85) rfl ?_); refine goesL_ (some 26) rfl rfl Try.func85 (by kernel_rfl) rfl #[.slice A0_3 l0_3.length c0_3, .slice A1_3 l1_3.length c1_3] rfl (by (try simp only [List.map_toArray, List.map_cons, List.map_nil]); first | done | rfl | (simp only [List.length_drop, List.length_take]; rfl)) ?_; (with_reducible refine (laws_eqBoolS.calls k _ _ l0_3 _ _ l1_3 true _ ?side1 ?side2 ?side3 ?side4 A14.out).mono ?_); (case side1 => repeat (first | exact (Kd.C_below HR0_3.out (bw2_ HB.out GE507.out GE508.out)) | (with_reducible refine Kd.C_alloc ?_ _) | (with_reducible refine Kd.C_drewN ?_ _) | (with_reducible refine Kd.C_drew ?_))); (case side2 => exact HC0_3.out); (case side3 => repeat (first | exact (Kd.C_below HR1_3.out (bw2_ HB.out GE507.out GE508.out)) | (with_reducible refine Kd.C_alloc ?_ _) | (with_reducible refine Kd.C_drewN ?_ _) | (with_reducible refine Kd.C_drew ?_))); (case side4 => exact HC1_3.out); rintro e w' ⟨rfl, ⟨nd, rfl⟩⟩; refine ⟨_, rfl, ?_⟩))
     go_ret
     exact ⟨by first | rfl | (simp [errW_none, errW_some] <;> rfl) | (simp [*, errW_none, errW_some] <;> rfl), bw2_ HB.out GE507.out GE508.out⟩
    ·replace c15 := Bool.eq_false_iff.mpr c15
     subst c15
     have H1 : (some false) = some r := by rw [if_neg (show ¬ (false = true) by decide)] at H; exact H
     clear H
     have H := H1
     clear H1
     obtain rfl := Option.some.inj H
     have hnb19 := NB507_508.out
     have hnc19 := NB508_507.out
     have hcz20_0 : w5.cell? ⟨gb507, 0, none⟩ = some (.int .i64 a0_0) := (blk_cell BK507.out 0).trans rfl
     have hcz20_1 : w5.cell? ⟨gb507, 1, none⟩ = some (.slice A0_1 l0_1.length c0_1) := (blk_cell BK507.out 1).trans rfl
     have hcz20_2 : w5.cell? ⟨gb507, 2, none⟩ = some (.slice A0_2 l0_2.length c0_2) := (blk_cell BK507.out 2).trans rfl
     have hcz20_3 : w5.cell? ⟨gb507, 3, none⟩ = some (.slice A0_3 l0_3.length c0_3) := (blk_cell BK507.out 3).trans rfl
     have hfz20_0 := blk_frozen BK507.out 0
     have hfz20_1 := blk_frozen BK507.out 1
     have hfz20_2 := blk_frozen BK507.out 2
     have hfz20_3 := blk_frozen BK507.out 3
     have hcz21_0 : w5.cell? ⟨gb508, 0, none⟩ = some (.int .i64 a1_0) := (blk_cell BK508.out 0).trans rfl
     have hcz21_1 : w5.cell? ⟨gb508, 1, none⟩ = some (.slice A1_1 l1_1.length c1_1) := (blk_cell BK508.out 1).trans rfl
     have hcz21_2 : w5.cell? ⟨gb508, 2, none⟩ = some (.slice A1_2 l1_2.length c1_2) := (blk_cell BK508.out 2).trans rfl
     have hcz21_3 : w5.cell? ⟨gb508, 3, none⟩ = some (.slice A1_3 l1_3.length c1_3) := (blk_cell BK508.out 3).trans rfl
     have hfz21_0 := blk_frozen BK508.out 0
     have hfz21_1 := blk_frozen BK508.out 1
     have hfz21_2 := blk_frozen BK508.out 2
     have hfz21_3 := blk_frozen BK508.out 3
     go_wp2_with (first | ((with_reducible refine gate_callee (f := 84) rfl ?_); refine goesL_ (some 14) rfl rfl Try.func84 (by kernel_rfl) rfl #[.slice A0_1 l0_1.length c0_1, .slice A1_1 l1_1.length c1_1] rfl (by (try simp only [List.map_toArray, List.map_cons, List.map_nil]); first | done | rfl | (simp only [List.length_drop, List.length_take]; rfl)) ?_; (with_reducible refine (laws_eqIntS.calls k _ _ l0_1 _ _ l1_1 true _ ?side1 ?side2 ?side3 ?side4 A10.out).mono ?_); (case side1 => exact kc_ HR0_1.out HB.out); (case side2 => exact HC0_1.out); (case side3 => exact kc_ HR1_1.out HB.out); (case side4 => exact HC1_1.out); rintro e w' ⟨rfl, ⟨nd, rfl⟩⟩; refine ⟨_, rfl, ?_⟩) | ((with_reducible refine gate_callee (f := 84) rfl ?_); refine goesL_ (some 20) rfl rfl Try.func84 (by kernel_rfl) rfl #[.slice A0_2 l0_2.length c0_2, .slice A1_2 l1_2.length c1_2] rfl (by (try simp only [List.map_toArray, List.map_cons, List.map_nil]); first | done | rfl | (simp only [List.length_drop, List.length_take]; rfl)) ?_; (with_reducible refine (laws_eqIntS.calls k _ _ l0_2 _ _ l1_2 true _ ?side1 ?side2 ?side3 ?side4 A12.out).mono ?_); (case side1 => repeat (first | exact (Kd.C_below HR0_2.out (bw2_ HB.out GE507.out GE508.out)) | (with_reducible refine Kd.C_alloc ?_ _) | (with_reducible refine Kd.C_drewN ?_ _) | (with_reducible refine Kd.C_drew ?_))); (case side2 => exact HC0_2.out); (case side3 => repeat (first | exact (Kd.C_below HR1_2.out (bw2_ HB.out GE507.out GE508.out)) | (with_reducible refine Kd.C_alloc ?_ _) | (with_reducible refine Kd.C_drewN ?_ _) | (with_reducible refine Kd.C_drew ?_))); (case side4 => exact HC1_2.out); rintro e w' ⟨rfl, ⟨nd, rfl⟩⟩; refine ⟨_, rfl, ?_⟩) | ((with_reducible refine gate_callee (f := 85) rfl ?_); refine goesL_ (some 26) rfl rfl Try.func85 (by kernel_rfl) rfl #[.slice A0_3 l0_3.length c0_3, .slice A1_3 l1_3.length c1_3] rfl (by (try simp only [List.map_toArray, List.map_cons, List.map_nil]); first | done | rfl | (simp only [List.length_drop, List.length_take]; rfl)) ?_; (with_reducible refine (laws_eqBoolS.calls k _ _ l0_3 _ _ l1_3 false _ ?side1 ?side2 ?side3 ?side4 A14.out).mono ?_); (case side1 => repeat (first | exact (Kd.C_below HR0_3.out (bw2_ HB.out GE507.out GE508.out)) | (with_reducible refine Kd.C_alloc ?_ _) | (with_reducible refine Kd.C_drewN ?_ _) | (with_reducible refine Kd.C_drew ?_))); (case side2 => exact HC0_3.out); (case side3 => repeat (first | exact (Kd.C_below HR1_3.out (bw2_ HB.out GE507.out GE508.out)) | (with_reducible refine Kd.C_alloc ?_ _) | (with_reducible refine Kd.C_drewN ?_ _) | (with_reducible refine Kd.C_drew ?_))); (case side4 => exact HC1_3.out); rintro e w' ⟨rfl, ⟨nd, rfl⟩⟩; refine ⟨_, rfl, ?_⟩))
     go_ret
     exact ⟨by first | rfl | (simp [errW_none, errW_some] <;> rfl) | (simp [*, errW_none, errW_some] <;> rfl), bw2_ HB.out GE507.out GE508.out⟩
   ·replace c13 := Bool.eq_false_iff.mpr c13
    subst c13
    have H1 : (some false) = some r := by rw [if_neg (show ¬ (false = true) by decide)] at H; exact H
    clear H
    have H := H1
    clear H1
    obtain rfl := Option.some.inj H
    have hnb22 := NB507_508.out
    have hnc22 := NB508_507.out
    have hcz23_0 : w5.cell? ⟨gb507, 0, none⟩ = some (.int .i64 a0_0) := (blk_cell BK507.out 0).trans rfl
    have hcz23_1 : w5.cell? ⟨gb507, 1, none⟩ = some (.slice A0_1 l0_1.length c0_1) := (blk_cell BK507.out 1).trans rfl
    have hcz23_2 : w5.cell? ⟨gb507, 2, none⟩ = some (.slice A0_2 l0_2.length c0_2) := (blk_cell BK507.out 2).trans rfl
    have hcz23_3 : w5.cell? ⟨gb507, 3, none⟩ = some (.slice A0_3 l0_3.length c0_3) := (blk_cell BK507.out 3).trans rfl
    have hfz23_0 := blk_frozen BK507.out 0
    have hfz23_1 := blk_frozen BK507.out 1
    have hfz23_2 := blk_frozen BK507.out 2
    have hfz23_3 := blk_frozen BK507.out 3
    have hcz24_0 : w5.cell? ⟨gb508, 0, none⟩ = some (.int .i64 a1_0) := (blk_cell BK508.out 0).trans rfl
    have hcz24_1 : w5.cell? ⟨gb508, 1, none⟩ = some (.slice A1_1 l1_1.length c1_1) := (blk_cell BK508.out 1).trans rfl
    have hcz24_2 : w5.cell? ⟨gb508, 2, none⟩ = some (.slice A1_2 l1_2.length c1_2) := (blk_cell BK508.out 2).trans rfl
    have hcz24_3 : w5.cell? ⟨gb508, 3, none⟩ = some (.slice A1_3 l1_3.length c1_3) := (blk_cell BK508.out 3).trans rfl
    have hfz24_0 := blk_frozen BK508.out 0
    have hfz24_1 := blk_frozen BK508.out 1
    have hfz24_2 := blk_frozen BK508.out 2
    have hfz24_3 := blk_frozen BK508.out 3
    go_wp2_with (first | ((with_reducible refine gate_callee (f := 84) rfl ?_); refine goesL_ (some 14) rfl rfl Try.func84 (by kernel_rfl) rfl #[.slice A0_1 l0_1.length c0_1, .slice A1_1 l1_1.length c1_1] rfl (by (try simp only [List.map_toArray, List.map_cons, List.map_nil]); first | done | rfl | (simp only [List.length_drop, List.length_take]; rfl)) ?_; (with_reducible refine (laws_eqIntS.calls k _ _ l0_1 _ _ l1_1 true _ ?side1 ?side2 ?side3 ?side4 A10.out).mono ?_); (case side1 => exact kc_ HR0_1.out HB.out); (case side2 => exact HC0_1.out); (case side3 => exact kc_ HR1_1.out HB.out); (case side4 => exact HC1_1.out); rintro e w' ⟨rfl, ⟨nd, rfl⟩⟩; refine ⟨_, rfl, ?_⟩) | ((with_reducible refine gate_callee (f := 84) rfl ?_); refine goesL_ (some 20) rfl rfl Try.func84 (by kernel_rfl) rfl #[.slice A0_2 l0_2.length c0_2, .slice A1_2 l1_2.length c1_2] rfl (by (try simp only [List.map_toArray, List.map_cons, List.map_nil]); first | done | rfl | (simp only [List.length_drop, List.length_take]; rfl)) ?_; (with_reducible refine (laws_eqIntS.calls k _ _ l0_2 _ _ l1_2 false _ ?side1 ?side2 ?side3 ?side4 A12.out).mono ?_); (case side1 => repeat (first | exact (Kd.C_below HR0_2.out (bw2_ HB.out GE507.out GE508.out)) | (with_reducible refine Kd.C_alloc ?_ _) | (with_reducible refine Kd.C_drewN ?_ _) | (with_reducible refine Kd.C_drew ?_))); (case side2 => exact HC0_2.out); (case side3 => repeat (first | exact (Kd.C_below HR1_2.out (bw2_ HB.out GE507.out GE508.out)) | (with_reducible refine Kd.C_alloc ?_ _) | (with_reducible refine Kd.C_drewN ?_ _) | (with_reducible refine Kd.C_drew ?_))); (case side4 => exact HC1_2.out); rintro e w' ⟨rfl, ⟨nd, rfl⟩⟩; refine ⟨_, rfl, ?_⟩))
    go_ret
    exact ⟨by first | rfl | (simp [errW_none, errW_some] <;> rfl) | (simp [*, errW_none, errW_some] <;> rfl), bw2_ HB.out GE507.out GE508.out⟩
  ·replace c11 := Bool.eq_false_iff.mpr c11
   subst c11
   have H1 : (some false) = some r := by rw [if_neg (show ¬ (false = true) by decide)] at H; exact H
   clear H
   have H := H1
   clear H1
   obtain rfl := Option.some.inj H
   have hnb25 := NB507_508.out
   have hnc25 := NB508_507.out
   have hcz26_0 : w5.cell? ⟨gb507, 0, none⟩ = some (.int .i64 a0_0) := (blk_cell BK507.out 0).trans rfl
   have hcz26_1 : w5.cell? ⟨gb507, 1, none⟩ = some (.slice A0_1 l0_1.length c0_1) := (blk_cell BK507.out 1).trans rfl
   have hcz26_2 : w5.cell? ⟨gb507, 2, none⟩ = some (.slice A0_2 l0_2.length c0_2) := (blk_cell BK507.out 2).trans rfl
   have hcz26_3 : w5.cell? ⟨gb507, 3, none⟩ = some (.slice A0_3 l0_3.length c0_3) := (blk_cell BK507.out 3).trans rfl
   have hfz26_0 := blk_frozen BK507.out 0
   have hfz26_1 := blk_frozen BK507.out 1
   have hfz26_2 := blk_frozen BK507.out 2
   have hfz26_3 := blk_frozen BK507.out 3
   have hcz27_0 : w5.cell? ⟨gb508, 0, none⟩ = some (.int .i64 a1_0) := (blk_cell BK508.out 0).trans rfl
   have hcz27_1 : w5.cell? ⟨gb508, 1, none⟩ = some (.slice A1_1 l1_1.length c1_1) := (blk_cell BK508.out 1).trans rfl
   have hcz27_2 : w5.cell? ⟨gb508, 2, none⟩ = some (.slice A1_2 l1_2.length c1_2) := (blk_cell BK508.out 2).trans rfl
   have hcz27_3 : w5.cell? ⟨gb508, 3, none⟩ = some (.slice A1_3 l1_3.length c1_3) := (blk_cell BK508.out 3).trans rfl
   have hfz27_0 := blk_frozen BK508.out 0
   have hfz27_1 := blk_frozen BK508.out 1
   have hfz27_2 := blk_frozen BK508.out 2
   have hfz27_3 := blk_frozen BK508.out 3
   go_wp2_with (first | ((with_reducible refine gate_callee (f := 84) rfl ?_); refine goesL_ (some 14) rfl rfl Try.func84 (by kernel_rfl) rfl #[.slice A0_1 l0_1.length c0_1, .slice A1_1 l1_1.length c1_1] rfl (by (try simp only [List.map_toArray, List.map_cons, List.map_nil]); first | done | rfl | (simp only [List.length_drop, List.length_take]; rfl)) ?_; (with_reducible refine (laws_eqIntS.calls k _ _ l0_1 _ _ l1_1 false _ ?side1 ?side2 ?side3 ?side4 A10.out).mono ?_); (case side1 => exact kc_ HR0_1.out HB.out); (case side2 => exact HC0_1.out); (case side3 => exact kc_ HR1_1.out HB.out); (case side4 => exact HC1_1.out); rintro e w' ⟨rfl, ⟨nd, rfl⟩⟩; refine ⟨_, rfl, ?_⟩))
   go_ret
   exact ⟨by first | rfl | (simp [errW_none, errW_some] <;> rfl) | (simp [*, errW_none, errW_some] <;> rfl), bw2_ HB.out GE507.out GE508.out⟩
 ·rw [if_neg c9] at H
  have c9b0 : (a0_0 == a1_0) = false := beq_eq_false_iff_ne.mpr c9
  have c9b1 : (a0_0 != a1_0) = true := bne_iff_ne.mpr c9
  (first | rw [c9b0] | (simp only [i64_w, i32_w]; rw [c9b0]) | skip)
  obtain rfl := Option.some.inj H
  go_wp2
  go_ret
  exact ⟨by first | rfl | (simp [errW_none, errW_some] <;> rfl) | (simp [*, errW_none, errW_some] <;> rfl), bw2_ HB.out GE507.out GE508.out⟩

end Go.Proofs.Ytcdmnofomoadlaa.P
