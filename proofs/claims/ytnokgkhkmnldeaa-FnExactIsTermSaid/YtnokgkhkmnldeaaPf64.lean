-- Printed by this session's own program (wip/tools/mkprint.py) out of the translation. Not trusted: Lean checks it.
import Derived.Test.YtnokgkhkmnldeaaM1
import Derived.Test.YtnokgkhkmnldeaaM4
import Derived.Test.YtnokgkhkmnldeaaM7
import Derived.Test.YtnokgkhkmnldeaaM8
import Derived.Test.YtnokgkhkmnldeaaPf96
/-! short words -/
namespace Go.Proofs.Ytnokgkhkmnldeaa.P
open Go.RowKit Go.Proofs.YtnokgkhkmnldeaaW.PrintWords Go.Proofs.YtnokgkhkmnldeaaW.PrintLast Go.Proofs.YtnokgkhkmnldeaaW.PrintMore
attribute [local go_sem] max2_int min2_int max_two min_two max_three min_three max_four min_four   -- for this text's walks alone
set_option linter.unusedVariables false
set_option linter.unusedSimpArgs false

/-! ### impl_IsSystem: function 64 -/
mutual
def impl_IsSystem.j0 : Nat → Int → Bool → Int → List Int → List Int → List Bool → Option (Bool)
 | 0, _, _, _, _, _, _ => none
 | k + 1, x3, x39, x406000, x406001, x406002, x406003 => if x39 = true then (some false) else (impl_IsSystem.l0 k x3 (x406001.length : Int) 0 x406000 x406001 x406002 x406003)
def impl_IsSystem.l0 : Nat → Int → Int → Int → Int → List Int → List Int → List Bool → Option (Bool)
 | 0, _, _, _, _, _, _, _ => none
 | k + 1, x3, x42, x43, x406000, x406001, x406002, x406003 => if x43 < x42 then (if 0 ≤ x43 then (if x43 < (x406001.length : Int) then ((impl_System_has.f x406000 x406001 x406002 x406003 (rd x406001 x43)).bind fun t408 => (if t408 = true then (if x43 < (x406002.length : Int) then ((impl_System_has.f x406000 x406001 x406002 x406003 (rd x406002 x43)).bind fun t410 => (if t410 = true then (impl_IsSystem.l0 k x3 x42 (wrap64 (x43 + 1)) x406000 x406001 x406002 x406003) else (some false))) else (none)) else (some false))) else (none)) else (none)) else (impl_IsSystem.l1 k x3 0 x406000 x406001 x406002 x406003)
def impl_IsSystem.l1 : Nat → Int → Int → Int → List Int → List Int → List Bool → Option (Bool)
 | 0, _, _, _, _, _, _ => none
 | k + 1, x3, x5, x406000, x406001, x406002, x406003 => if x5 < x3 then ((impl_System_plus.f x406000 x406001 x406002 x406003 0 x5).bind fun t411 => (if t411 = x5 then ((impl_System_times.f x406000 x406001 x406002 x406003 1 x5).bind fun t412 => (if t412 = x5 then ((impl_System_times.f x406000 x406001 x406002 x406003 x5 1).bind fun t413 => (if t413 = x5 then ((impl_System_times.f x406000 x406001 x406002 x406003 0 x5).bind fun t414 => (if t414 = 0 then ((impl_System_times.f x406000 x406001 x406002 x406003 x5 0).bind fun t415 => (if t415 = 0 then ((impl_System_below.f x406000 x406001 x406002 x406003 x5 x5).bind fun t416 => (impl_IsSystem.j3 k x3 x5 (!t416) x406000 x406001 x406002 x406003)) else (impl_IsSystem.j3 k x3 x5 true x406000 x406001 x406002 x406003))) else (impl_IsSystem.j3 k x3 x5 true x406000 x406001 x406002 x406003))) else (impl_IsSystem.j3 k x3 x5 true x406000 x406001 x406002 x406003))) else (impl_IsSystem.j3 k x3 x5 true x406000 x406001 x406002 x406003))) else (impl_IsSystem.j3 k x3 x5 true x406000 x406001 x406002 x406003))) else (some true)
def impl_IsSystem.j3 : Nat → Int → Int → Bool → Int → List Int → List Int → List Bool → Option (Bool)
 | 0, _, _, _, _, _, _, _ => none
 | k + 1, x3, x5, x107, x406000, x406001, x406002, x406003 => if x107 = true then (some false) else (impl_IsSystem.l2 k x3 x5 0 x406000 x406001 x406002 x406003)
def impl_IsSystem.l2 : Nat → Int → Int → Int → Int → List Int → List Int → List Bool → Option (Bool)
 | 0, _, _, _, _, _, _, _ => none
 | k + 1, x3, x5, x6, x406000, x406001, x406002, x406003 => if x6 < x3 then ((impl_System_plus.f x406000 x406001 x406002 x406003 x5 x6).bind fun t417 => ((impl_System_plus.f x406000 x406001 x406002 x406003 x6 x5).bind fun t418 => (if t417 = t418 then (if x5 = x6 then ((impl_System_join.f k x406000 x406001 x406002 x406003 x5 x6).bind fun t419 => (impl_IsSystem.j5 k x3 x5 x6 (decide (t419 < 0)) x406000 x406001 x406002 x406003)) else ((impl_System_below.f x406000 x406001 x406002 x406003 x5 x6).bind fun t420 => (if t420 = true then ((impl_System_below.f x406000 x406001 x406002 x406003 x6 x5).bind fun t421 => (if t421 = true then (impl_IsSystem.j5 k x3 x5 x6 true x406000 x406001 x406002 x406003) else ((impl_System_join.f k x406000 x406001 x406002 x406003 x5 x6).bind fun t422 => (impl_IsSystem.j5 k x3 x5 x6 (decide (t422 < 0)) x406000 x406001 x406002 x406003)))) else ((impl_System_join.f k x406000 x406001 x406002 x406003 x5 x6).bind fun t423 => (impl_IsSystem.j5 k x3 x5 x6 (decide (t423 < 0)) x406000 x406001 x406002 x406003))))) else (impl_IsSystem.j5 k x3 x5 x6 true x406000 x406001 x406002 x406003)))) else (impl_IsSystem.l1 k x3 (wrap64 (x5 + 1)) x406000 x406001 x406002 x406003)
def impl_IsSystem.j5 : Nat → Int → Int → Int → Bool → Int → List Int → List Int → List Bool → Option (Bool)
 | 0, _, _, _, _, _, _, _, _ => none
 | k + 1, x3, x5, x6, x145, x406000, x406001, x406002, x406003 => if x145 = true then (some false) else (impl_IsSystem.l3 k x3 x5 x6 0 x406000 x406001 x406002 x406003)
def impl_IsSystem.l3 : Nat → Int → Int → Int → Int → Int → List Int → List Int → List Bool → Option (Bool)
 | 0, _, _, _, _, _, _, _, _ => none
 | k + 1, x3, x5, x6, x7, x406000, x406001, x406002, x406003 => if x7 < x3 then ((impl_System_lawsOf.f k x406000 x406001 x406002 x406003 x5 x6 x7).bind fun t424 => (if t424 = true then (impl_IsSystem.l3 k x3 x5 x6 (wrap64 (x7 + 1)) x406000 x406001 x406002 x406003) else (some false))) else (impl_IsSystem.l2 k x3 x5 (wrap64 (x6 + 1)) x406000 x406001 x406002 x406003)
end
def impl_IsSystem.f (k : Nat) (a0_0 : Int) (l0_1 : List Int) (l0_2 : List Int) (l0_3 : List Bool) : Option (Bool) := (impl_within.f a0_0 2 16).bind fun t406 => (if t406 = true then (if (l0_1.length : Int) = (wrap64 (a0_0 * a0_0)) then (if (l0_2.length : Int) = (wrap64 (a0_0 * a0_0)) then (impl_IsSystem.j0 k a0_0 ((l0_3.length : Int) != (wrap64 (a0_0 * a0_0))) a0_0 l0_1 l0_2 l0_3) else (impl_IsSystem.j0 k a0_0 true a0_0 l0_1 l0_2 l0_3)) else (impl_IsSystem.j0 k a0_0 true a0_0 l0_1 l0_2 l0_3)) else (impl_IsSystem.j0 k a0_0 true a0_0 l0_1 l0_2 l0_3))
set_option maxHeartbeats 8000000 in
set_option maxRecDepth 100000 in
theorem impl_IsSystem.calls (k : Nat) (a0_0 : Int) (A0_1 : Option Addr) (c0_1 : Nat) (l0_1 : List Int) (A0_2 : Option Addr) (c0_2 : Nat) (l0_2 : List Int) (A0_3 : Option Addr) (c0_3 : Nat) (l0_3 : List Bool) (r : Bool) (w : World) (hr0_1 : Kd.C (Kd.int .i64) w A0_1 l0_1.length l0_1) (hc0_1 : l0_1.length ≤ c0_1) (hr0_2 : Kd.C (Kd.int .i64) w A0_2 l0_2.length l0_2) (hc0_2 : l0_2.length ≤ c0_2) (hr0_3 : Kd.C Kd.bool w A0_3 l0_3.length l0_3) (hc0_3 : l0_3.length ≤ c0_3) (h : impl_IsSystem.f k a0_0 l0_1 l0_2 l0_3 = some r) :
  Calls Try.prog 64 #[.agg #[.int .i64 a0_0, .slice A0_1 l0_1.length c0_1, .slice A0_2 l0_2.length c0_2, .slice A0_3 l0_3.length c0_3]] w fun e w' => e = .returned (.bool r) ∧ Below w.heap.size w w' := by
 have hu37 := Try.underlying37
 have HR0_1 := sd_ hr0_1
 have HC0_1 := sd_ hc0_1
 clear hr0_1 hc0_1
 have HR0_2 := sd_ hr0_2
 have HC0_2 := sd_ hc0_2
 clear hr0_2 hc0_2
 have HR0_3 := sd_ hr0_3
 have HC0_3 := sd_ hc0_3
 clear hr0_3 hc0_3
 have HB := sd_ (Below.refl w.heap.size w)
 have H : ((impl_within.f a0_0 2 16).bind fun t406 => (if t406 = true then (if (l0_1.length : Int) = (wrap64 (a0_0 * a0_0)) then (if (l0_2.length : Int) = (wrap64 (a0_0 * a0_0)) then (impl_IsSystem.j0 k a0_0 ((l0_3.length : Int) != (wrap64 (a0_0 * a0_0))) a0_0 l0_1 l0_2 l0_3) else (impl_IsSystem.j0 k a0_0 true a0_0 l0_1 l0_2 l0_3)) else (impl_IsSystem.j0 k a0_0 true a0_0 l0_1 l0_2 l0_3)) else (impl_IsSystem.j0 k a0_0 true a0_0 l0_1 l0_2 l0_3))) = some r := h
 clear h
 have HC2 := sd_ H
 clear H
 go_enter Try.func64, Try.ntmps64
 go_upto_region 2 with (first | ((with_reducible refine gate_dst (N := 1) rfl ?_); (try (refine gate_guard (by rfl) ?_; dsimp only)); refine box_event ?hg (N := 1) ?hd (cs := #[.int .i64 a0_0, .slice A0_1 l0_1.length c0_1, .slice A0_2 l0_2.length c0_2, .slice A0_3 l0_3.length c0_3]) (t := 37) ?hr ?_; (case hd => rfl); (case hg => rfl); (case hr => first | (go_simp; done) | (go_simp; rfl)); intro gb405 hg w3 hbox hb; have BK405 := sd_ (hbox); have GW405 := sd_ ((by rw [hg]; exact (below_size (bw0_ HB.out)) : w.heap.size ≤ gb405)); have GE405 := sd_ ((by rw [hg]; exact (below_size (bw0_ HB.out)) : w.heap.size ≤ gb405)); replace HB := sd_ (below_step (bw0_ HB.out) hb); clear hb hbox hg; have hcz4_0 : w3.cell? ⟨gb405, 0, none⟩ = some (.int .i64 a0_0) := (blk_cell BK405.out 0).trans rfl; have hcz4_1 : w3.cell? ⟨gb405, 1, none⟩ = some (.slice A0_1 l0_1.length c0_1) := (blk_cell BK405.out 1).trans rfl; have hcz4_2 : w3.cell? ⟨gb405, 2, none⟩ = some (.slice A0_2 l0_2.length c0_2) := (blk_cell BK405.out 2).trans rfl; have hcz4_3 : w3.cell? ⟨gb405, 3, none⟩ = some (.slice A0_3 l0_3.length c0_3) := (blk_cell BK405.out 3).trans rfl; have hfz4_0 := blk_frozen BK405.out 0; have hfz4_1 := blk_frozen BK405.out 1; have hfz4_2 := blk_frozen BK405.out 2; have hfz4_3 := blk_frozen BK405.out 3))
 (try simp only [Act.put, List.setIfInBounds_toArray, List.set_cons_zero, List.set_cons_succ])
 go_cut [39] (fun v39 wc => ∃ (kq : Nat) (x39_1 : Bool), v39 = .bool x39_1 ∧ Aside0 (impl_IsSystem.j0 kq a0_0 x39_1 a0_0 l0_1 l0_2 l0_3 = some r) ∧ Aside0 (kq ≤ k) ∧ Aside0 (wc.heap[gb405]? = some (.cells #[.int .i64 a0_0, (.slice A0_1 l0_1.length c0_1), (.slice A0_2 l0_2.length c0_2), (.slice A0_3 l0_3.length c0_3)] 37 (0, 0))) ∧ Aside0 (Below w.heap.size w wc))
 case first =>
  have H := HC2.out
  clear HC2
  replace H := Option.bind_eq_some_iff.mp H
  obtain ⟨t406, A50, H⟩ := H
  try dsimp only at H
  have A5 := sd_ A50
  clear A50
  by_cases c6 : t406 = true
  ·subst c6
   have H1 : (if (l0_1.length : Int) = (wrap64 (a0_0 * a0_0)) then (if (l0_2.length : Int) = (wrap64 (a0_0 * a0_0)) then (impl_IsSystem.j0 k a0_0 ((l0_3.length : Int) != (wrap64 (a0_0 * a0_0))) a0_0 l0_1 l0_2 l0_3) else (impl_IsSystem.j0 k a0_0 true a0_0 l0_1 l0_2 l0_3)) else (impl_IsSystem.j0 k a0_0 true a0_0 l0_1 l0_2 l0_3)) = some r := by rw [if_pos rfl] at H; exact H
   clear H
   have H := H1
   clear H1
   by_cases c7 : (l0_1.length : Int) = (wrap64 (a0_0 * a0_0))
   ·rw [if_pos c7] at H
    have c7b0 : ((l0_1.length : Int) == (wrap64 (a0_0 * a0_0))) = true := beq_iff_eq.mpr c7
    have c7b1 : ((l0_1.length : Int) != (wrap64 (a0_0 * a0_0))) = false := bne_eq_false_iff_eq.mpr c7
    clear c7
    (first | rw [c7b0] | (simp only [i64_w, i32_w]; rw [c7b0]) | skip)
    by_cases c8 : (l0_2.length : Int) = (wrap64 (a0_0 * a0_0))
    ·rw [if_pos c8] at H
     have c8b0 : ((l0_2.length : Int) == (wrap64 (a0_0 * a0_0))) = true := beq_iff_eq.mpr c8
     have c8b1 : ((l0_2.length : Int) != (wrap64 (a0_0 * a0_0))) = false := bne_eq_false_iff_eq.mpr c8
     clear c8
     have H' := sd_ H
     clear H
     go_wp2_with (first | ((with_reducible refine gate_callee (f := 85) rfl ?_); refine goesL_ (some 11) rfl rfl Try.func85 (by kernel_rfl) rfl #[.int .i64 a0_0, .int .i64 2, .int .i64 16] rfl (by (try simp only [List.map_toArray, List.map_cons, List.map_nil]); first | done | rfl | (simp only [List.length_drop, List.length_take]; rfl)) ?_; (with_reducible refine (impl_within.calls a0_0 2 16 true _ A5.out).mono ?_); rintro e w' ⟨rfl, ⟨nd, rfl⟩⟩; refine ⟨_, rfl, ?_⟩; have hcz9_0 : w3.cell? ⟨gb405, 0, none⟩ = some (.int .i64 a0_0) := (blk_cell BK405.out 0).trans rfl; have hcz9_1 : w3.cell? ⟨gb405, 1, none⟩ = some (.slice A0_1 l0_1.length c0_1) := (blk_cell BK405.out 1).trans rfl; have hcz9_2 : w3.cell? ⟨gb405, 2, none⟩ = some (.slice A0_2 l0_2.length c0_2) := (blk_cell BK405.out 2).trans rfl; have hcz9_3 : w3.cell? ⟨gb405, 3, none⟩ = some (.slice A0_3 l0_3.length c0_3) := (blk_cell BK405.out 3).trans rfl; have hfz9_0 := blk_frozen BK405.out 0; have hfz9_1 := blk_frozen BK405.out 1; have hfz9_2 := blk_frozen BK405.out 2; have hfz9_3 := blk_frozen BK405.out 3))
     go_meet
     case rel => exact ⟨_, (((l0_3.length : Int) != (wrap64 (a0_0 * a0_0)))), (by first | rfl | (simp; done) | (simp [*]; done)), H', ⟨by first | omega | exact Nat.le_refl _⟩, ⟨by (with_reducible repeat (first | refine blk_drewN ?_ _ | refine blk_drew ?_ | refine blk_alloc ?_ _)); exact BK405.out⟩, ⟨bw1_ HB.out GE405.out⟩⟩
    ·rw [if_neg c8] at H
     have c8b0 : ((l0_2.length : Int) == (wrap64 (a0_0 * a0_0))) = false := beq_eq_false_iff_ne.mpr c8
     have c8b1 : ((l0_2.length : Int) != (wrap64 (a0_0 * a0_0))) = true := bne_iff_ne.mpr c8
     have H' := sd_ H
     clear H
     go_wp2_with (first | ((with_reducible refine gate_callee (f := 85) rfl ?_); refine goesL_ (some 11) rfl rfl Try.func85 (by kernel_rfl) rfl #[.int .i64 a0_0, .int .i64 2, .int .i64 16] rfl (by (try simp only [List.map_toArray, List.map_cons, List.map_nil]); first | done | rfl | (simp only [List.length_drop, List.length_take]; rfl)) ?_; (with_reducible refine (impl_within.calls a0_0 2 16 true _ A5.out).mono ?_); rintro e w' ⟨rfl, ⟨nd, rfl⟩⟩; refine ⟨_, rfl, ?_⟩; have hcz10_0 : w3.cell? ⟨gb405, 0, none⟩ = some (.int .i64 a0_0) := (blk_cell BK405.out 0).trans rfl; have hcz10_1 : w3.cell? ⟨gb405, 1, none⟩ = some (.slice A0_1 l0_1.length c0_1) := (blk_cell BK405.out 1).trans rfl; have hcz10_2 : w3.cell? ⟨gb405, 2, none⟩ = some (.slice A0_2 l0_2.length c0_2) := (blk_cell BK405.out 2).trans rfl; have hcz10_3 : w3.cell? ⟨gb405, 3, none⟩ = some (.slice A0_3 l0_3.length c0_3) := (blk_cell BK405.out 3).trans rfl; have hfz10_0 := blk_frozen BK405.out 0; have hfz10_1 := blk_frozen BK405.out 1; have hfz10_2 := blk_frozen BK405.out 2; have hfz10_3 := blk_frozen BK405.out 3))
     go_meet
     case rel => exact ⟨_, (true), (by first | rfl | (simp; done) | (simp [*]; done)), H', ⟨by first | omega | exact Nat.le_refl _⟩, ⟨by (with_reducible repeat (first | refine blk_drewN ?_ _ | refine blk_drew ?_ | refine blk_alloc ?_ _)); exact BK405.out⟩, ⟨bw1_ HB.out GE405.out⟩⟩
   ·rw [if_neg c7] at H
    have c7b0 : ((l0_1.length : Int) == (wrap64 (a0_0 * a0_0))) = false := beq_eq_false_iff_ne.mpr c7
    have c7b1 : ((l0_1.length : Int) != (wrap64 (a0_0 * a0_0))) = true := bne_iff_ne.mpr c7
    (first | rw [c7b0] | (simp only [i64_w, i32_w]; rw [c7b0]) | skip)
    have H' := sd_ H
    clear H
    go_wp2_with (first | ((with_reducible refine gate_callee (f := 85) rfl ?_); refine goesL_ (some 11) rfl rfl Try.func85 (by kernel_rfl) rfl #[.int .i64 a0_0, .int .i64 2, .int .i64 16] rfl (by (try simp only [List.map_toArray, List.map_cons, List.map_nil]); first | done | rfl | (simp only [List.length_drop, List.length_take]; rfl)) ?_; (with_reducible refine (impl_within.calls a0_0 2 16 true _ A5.out).mono ?_); rintro e w' ⟨rfl, ⟨nd, rfl⟩⟩; refine ⟨_, rfl, ?_⟩; have hcz11_0 : w3.cell? ⟨gb405, 0, none⟩ = some (.int .i64 a0_0) := (blk_cell BK405.out 0).trans rfl; have hcz11_1 : w3.cell? ⟨gb405, 1, none⟩ = some (.slice A0_1 l0_1.length c0_1) := (blk_cell BK405.out 1).trans rfl; have hcz11_2 : w3.cell? ⟨gb405, 2, none⟩ = some (.slice A0_2 l0_2.length c0_2) := (blk_cell BK405.out 2).trans rfl; have hcz11_3 : w3.cell? ⟨gb405, 3, none⟩ = some (.slice A0_3 l0_3.length c0_3) := (blk_cell BK405.out 3).trans rfl; have hfz11_0 := blk_frozen BK405.out 0; have hfz11_1 := blk_frozen BK405.out 1; have hfz11_2 := blk_frozen BK405.out 2; have hfz11_3 := blk_frozen BK405.out 3))
    go_meet
    case rel => exact ⟨_, (true), (by first | rfl | (simp; done) | (simp [*]; done)), H', ⟨by first | omega | exact Nat.le_refl _⟩, ⟨by (with_reducible repeat (first | refine blk_drewN ?_ _ | refine blk_drew ?_ | refine blk_alloc ?_ _)); exact BK405.out⟩, ⟨bw1_ HB.out GE405.out⟩⟩
  ·replace c6 := Bool.eq_false_iff.mpr c6
   subst c6
   have H1 : (impl_IsSystem.j0 k a0_0 true a0_0 l0_1 l0_2 l0_3) = some r := by rw [if_neg (show ¬ (false = true) by decide)] at H; exact H
   clear H
   have H := H1
   clear H1
   have H' := sd_ H
   clear H
   go_wp2_with (first | ((with_reducible refine gate_callee (f := 85) rfl ?_); refine goesL_ (some 11) rfl rfl Try.func85 (by kernel_rfl) rfl #[.int .i64 a0_0, .int .i64 2, .int .i64 16] rfl (by (try simp only [List.map_toArray, List.map_cons, List.map_nil]); first | done | rfl | (simp only [List.length_drop, List.length_take]; rfl)) ?_; (with_reducible refine (impl_within.calls a0_0 2 16 false _ A5.out).mono ?_); rintro e w' ⟨rfl, ⟨nd, rfl⟩⟩; refine ⟨_, rfl, ?_⟩))
   go_meet
   case rel => exact ⟨_, (true), (by first | rfl | (simp; done) | (simp [*]; done)), H', ⟨by first | omega | exact Nat.le_refl _⟩, ⟨by (with_reducible repeat (first | refine blk_drewN ?_ _ | refine blk_drew ?_ | refine blk_alloc ?_ _)); exact BK405.out⟩, ⟨bw1_ HB.out GE405.out⟩⟩
 case rest =>
  clear HC2
  try clear c6
  try clear p6
  try clear hcz4_0
  try clear hcz4_1
  try clear hcz4_2
  try clear hcz4_3
  try clear hfz4_0
  try clear hfz4_1
  try clear hfz4_2
  try clear hfz4_3
  obtain ⟨kq, x39_1, rfl, HA, HJ1, BK405, HB⟩ := hcut
  cases kq with
  | zero => exact absurd HA.out (by simp [impl_IsSystem.j0])
  | succ kj1 =>
   have H := HA.out
   clear HA
   simp only [impl_IsSystem.j0] at H
   by_cases c12 : x39_1 = true
   ·subst c12
    have H1 : (some false) = some r := by rw [if_pos rfl] at H; exact H
    clear H
    have H := H1
    clear H1
    obtain rfl := Option.some.inj H
    go_wp2
    go_ret
    exact ⟨an_, bw1_ HB.out GE405.out⟩
   ·replace c12 := Bool.eq_false_iff.mpr c12
    subst c12
    have H1 : (impl_IsSystem.l0 kj1 a0_0 (l0_1.length : Int) 0 a0_0 l0_1 l0_2 l0_3) = some r := by rw [if_neg (show ¬ (false = true) by decide)] at H; exact H
    clear H
    have H := H1
    clear H1
    have H' := sd_ H
    clear H
    have hcz13_0 : wc.cell? ⟨gb405, 0, none⟩ = some (.int .i64 a0_0) := (blk_cell BK405.out 0).trans rfl
    have hcz13_1 : wc.cell? ⟨gb405, 1, none⟩ = some (.slice A0_1 l0_1.length c0_1) := (blk_cell BK405.out 1).trans rfl
    have hcz13_2 : wc.cell? ⟨gb405, 2, none⟩ = some (.slice A0_2 l0_2.length c0_2) := (blk_cell BK405.out 2).trans rfl
    have hcz13_3 : wc.cell? ⟨gb405, 3, none⟩ = some (.slice A0_3 l0_3.length c0_3) := (blk_cell BK405.out 3).trans rfl
    have hfz13_0 := blk_frozen BK405.out 0
    have hfz13_1 := blk_frozen BK405.out 1
    have hfz13_2 := blk_frozen BK405.out 2
    have hfz13_3 := blk_frozen BK405.out 3
    go_wp2
    go_loopg [43] kj1 (fun kq v43 w' => ∃ (x43_2 : Int), v43 = .int .i64 x43_2 ∧ Aside0 (impl_IsSystem.l0 kq a0_0 (l0_1.length : Int) x43_2 a0_0 l0_1 l0_2 l0_3 = some r) ∧ Aside0 (kq ≤ kj1) ∧ Aside0 (w'.heap[gb405]? = some (.cells #[.int .i64 a0_0, (.slice A0_1 l0_1.length c0_1), (.slice A0_2 l0_2.length c0_2), (.slice A0_3 l0_3.length c0_3)] 37 (0, 0))) ∧ Aside0 (Below w.heap.size w w'))
    case atStart => exact ⟨(0), (by first | rfl | (simp; done) | (simp [*]; done)), H', ⟨Nat.le_refl _⟩, ⟨by (with_reducible repeat (first | refine blk_drewN ?_ _ | refine blk_drew ?_ | refine blk_alloc ?_ _)); exact BK405.out⟩, ⟨bw1_ HB.out GE405.out⟩⟩
    case round =>
     clear H'
     try clear c1
     try clear p2
     try clear c6
     try clear p6
     try clear c12
     try clear hcz13_0
     try clear hcz13_1
     try clear hcz13_2
     try clear hcz13_3
     try clear hcz4_0
     try clear hcz4_1
     try clear hcz4_2
     try clear hcz4_3
     try clear hfz13_0
     try clear hfz13_1
     try clear hfz13_2
     try clear hfz13_3
     try clear hfz4_0
     try clear hfz4_1
     try clear hfz4_2
     try clear hfz4_3
     try clear p6
     obtain ⟨x43_2, rfl, HA, HK2, BK405, HB⟩ := hrel
     cases gk with
     | zero => exact absurd HA.out (by simp [impl_IsSystem.l0])
     | succ k2 =>
      have H := HA.out
      clear HA
      simp only [impl_IsSystem.l0] at H
      by_cases c14 : x43_2 < (l0_1.length : Int)
      ·rw [if_pos c14] at H
       have c14b0 : decide (x43_2 < (l0_1.length : Int)) = true := decide_eq_true c14
       clear c14
       by_cases c15 : 0 ≤ x43_2
       ·rw [if_pos c15] at H
        have c15b0 : decide (0 ≤ x43_2) = true := decide_eq_true c15
        clear c15
        by_cases c16 : x43_2 < (l0_1.length : Int)
        ·rw [if_pos c16] at H
         have c16b0 : decide (x43_2 < (l0_1.length : Int)) = true := decide_eq_true c16
         clear c16
         replace H := Option.bind_eq_some_iff.mp H
         obtain ⟨t408, A170, H⟩ := H
         try dsimp only at H
         have A17 := sd_ A170
         clear A170
         by_cases c18 : t408 = true
         ·subst c18
          have H1 : (if x43_2 < (l0_2.length : Int) then ((impl_System_has.f a0_0 l0_1 l0_2 l0_3 (rd l0_2 x43_2)).bind fun t410 => (if t410 = true then (impl_IsSystem.l0 k2 a0_0 (l0_1.length : Int) (wrap64 (x43_2 + 1)) a0_0 l0_1 l0_2 l0_3) else (some false))) else (none)) = some r := by rw [if_pos rfl] at H; exact H
          clear H
          have H := H1
          clear H1
          by_cases c19 : x43_2 < (l0_2.length : Int)
          ·rw [if_pos c19] at H
           have c19b0 : decide (x43_2 < (l0_2.length : Int)) = true := decide_eq_true c19
           clear c19
           replace H := Option.bind_eq_some_iff.mp H
           obtain ⟨t410, A200, H⟩ := H
           try dsimp only at H
           have A20 := sd_ A200
           clear A200
           by_cases c21 : t410 = true
           ·subst c21
            have H1 : (impl_IsSystem.l0 k2 a0_0 (l0_1.length : Int) (wrap64 (x43_2 + 1)) a0_0 l0_1 l0_2 l0_3) = some r := by rw [if_pos rfl] at H; exact H
            clear H
            have H := H1
            clear H1
            have H' := sd_ H
            clear H
            try go_wp2
            have p407 : 0 ≤ (x43_2 : Int) := of_decide_eq_true (by first | (with_reducible assumption) | assumption)
            have q407 : x43_2 < (l0_1.length : Int) := of_decide_eq_true (by first | (with_reducible assumption) | assumption)
            obtain ⟨ad407, e407, hx407_0⟩ := Kd.at_int HR0_1.out x43_2 p407 q407
            cases e407
            replace hx407_0 := (HB.out.cell (World.block_lt_of_cell? w _ hx407_0)).trans hx407_0
            replace p407 := eq_true p407
            replace q407 := eq_true q407
            have p409 : 0 ≤ (x43_2 : Int) := of_decide_eq_true (by first | (with_reducible assumption) | assumption)
            have q409 : x43_2 < (l0_2.length : Int) := of_decide_eq_true (by first | (with_reducible assumption) | assumption)
            obtain ⟨ad409, e409, hx409_0⟩ := Kd.at_int HR0_2.out x43_2 p409 q409
            cases e409
            replace hx409_0 := (HB.out.cell (World.block_lt_of_cell? w _ hx409_0)).trans hx409_0
            replace p409 := eq_true p409
            replace q409 := eq_true q409
            refine qb_region (by kernel_rfl) (by kernel_rfl) ?_
            have HQ := fun (wq : World) (hq : Below wr.heap.size wr wq) => below_step HB.out hq
            repeat ((first | (apply qb_skip; (focus rfl)) | (refine qb_callN 52 rfl ?_; apply qb_call 52 rfl Try.func91 (by kernel_rfl) rfl rfl; (focus rfl); (focus (exact fun wq9 hb9 => qb_b hb9 (impl_System_has.calls a0_0 _ _ l0_1 _ _ l0_2 _ _ l0_3 (rd l0_1 x43_2) true _ (Kd.C_below HR0_1.out (HQ _ hb9)) HC0_1.out (Kd.C_below HR0_2.out (HQ _ hb9)) HC0_2.out (Kd.C_below HR0_3.out (HQ _ hb9)) HC0_3.out A17.out))); (focus (rfl))) | (refine qb_callN 61 rfl ?_; apply qb_call 61 rfl Try.func91 (by kernel_rfl) rfl rfl; (focus rfl); (focus (exact fun wq9 hb9 => qb_b hb9 (impl_System_has.calls a0_0 _ _ l0_1 _ _ l0_2 _ _ l0_3 (rd l0_2 x43_2) true _ (Kd.C_below HR0_1.out (HQ _ hb9)) HC0_1.out (Kd.C_below HR0_2.out (HQ _ hb9)) HC0_2.out (Kd.C_below HR0_3.out (HQ _ hb9)) HC0_3.out A20.out))); (focus (rfl))) | (apply qb_val; (focus rfl); (focus (intro wq9 _; go_simp; with_reducible rfl))) | (apply qb_val; (focus rfl); (focus (intro wq9 hb9_; have hb9 : Below wr.heap.size wr wq9 := hb9_; have BK405 := sd_ (blk_below BK405.out hb9); have hc9_405_0 : wq9.cell? ⟨gb405, 0, none⟩ = some (.int .i64 a0_0) := (blk_cell BK405.out 0).trans rfl; have hc9_405_1 : wq9.cell? ⟨gb405, 1, none⟩ = some (.slice (some ad407) l0_1.length c0_1) := (blk_cell BK405.out 1).trans rfl; have hc9_405_2 : wq9.cell? ⟨gb405, 2, none⟩ = some (.slice (some ad409) l0_2.length c0_2) := (blk_cell BK405.out 2).trans rfl; have hc9_405_3 : wq9.cell? ⟨gb405, 3, none⟩ = some (.slice A0_3 l0_3.length c0_3) := (blk_cell BK405.out 3).trans rfl; have hx407_0 := (hb9.cell (World.block_lt_of_cell? _ _ hx407_0)).trans hx407_0; have hx409_0 := (hb9.cell (World.block_lt_of_cell? _ _ hx409_0)).trans hx409_0; go_simp; with_reducible rfl)))); (focus (simp only [Act.put, List.setIfInBounds_toArray, List.set_cons_zero, List.set_cons_succ, i64_w, i32_w]; rfl)))
            refine qb_nil ?_
            intro w24 hb
            replace BK405 := sd_ (blk_below BK405.out hb)
            replace HB := sd_ (below_step HB.out hb)
            clear hb
            (try clear HQ)
            try go_wp2
            go_roundg k2
            case measure => have := HJ1.out; have := HK2.out; omega
            case rel => exact ⟨(wrap64 (x43_2 + 1)), (by first | rfl | (simp; done) | (simp [*]; done)), H', ⟨by have := HJ1.out; have := HK2.out; omega⟩, ⟨by (with_reducible repeat (first | refine blk_drewN ?_ _ | refine blk_drew ?_ | refine blk_alloc ?_ _)); exact BK405.out⟩, ⟨bw1_ HB.out GE405.out⟩⟩
           ·replace c21 := Bool.eq_false_iff.mpr c21
            subst c21
            have H1 : (some false) = some r := by rw [if_neg (show ¬ (false = true) by decide)] at H; exact H
            clear H
            have H := H1
            clear H1
            obtain rfl := Option.some.inj H
            try go_wp2
            have p407 : 0 ≤ (x43_2 : Int) := of_decide_eq_true (by first | (with_reducible assumption) | assumption)
            have q407 : x43_2 < (l0_1.length : Int) := of_decide_eq_true (by first | (with_reducible assumption) | assumption)
            obtain ⟨ad407, e407, hx407_0⟩ := Kd.at_int HR0_1.out x43_2 p407 q407
            cases e407
            replace hx407_0 := (HB.out.cell (World.block_lt_of_cell? w _ hx407_0)).trans hx407_0
            replace p407 := eq_true p407
            replace q407 := eq_true q407
            have p409 : 0 ≤ (x43_2 : Int) := of_decide_eq_true (by first | (with_reducible assumption) | assumption)
            have q409 : x43_2 < (l0_2.length : Int) := of_decide_eq_true (by first | (with_reducible assumption) | assumption)
            obtain ⟨ad409, e409, hx409_0⟩ := Kd.at_int HR0_2.out x43_2 p409 q409
            cases e409
            replace hx409_0 := (HB.out.cell (World.block_lt_of_cell? w _ hx409_0)).trans hx409_0
            replace p409 := eq_true p409
            replace q409 := eq_true q409
            refine qb_region (by kernel_rfl) (by kernel_rfl) ?_
            have HQ := fun (wq : World) (hq : Below wr.heap.size wr wq) => below_step HB.out hq
            repeat ((first | (apply qb_skip; (focus rfl)) | (refine qb_callN 52 rfl ?_; apply qb_call 52 rfl Try.func91 (by kernel_rfl) rfl rfl; (focus rfl); (focus (exact fun wq9 hb9 => qb_b hb9 (impl_System_has.calls a0_0 _ _ l0_1 _ _ l0_2 _ _ l0_3 (rd l0_1 x43_2) true _ (Kd.C_below HR0_1.out (HQ _ hb9)) HC0_1.out (Kd.C_below HR0_2.out (HQ _ hb9)) HC0_2.out (Kd.C_below HR0_3.out (HQ _ hb9)) HC0_3.out A17.out))); (focus (rfl))) | (refine qb_callN 61 rfl ?_; apply qb_call 61 rfl Try.func91 (by kernel_rfl) rfl rfl; (focus rfl); (focus (exact fun wq9 hb9 => qb_b hb9 (impl_System_has.calls a0_0 _ _ l0_1 _ _ l0_2 _ _ l0_3 (rd l0_2 x43_2) false _ (Kd.C_below HR0_1.out (HQ _ hb9)) HC0_1.out (Kd.C_below HR0_2.out (HQ _ hb9)) HC0_2.out (Kd.C_below HR0_3.out (HQ _ hb9)) HC0_3.out A20.out))); (focus (rfl))) | (apply qb_val; (focus rfl); (focus (intro wq9 _; go_simp; with_reducible rfl))) | (apply qb_val; (focus rfl); (focus (intro wq9 hb9_; have hb9 : Below wr.heap.size wr wq9 := hb9_; have BK405 := sd_ (blk_below BK405.out hb9); have hc9_405_0 : wq9.cell? ⟨gb405, 0, none⟩ = some (.int .i64 a0_0) := (blk_cell BK405.out 0).trans rfl; have hc9_405_1 : wq9.cell? ⟨gb405, 1, none⟩ = some (.slice (some ad407) l0_1.length c0_1) := (blk_cell BK405.out 1).trans rfl; have hc9_405_2 : wq9.cell? ⟨gb405, 2, none⟩ = some (.slice (some ad409) l0_2.length c0_2) := (blk_cell BK405.out 2).trans rfl; have hc9_405_3 : wq9.cell? ⟨gb405, 3, none⟩ = some (.slice A0_3 l0_3.length c0_3) := (blk_cell BK405.out 3).trans rfl; have hx407_0 := (hb9.cell (World.block_lt_of_cell? _ _ hx407_0)).trans hx407_0; have hx409_0 := (hb9.cell (World.block_lt_of_cell? _ _ hx409_0)).trans hx409_0; go_simp; with_reducible rfl)))); (focus (simp only [Act.put, List.setIfInBounds_toArray, List.set_cons_zero, List.set_cons_succ, i64_w, i32_w]; rfl)))
            refine qb_nil ?_
            intro w27 hb
            replace BK405 := sd_ (blk_below BK405.out hb)
            replace HB := sd_ (below_step HB.out hb)
            clear hb
            (try clear HQ)
            try go_wp2
            go_ret
            exact ⟨an_, bw1_ HB.out GE405.out⟩
          ·rw [if_neg c19] at H
           exact absurd H (by simp)
         ·replace c18 := Bool.eq_false_iff.mpr c18
          subst c18
          have H1 : (some false) = some r := by rw [if_neg (show ¬ (false = true) by decide)] at H; exact H
          clear H
          have H := H1
          clear H1
          obtain rfl := Option.some.inj H
          try go_wp2
          have p407 : 0 ≤ (x43_2 : Int) := of_decide_eq_true (by first | (with_reducible assumption) | assumption)
          have q407 : x43_2 < (l0_1.length : Int) := of_decide_eq_true (by first | (with_reducible assumption) | assumption)
          obtain ⟨ad407, e407, hx407_0⟩ := Kd.at_int HR0_1.out x43_2 p407 q407
          cases e407
          replace hx407_0 := (HB.out.cell (World.block_lt_of_cell? w _ hx407_0)).trans hx407_0
          replace p407 := eq_true p407
          replace q407 := eq_true q407
          refine qb_region (by kernel_rfl) (by kernel_rfl) ?_
          have HQ := fun (wq : World) (hq : Below wr.heap.size wr wq) => below_step HB.out hq
          repeat ((first | (apply qb_skip; (focus rfl)) | (refine qb_callN 52 rfl ?_; apply qb_call 52 rfl Try.func91 (by kernel_rfl) rfl rfl; (focus rfl); (focus (exact fun wq9 hb9 => qb_b hb9 (impl_System_has.calls a0_0 _ _ l0_1 _ _ l0_2 _ _ l0_3 (rd l0_1 x43_2) false _ (Kd.C_below HR0_1.out (HQ _ hb9)) HC0_1.out (Kd.C_below HR0_2.out (HQ _ hb9)) HC0_2.out (Kd.C_below HR0_3.out (HQ _ hb9)) HC0_3.out A17.out))); (focus (rfl))) | (apply qb_val; (focus rfl); (focus (intro wq9 _; go_simp; with_reducible rfl))) | (apply qb_val; (focus rfl); (focus (intro wq9 hb9_; have hb9 : Below wr.heap.size wr wq9 := hb9_; have BK405 := sd_ (blk_below BK405.out hb9); have hc9_405_0 : wq9.cell? ⟨gb405, 0, none⟩ = some (.int .i64 a0_0) := (blk_cell BK405.out 0).trans rfl; have hc9_405_1 : wq9.cell? ⟨gb405, 1, none⟩ = some (.slice (some ad407) l0_1.length c0_1) := (blk_cell BK405.out 1).trans rfl; have hc9_405_2 : wq9.cell? ⟨gb405, 2, none⟩ = some (.slice A0_2 l0_2.length c0_2) := (blk_cell BK405.out 2).trans rfl; have hc9_405_3 : wq9.cell? ⟨gb405, 3, none⟩ = some (.slice A0_3 l0_3.length c0_3) := (blk_cell BK405.out 3).trans rfl; have hx407_0 := (hb9.cell (World.block_lt_of_cell? _ _ hx407_0)).trans hx407_0; go_simp; with_reducible rfl)))); (focus (simp only [Act.put, List.setIfInBounds_toArray, List.set_cons_zero, List.set_cons_succ, i64_w, i32_w]; rfl)))
          refine qb_nil ?_
          intro w29 hb
          replace BK405 := sd_ (blk_below BK405.out hb)
          replace HB := sd_ (below_step HB.out hb)
          clear hb
          (try clear HQ)
          try go_wp2
          go_ret
          exact ⟨an_, bw1_ HB.out GE405.out⟩
        ·rw [if_neg c16] at H
         exact absurd H (by simp)
       ·rw [if_neg c15] at H
        exact absurd H (by simp)
      ·rw [if_neg c14] at H
       have c14b0 : decide (x43_2 < (l0_1.length : Int)) = false := decide_eq_false c14
       clear c14
       have H' := sd_ H
       clear H
       go_wp2
       go_loopg [5] k2 (fun kq v5 w' => ∃ (x5_3 : Int), v5 = .int .i64 x5_3 ∧ Aside0 (impl_IsSystem.l1 kq a0_0 x5_3 a0_0 l0_1 l0_2 l0_3 = some r) ∧ Aside0 (kq ≤ k2) ∧ Aside0 (w'.heap[gb405]? = some (.cells #[.int .i64 a0_0, (.slice A0_1 l0_1.length c0_1), (.slice A0_2 l0_2.length c0_2), (.slice A0_3 l0_3.length c0_3)] 37 (0, 0))) ∧ Aside0 (Below w.heap.size w w'))
       case atStart => exact ⟨(0), (by first | rfl | (simp; done) | (simp [*]; done)), H', ⟨Nat.le_refl _⟩, ⟨by (with_reducible repeat (first | refine blk_drewN ?_ _ | refine blk_drew ?_ | refine blk_alloc ?_ _)); exact BK405.out⟩, ⟨bw1_ HB.out GE405.out⟩⟩
       case round =>
        clear H'
        try clear c1
        try clear p2
        try clear c6
        try clear p6
        try clear c12
        try clear c14
        try clear c14b0
        try clear hcz13_0
        try clear hcz13_1
        try clear hcz13_2
        try clear hcz13_3
        try clear hcz4_0
        try clear hcz4_1
        try clear hcz4_2
        try clear hcz4_3
        try clear hfz13_0
        try clear hfz13_1
        try clear hfz13_2
        try clear hfz13_3
        try clear hfz4_0
        try clear hfz4_1
        try clear hfz4_2
        try clear hfz4_3
        try clear p2
        try clear p6
        obtain ⟨x5_3, rfl, HA, HK3, BK405, HB⟩ := hrel
        cases gk with
        | zero => exact absurd HA.out (by simp [impl_IsSystem.l1])
        | succ k3 =>
         have H := HA.out
         clear HA
         simp only [impl_IsSystem.l1] at H
         by_cases c30 : x5_3 < a0_0
         ·rw [if_pos c30] at H
          have c30b0 : decide (x5_3 < a0_0) = true := decide_eq_true c30
          clear c30
          have HC31 := sd_ H
          clear H
          go_upto_region 13 with (fail)
          go_cut [107] (fun v107 wc => ∃ (kq : Nat) (x107_30 : Bool), v107 = .bool x107_30 ∧ Aside0 (impl_IsSystem.j3 kq a0_0 x5_3 x107_30 a0_0 l0_1 l0_2 l0_3 = some r) ∧ Aside0 (kq ≤ k3) ∧ Aside0 (wc.heap[gb405]? = some (.cells #[.int .i64 a0_0, (.slice A0_1 l0_1.length c0_1), (.slice A0_2 l0_2.length c0_2), (.slice A0_3 l0_3.length c0_3)] 37 (0, 0))) ∧ Aside0 (Below w.heap.size w wc))
          case first =>
           have H := HC31.out
           clear HC31
           replace H := Option.bind_eq_some_iff.mp H
           obtain ⟨t411, A320, H⟩ := H
           try dsimp only at H
           have A32 := sd_ A320
           clear A320
           by_cases c33 : t411 = x5_3
           ·rw [if_pos c33] at H
            have c33b0 : (t411 == x5_3) = true := beq_iff_eq.mpr c33
            have c33b1 : (t411 != x5_3) = false := bne_eq_false_iff_eq.mpr c33
            clear c33
            (first | rw [c33b0] | (simp only [i64_w, i32_w]; rw [c33b0]) | skip)
            replace H := Option.bind_eq_some_iff.mp H
            obtain ⟨t412, A340, H⟩ := H
            try dsimp only at H
            have A34 := sd_ A340
            clear A340
            by_cases c35 : t412 = x5_3
            ·rw [if_pos c35] at H
             have c35b0 : (t412 == x5_3) = true := beq_iff_eq.mpr c35
             have c35b1 : (t412 != x5_3) = false := bne_eq_false_iff_eq.mpr c35
             clear c35
             replace H := Option.bind_eq_some_iff.mp H
             obtain ⟨t413, A360, H⟩ := H
             try dsimp only at H
             have A36 := sd_ A360
             clear A360
             by_cases c37 : t413 = x5_3
             ·rw [if_pos c37] at H
              have c37b0 : (t413 == x5_3) = true := beq_iff_eq.mpr c37
              have c37b1 : (t413 != x5_3) = false := bne_eq_false_iff_eq.mpr c37
              clear c37
              replace H := Option.bind_eq_some_iff.mp H
              obtain ⟨t414, A380, H⟩ := H
              try dsimp only at H
              have A38 := sd_ A380
              clear A380
              by_cases c39 : t414 = 0
              ·rw [if_pos c39] at H
               have c39b0 : (t414 == 0) = true := beq_iff_eq.mpr c39
               have c39b1 : (t414 != 0) = false := bne_eq_false_iff_eq.mpr c39
               clear c39
               replace H := Option.bind_eq_some_iff.mp H
               obtain ⟨t415, A400, H⟩ := H
               try dsimp only at H
               have A40 := sd_ A400
               clear A400
               by_cases c41 : t415 = 0
               ·rw [if_pos c41] at H
                have c41b0 : (t415 == 0) = true := beq_iff_eq.mpr c41
                have c41b1 : (t415 != 0) = false := bne_eq_false_iff_eq.mpr c41
                clear c41
                replace H := Option.bind_eq_some_iff.mp H
                obtain ⟨t416, A420, H⟩ := H
                try dsimp only at H
                have A42 := sd_ A420
                clear A420
                have H' := sd_ H
                clear H
                have hcz43_0 : wr.cell? ⟨gb405, 0, none⟩ = some (.int .i64 a0_0) := (blk_cell BK405.out 0).trans rfl
                have hcz43_1 : wr.cell? ⟨gb405, 1, none⟩ = some (.slice A0_1 l0_1.length c0_1) := (blk_cell BK405.out 1).trans rfl
                have hcz43_2 : wr.cell? ⟨gb405, 2, none⟩ = some (.slice A0_2 l0_2.length c0_2) := (blk_cell BK405.out 2).trans rfl
                have hcz43_3 : wr.cell? ⟨gb405, 3, none⟩ = some (.slice A0_3 l0_3.length c0_3) := (blk_cell BK405.out 3).trans rfl
                have hfz43_0 := blk_frozen BK405.out 0
                have hfz43_1 := blk_frozen BK405.out 1
                have hfz43_2 := blk_frozen BK405.out 2
                have hfz43_3 := blk_frozen BK405.out 3
                go_wp2_with (first | ((with_reducible refine gate_callee (f := 92) rfl ?_); refine goesL_ (some 72) rfl rfl Try.func92 (by kernel_rfl) rfl #[.agg #[.int .i64 a0_0, .slice A0_1 l0_1.length c0_1, .slice A0_2 l0_2.length c0_2, .slice A0_3 l0_3.length c0_3], .int .i64 0, .int .i64 x5_3] rfl (by (try simp only [List.map_toArray, List.map_cons, List.map_nil]); first | done | rfl | (simp only [List.length_drop, List.length_take]; rfl)) ?_; (with_reducible refine (impl_System_plus.calls a0_0 _ _ l0_1 _ _ l0_2 _ _ l0_3 0 x5_3 t411 _ ?side1 ?side2 ?side3 ?side4 ?side5 ?side6 A32.out).mono ?_); (case side1 => exact kc_ HR0_1.out HB.out); (case side2 => exact HC0_1.out); (case side3 => exact kc_ HR0_2.out HB.out); (case side4 => exact HC0_2.out); (case side5 => exact kc_ HR0_3.out HB.out); (case side6 => exact HC0_3.out); rintro e w44 ⟨rfl, hb⟩; refine ⟨_, rfl, ?_⟩; replace BK405 := sd_ (bb_ BK405.out hb); replace HB := sd_ (below_step (bw1_ HB.out GE405.out) hb); (try clear hb); (try clear hb2); (try clear hk); (try clear hi); have hcz45_0 : w44.cell? ⟨gb405, 0, none⟩ = some (.int .i64 a0_0) := (blk_cell BK405.out 0).trans rfl; have hcz45_1 : w44.cell? ⟨gb405, 1, none⟩ = some (.slice A0_1 l0_1.length c0_1) := (blk_cell BK405.out 1).trans rfl; have hcz45_2 : w44.cell? ⟨gb405, 2, none⟩ = some (.slice A0_2 l0_2.length c0_2) := (blk_cell BK405.out 2).trans rfl; have hcz45_3 : w44.cell? ⟨gb405, 3, none⟩ = some (.slice A0_3 l0_3.length c0_3) := (blk_cell BK405.out 3).trans rfl; have hfz45_0 := blk_frozen BK405.out 0; have hfz45_1 := blk_frozen BK405.out 1; have hfz45_2 := blk_frozen BK405.out 2; have hfz45_3 := blk_frozen BK405.out 3) | (go_at_call 93; (with_reducible refine (impl_System_times.calls a0_0 _ _ l0_1 _ _ l0_2 _ _ l0_3 1 x5_3 t412 _ ?side1 ?side2 ?side3 ?side4 ?side5 ?side6 A34.out).mono ?_); (case side1 => exact kc_ HR0_1.out HB.out); (case side2 => exact HC0_1.out); (case side3 => exact kc_ HR0_2.out HB.out); (case side4 => exact HC0_2.out); (case side5 => exact kc_ HR0_3.out HB.out); (case side6 => exact HC0_3.out); rintro e w46 ⟨rfl, hb⟩; replace BK405 := sd_ (bb_ BK405.out hb); replace HB := sd_ (below_step (bw1_ HB.out GE405.out) hb); (try clear hb); (try clear hb2); (try clear hk); (try clear hi); have hcz47_0 : w46.cell? ⟨gb405, 0, none⟩ = some (.int .i64 a0_0) := (blk_cell BK405.out 0).trans rfl; have hcz47_1 : w46.cell? ⟨gb405, 1, none⟩ = some (.slice A0_1 l0_1.length c0_1) := (blk_cell BK405.out 1).trans rfl; have hcz47_2 : w46.cell? ⟨gb405, 2, none⟩ = some (.slice A0_2 l0_2.length c0_2) := (blk_cell BK405.out 2).trans rfl; have hcz47_3 : w46.cell? ⟨gb405, 3, none⟩ = some (.slice A0_3 l0_3.length c0_3) := (blk_cell BK405.out 3).trans rfl; have hfz47_0 := blk_frozen BK405.out 0; have hfz47_1 := blk_frozen BK405.out 1; have hfz47_2 := blk_frozen BK405.out 2; have hfz47_3 := blk_frozen BK405.out 3) | (go_at_call 93; (with_reducible refine (impl_System_times.calls a0_0 _ _ l0_1 _ _ l0_2 _ _ l0_3 x5_3 1 t413 _ ?side1 ?side2 ?side3 ?side4 ?side5 ?side6 A36.out).mono ?_); (case side1 => exact kc_ HR0_1.out HB.out); (case side2 => exact HC0_1.out); (case side3 => exact kc_ HR0_2.out HB.out); (case side4 => exact HC0_2.out); (case side5 => exact kc_ HR0_3.out HB.out); (case side6 => exact HC0_3.out); rintro e w48 ⟨rfl, hb⟩; replace BK405 := sd_ (bb_ BK405.out hb); replace HB := sd_ (below_step (bw1_ HB.out GE405.out) hb); (try clear hb); (try clear hb2); (try clear hk); (try clear hi); have hcz49_0 : w48.cell? ⟨gb405, 0, none⟩ = some (.int .i64 a0_0) := (blk_cell BK405.out 0).trans rfl; have hcz49_1 : w48.cell? ⟨gb405, 1, none⟩ = some (.slice A0_1 l0_1.length c0_1) := (blk_cell BK405.out 1).trans rfl; have hcz49_2 : w48.cell? ⟨gb405, 2, none⟩ = some (.slice A0_2 l0_2.length c0_2) := (blk_cell BK405.out 2).trans rfl; have hcz49_3 : w48.cell? ⟨gb405, 3, none⟩ = some (.slice A0_3 l0_3.length c0_3) := (blk_cell BK405.out 3).trans rfl; have hfz49_0 := blk_frozen BK405.out 0; have hfz49_1 := blk_frozen BK405.out 1; have hfz49_2 := blk_frozen BK405.out 2; have hfz49_3 := blk_frozen BK405.out 3) | (go_at_call 93; (with_reducible refine (impl_System_times.calls a0_0 _ _ l0_1 _ _ l0_2 _ _ l0_3 0 x5_3 t414 _ ?side1 ?side2 ?side3 ?side4 ?side5 ?side6 A38.out).mono ?_); (case side1 => exact kc_ HR0_1.out HB.out); (case side2 => exact HC0_1.out); (case side3 => exact kc_ HR0_2.out HB.out); (case side4 => exact HC0_2.out); (case side5 => exact kc_ HR0_3.out HB.out); (case side6 => exact HC0_3.out); rintro e w50 ⟨rfl, hb⟩; replace BK405 := sd_ (bb_ BK405.out hb); replace HB := sd_ (below_step (bw1_ HB.out GE405.out) hb); (try clear hb); (try clear hb2); (try clear hk); (try clear hi); have hcz51_0 : w50.cell? ⟨gb405, 0, none⟩ = some (.int .i64 a0_0) := (blk_cell BK405.out 0).trans rfl; have hcz51_1 : w50.cell? ⟨gb405, 1, none⟩ = some (.slice A0_1 l0_1.length c0_1) := (blk_cell BK405.out 1).trans rfl; have hcz51_2 : w50.cell? ⟨gb405, 2, none⟩ = some (.slice A0_2 l0_2.length c0_2) := (blk_cell BK405.out 2).trans rfl; have hcz51_3 : w50.cell? ⟨gb405, 3, none⟩ = some (.slice A0_3 l0_3.length c0_3) := (blk_cell BK405.out 3).trans rfl; have hfz51_0 := blk_frozen BK405.out 0; have hfz51_1 := blk_frozen BK405.out 1; have hfz51_2 := blk_frozen BK405.out 2; have hfz51_3 := blk_frozen BK405.out 3) | (go_at_call 93; (with_reducible refine (impl_System_times.calls a0_0 _ _ l0_1 _ _ l0_2 _ _ l0_3 x5_3 0 t415 _ ?side1 ?side2 ?side3 ?side4 ?side5 ?side6 A40.out).mono ?_); (case side1 => exact kc_ HR0_1.out HB.out); (case side2 => exact HC0_1.out); (case side3 => exact kc_ HR0_2.out HB.out); (case side4 => exact HC0_2.out); (case side5 => exact kc_ HR0_3.out HB.out); (case side6 => exact HC0_3.out); rintro e w52 ⟨rfl, hb⟩; replace BK405 := sd_ (bb_ BK405.out hb); replace HB := sd_ (below_step (bw1_ HB.out GE405.out) hb); (try clear hb); (try clear hb2); (try clear hk); (try clear hi); have hcz53_0 : w52.cell? ⟨gb405, 0, none⟩ = some (.int .i64 a0_0) := (blk_cell BK405.out 0).trans rfl; have hcz53_1 : w52.cell? ⟨gb405, 1, none⟩ = some (.slice A0_1 l0_1.length c0_1) := (blk_cell BK405.out 1).trans rfl; have hcz53_2 : w52.cell? ⟨gb405, 2, none⟩ = some (.slice A0_2 l0_2.length c0_2) := (blk_cell BK405.out 2).trans rfl; have hcz53_3 : w52.cell? ⟨gb405, 3, none⟩ = some (.slice A0_3 l0_3.length c0_3) := (blk_cell BK405.out 3).trans rfl; have hfz53_0 := blk_frozen BK405.out 0; have hfz53_1 := blk_frozen BK405.out 1; have hfz53_2 := blk_frozen BK405.out 2; have hfz53_3 := blk_frozen BK405.out 3) | (go_at_call 94; (with_reducible refine (impl_System_below.calls a0_0 _ _ l0_1 _ _ l0_2 _ _ l0_3 x5_3 x5_3 t416 _ ?side1 ?side2 ?side3 ?side4 ?side5 ?side6 A42.out).mono ?_); (case side1 => exact kc_ HR0_1.out HB.out); (case side2 => exact HC0_1.out); (case side3 => exact kc_ HR0_2.out HB.out); (case side4 => exact HC0_2.out); (case side5 => exact kc_ HR0_3.out HB.out); (case side6 => exact HC0_3.out); rintro e w54 ⟨rfl, hb⟩; replace BK405 := sd_ (bb_ BK405.out hb); replace HB := sd_ (below_step (bw1_ HB.out GE405.out) hb); (try clear hb); (try clear hb2); (try clear hk); (try clear hi)))
                go_meet
                case rel => exact ⟨_, (!t416), (by first | rfl | (simp; done) | (simp [*]; done)), H', ⟨by have := HJ1.out; have := HK2.out; have := HK3.out; first | omega | exact Nat.le_refl _⟩, ⟨by (with_reducible repeat (first | refine blk_drewN ?_ _ | refine blk_drew ?_ | refine blk_alloc ?_ _)); exact BK405.out⟩, ⟨bw1_ HB.out GE405.out⟩⟩
               ·rw [if_neg c41] at H
                have c41b0 : (t415 == 0) = false := beq_eq_false_iff_ne.mpr c41
                have c41b1 : (t415 != 0) = true := bne_iff_ne.mpr c41
                have H' := sd_ H
                clear H
                have hcz55_0 : wr.cell? ⟨gb405, 0, none⟩ = some (.int .i64 a0_0) := (blk_cell BK405.out 0).trans rfl
                have hcz55_1 : wr.cell? ⟨gb405, 1, none⟩ = some (.slice A0_1 l0_1.length c0_1) := (blk_cell BK405.out 1).trans rfl
                have hcz55_2 : wr.cell? ⟨gb405, 2, none⟩ = some (.slice A0_2 l0_2.length c0_2) := (blk_cell BK405.out 2).trans rfl
                have hcz55_3 : wr.cell? ⟨gb405, 3, none⟩ = some (.slice A0_3 l0_3.length c0_3) := (blk_cell BK405.out 3).trans rfl
                have hfz55_0 := blk_frozen BK405.out 0
                have hfz55_1 := blk_frozen BK405.out 1
                have hfz55_2 := blk_frozen BK405.out 2
                have hfz55_3 := blk_frozen BK405.out 3
                go_wp2_with (first | ((with_reducible refine gate_callee (f := 92) rfl ?_); refine goesL_ (some 72) rfl rfl Try.func92 (by kernel_rfl) rfl #[.agg #[.int .i64 a0_0, .slice A0_1 l0_1.length c0_1, .slice A0_2 l0_2.length c0_2, .slice A0_3 l0_3.length c0_3], .int .i64 0, .int .i64 x5_3] rfl (by (try simp only [List.map_toArray, List.map_cons, List.map_nil]); first | done | rfl | (simp only [List.length_drop, List.length_take]; rfl)) ?_; (with_reducible refine (impl_System_plus.calls a0_0 _ _ l0_1 _ _ l0_2 _ _ l0_3 0 x5_3 t411 _ ?side1 ?side2 ?side3 ?side4 ?side5 ?side6 A32.out).mono ?_); (case side1 => exact kc_ HR0_1.out HB.out); (case side2 => exact HC0_1.out); (case side3 => exact kc_ HR0_2.out HB.out); (case side4 => exact HC0_2.out); (case side5 => exact kc_ HR0_3.out HB.out); (case side6 => exact HC0_3.out); rintro e w56 ⟨rfl, hb⟩; refine ⟨_, rfl, ?_⟩; replace BK405 := sd_ (bb_ BK405.out hb); replace HB := sd_ (below_step (bw1_ HB.out GE405.out) hb); (try clear hb); (try clear hb2); (try clear hk); (try clear hi); have hcz57_0 : w56.cell? ⟨gb405, 0, none⟩ = some (.int .i64 a0_0) := (blk_cell BK405.out 0).trans rfl; have hcz57_1 : w56.cell? ⟨gb405, 1, none⟩ = some (.slice A0_1 l0_1.length c0_1) := (blk_cell BK405.out 1).trans rfl; have hcz57_2 : w56.cell? ⟨gb405, 2, none⟩ = some (.slice A0_2 l0_2.length c0_2) := (blk_cell BK405.out 2).trans rfl; have hcz57_3 : w56.cell? ⟨gb405, 3, none⟩ = some (.slice A0_3 l0_3.length c0_3) := (blk_cell BK405.out 3).trans rfl; have hfz57_0 := blk_frozen BK405.out 0; have hfz57_1 := blk_frozen BK405.out 1; have hfz57_2 := blk_frozen BK405.out 2; have hfz57_3 := blk_frozen BK405.out 3) | (go_at_call 93; (with_reducible refine (impl_System_times.calls a0_0 _ _ l0_1 _ _ l0_2 _ _ l0_3 1 x5_3 t412 _ ?side1 ?side2 ?side3 ?side4 ?side5 ?side6 A34.out).mono ?_); (case side1 => exact kc_ HR0_1.out HB.out); (case side2 => exact HC0_1.out); (case side3 => exact kc_ HR0_2.out HB.out); (case side4 => exact HC0_2.out); (case side5 => exact kc_ HR0_3.out HB.out); (case side6 => exact HC0_3.out); rintro e w58 ⟨rfl, hb⟩; replace BK405 := sd_ (bb_ BK405.out hb); replace HB := sd_ (below_step (bw1_ HB.out GE405.out) hb); (try clear hb); (try clear hb2); (try clear hk); (try clear hi); have hcz59_0 : w58.cell? ⟨gb405, 0, none⟩ = some (.int .i64 a0_0) := (blk_cell BK405.out 0).trans rfl; have hcz59_1 : w58.cell? ⟨gb405, 1, none⟩ = some (.slice A0_1 l0_1.length c0_1) := (blk_cell BK405.out 1).trans rfl; have hcz59_2 : w58.cell? ⟨gb405, 2, none⟩ = some (.slice A0_2 l0_2.length c0_2) := (blk_cell BK405.out 2).trans rfl; have hcz59_3 : w58.cell? ⟨gb405, 3, none⟩ = some (.slice A0_3 l0_3.length c0_3) := (blk_cell BK405.out 3).trans rfl; have hfz59_0 := blk_frozen BK405.out 0; have hfz59_1 := blk_frozen BK405.out 1; have hfz59_2 := blk_frozen BK405.out 2; have hfz59_3 := blk_frozen BK405.out 3) | (go_at_call 93; (with_reducible refine (impl_System_times.calls a0_0 _ _ l0_1 _ _ l0_2 _ _ l0_3 x5_3 1 t413 _ ?side1 ?side2 ?side3 ?side4 ?side5 ?side6 A36.out).mono ?_); (case side1 => exact kc_ HR0_1.out HB.out); (case side2 => exact HC0_1.out); (case side3 => exact kc_ HR0_2.out HB.out); (case side4 => exact HC0_2.out); (case side5 => exact kc_ HR0_3.out HB.out); (case side6 => exact HC0_3.out); rintro e w60 ⟨rfl, hb⟩; replace BK405 := sd_ (bb_ BK405.out hb); replace HB := sd_ (below_step (bw1_ HB.out GE405.out) hb); (try clear hb); (try clear hb2); (try clear hk); (try clear hi); have hcz61_0 : w60.cell? ⟨gb405, 0, none⟩ = some (.int .i64 a0_0) := (blk_cell BK405.out 0).trans rfl; have hcz61_1 : w60.cell? ⟨gb405, 1, none⟩ = some (.slice A0_1 l0_1.length c0_1) := (blk_cell BK405.out 1).trans rfl; have hcz61_2 : w60.cell? ⟨gb405, 2, none⟩ = some (.slice A0_2 l0_2.length c0_2) := (blk_cell BK405.out 2).trans rfl; have hcz61_3 : w60.cell? ⟨gb405, 3, none⟩ = some (.slice A0_3 l0_3.length c0_3) := (blk_cell BK405.out 3).trans rfl; have hfz61_0 := blk_frozen BK405.out 0; have hfz61_1 := blk_frozen BK405.out 1; have hfz61_2 := blk_frozen BK405.out 2; have hfz61_3 := blk_frozen BK405.out 3) | (go_at_call 93; (with_reducible refine (impl_System_times.calls a0_0 _ _ l0_1 _ _ l0_2 _ _ l0_3 0 x5_3 t414 _ ?side1 ?side2 ?side3 ?side4 ?side5 ?side6 A38.out).mono ?_); (case side1 => exact kc_ HR0_1.out HB.out); (case side2 => exact HC0_1.out); (case side3 => exact kc_ HR0_2.out HB.out); (case side4 => exact HC0_2.out); (case side5 => exact kc_ HR0_3.out HB.out); (case side6 => exact HC0_3.out); rintro e w62 ⟨rfl, hb⟩; replace BK405 := sd_ (bb_ BK405.out hb); replace HB := sd_ (below_step (bw1_ HB.out GE405.out) hb); (try clear hb); (try clear hb2); (try clear hk); (try clear hi); have hcz63_0 : w62.cell? ⟨gb405, 0, none⟩ = some (.int .i64 a0_0) := (blk_cell BK405.out 0).trans rfl; have hcz63_1 : w62.cell? ⟨gb405, 1, none⟩ = some (.slice A0_1 l0_1.length c0_1) := (blk_cell BK405.out 1).trans rfl; have hcz63_2 : w62.cell? ⟨gb405, 2, none⟩ = some (.slice A0_2 l0_2.length c0_2) := (blk_cell BK405.out 2).trans rfl; have hcz63_3 : w62.cell? ⟨gb405, 3, none⟩ = some (.slice A0_3 l0_3.length c0_3) := (blk_cell BK405.out 3).trans rfl; have hfz63_0 := blk_frozen BK405.out 0; have hfz63_1 := blk_frozen BK405.out 1; have hfz63_2 := blk_frozen BK405.out 2; have hfz63_3 := blk_frozen BK405.out 3) | (go_at_call 93; (with_reducible refine (impl_System_times.calls a0_0 _ _ l0_1 _ _ l0_2 _ _ l0_3 x5_3 0 t415 _ ?side1 ?side2 ?side3 ?side4 ?side5 ?side6 A40.out).mono ?_); (case side1 => exact kc_ HR0_1.out HB.out); (case side2 => exact HC0_1.out); (case side3 => exact kc_ HR0_2.out HB.out); (case side4 => exact HC0_2.out); (case side5 => exact kc_ HR0_3.out HB.out); (case side6 => exact HC0_3.out); rintro e w64 ⟨rfl, hb⟩; replace BK405 := sd_ (bb_ BK405.out hb); replace HB := sd_ (below_step (bw1_ HB.out GE405.out) hb); (try clear hb); (try clear hb2); (try clear hk); (try clear hi)))
                go_meet
                case rel => exact ⟨_, (true), (by first | rfl | (simp; done) | (simp [*]; done)), H', ⟨by have := HJ1.out; have := HK2.out; have := HK3.out; first | omega | exact Nat.le_refl _⟩, ⟨by (with_reducible repeat (first | refine blk_drewN ?_ _ | refine blk_drew ?_ | refine blk_alloc ?_ _)); exact BK405.out⟩, ⟨bw1_ HB.out GE405.out⟩⟩
              ·rw [if_neg c39] at H
               have c39b0 : (t414 == 0) = false := beq_eq_false_iff_ne.mpr c39
               have c39b1 : (t414 != 0) = true := bne_iff_ne.mpr c39
               have H' := sd_ H
               clear H
               have hcz65_0 : wr.cell? ⟨gb405, 0, none⟩ = some (.int .i64 a0_0) := (blk_cell BK405.out 0).trans rfl
               have hcz65_1 : wr.cell? ⟨gb405, 1, none⟩ = some (.slice A0_1 l0_1.length c0_1) := (blk_cell BK405.out 1).trans rfl
               have hcz65_2 : wr.cell? ⟨gb405, 2, none⟩ = some (.slice A0_2 l0_2.length c0_2) := (blk_cell BK405.out 2).trans rfl
               have hcz65_3 : wr.cell? ⟨gb405, 3, none⟩ = some (.slice A0_3 l0_3.length c0_3) := (blk_cell BK405.out 3).trans rfl
               have hfz65_0 := blk_frozen BK405.out 0
               have hfz65_1 := blk_frozen BK405.out 1
               have hfz65_2 := blk_frozen BK405.out 2
               have hfz65_3 := blk_frozen BK405.out 3
               go_wp2_with (first | ((with_reducible refine gate_callee (f := 92) rfl ?_); refine goesL_ (some 72) rfl rfl Try.func92 (by kernel_rfl) rfl #[.agg #[.int .i64 a0_0, .slice A0_1 l0_1.length c0_1, .slice A0_2 l0_2.length c0_2, .slice A0_3 l0_3.length c0_3], .int .i64 0, .int .i64 x5_3] rfl (by (try simp only [List.map_toArray, List.map_cons, List.map_nil]); first | done | rfl | (simp only [List.length_drop, List.length_take]; rfl)) ?_; (with_reducible refine (impl_System_plus.calls a0_0 _ _ l0_1 _ _ l0_2 _ _ l0_3 0 x5_3 t411 _ ?side1 ?side2 ?side3 ?side4 ?side5 ?side6 A32.out).mono ?_); (case side1 => exact kc_ HR0_1.out HB.out); (case side2 => exact HC0_1.out); (case side3 => exact kc_ HR0_2.out HB.out); (case side4 => exact HC0_2.out); (case side5 => exact kc_ HR0_3.out HB.out); (case side6 => exact HC0_3.out); rintro e w66 ⟨rfl, hb⟩; refine ⟨_, rfl, ?_⟩; replace BK405 := sd_ (bb_ BK405.out hb); replace HB := sd_ (below_step (bw1_ HB.out GE405.out) hb); (try clear hb); (try clear hb2); (try clear hk); (try clear hi); have hcz67_0 : w66.cell? ⟨gb405, 0, none⟩ = some (.int .i64 a0_0) := (blk_cell BK405.out 0).trans rfl; have hcz67_1 : w66.cell? ⟨gb405, 1, none⟩ = some (.slice A0_1 l0_1.length c0_1) := (blk_cell BK405.out 1).trans rfl; have hcz67_2 : w66.cell? ⟨gb405, 2, none⟩ = some (.slice A0_2 l0_2.length c0_2) := (blk_cell BK405.out 2).trans rfl; have hcz67_3 : w66.cell? ⟨gb405, 3, none⟩ = some (.slice A0_3 l0_3.length c0_3) := (blk_cell BK405.out 3).trans rfl; have hfz67_0 := blk_frozen BK405.out 0; have hfz67_1 := blk_frozen BK405.out 1; have hfz67_2 := blk_frozen BK405.out 2; have hfz67_3 := blk_frozen BK405.out 3) | (go_at_call 93; (with_reducible refine (impl_System_times.calls a0_0 _ _ l0_1 _ _ l0_2 _ _ l0_3 1 x5_3 t412 _ ?side1 ?side2 ?side3 ?side4 ?side5 ?side6 A34.out).mono ?_); (case side1 => exact kc_ HR0_1.out HB.out); (case side2 => exact HC0_1.out); (case side3 => exact kc_ HR0_2.out HB.out); (case side4 => exact HC0_2.out); (case side5 => exact kc_ HR0_3.out HB.out); (case side6 => exact HC0_3.out); rintro e w68 ⟨rfl, hb⟩; replace BK405 := sd_ (bb_ BK405.out hb); replace HB := sd_ (below_step (bw1_ HB.out GE405.out) hb); (try clear hb); (try clear hb2); (try clear hk); (try clear hi); have hcz69_0 : w68.cell? ⟨gb405, 0, none⟩ = some (.int .i64 a0_0) := (blk_cell BK405.out 0).trans rfl; have hcz69_1 : w68.cell? ⟨gb405, 1, none⟩ = some (.slice A0_1 l0_1.length c0_1) := (blk_cell BK405.out 1).trans rfl; have hcz69_2 : w68.cell? ⟨gb405, 2, none⟩ = some (.slice A0_2 l0_2.length c0_2) := (blk_cell BK405.out 2).trans rfl; have hcz69_3 : w68.cell? ⟨gb405, 3, none⟩ = some (.slice A0_3 l0_3.length c0_3) := (blk_cell BK405.out 3).trans rfl; have hfz69_0 := blk_frozen BK405.out 0; have hfz69_1 := blk_frozen BK405.out 1; have hfz69_2 := blk_frozen BK405.out 2; have hfz69_3 := blk_frozen BK405.out 3) | (go_at_call 93; (with_reducible refine (impl_System_times.calls a0_0 _ _ l0_1 _ _ l0_2 _ _ l0_3 x5_3 1 t413 _ ?side1 ?side2 ?side3 ?side4 ?side5 ?side6 A36.out).mono ?_); (case side1 => exact kc_ HR0_1.out HB.out); (case side2 => exact HC0_1.out); (case side3 => exact kc_ HR0_2.out HB.out); (case side4 => exact HC0_2.out); (case side5 => exact kc_ HR0_3.out HB.out); (case side6 => exact HC0_3.out); rintro e w70 ⟨rfl, hb⟩; replace BK405 := sd_ (bb_ BK405.out hb); replace HB := sd_ (below_step (bw1_ HB.out GE405.out) hb); (try clear hb); (try clear hb2); (try clear hk); (try clear hi); have hcz71_0 : w70.cell? ⟨gb405, 0, none⟩ = some (.int .i64 a0_0) := (blk_cell BK405.out 0).trans rfl; have hcz71_1 : w70.cell? ⟨gb405, 1, none⟩ = some (.slice A0_1 l0_1.length c0_1) := (blk_cell BK405.out 1).trans rfl; have hcz71_2 : w70.cell? ⟨gb405, 2, none⟩ = some (.slice A0_2 l0_2.length c0_2) := (blk_cell BK405.out 2).trans rfl; have hcz71_3 : w70.cell? ⟨gb405, 3, none⟩ = some (.slice A0_3 l0_3.length c0_3) := (blk_cell BK405.out 3).trans rfl; have hfz71_0 := blk_frozen BK405.out 0; have hfz71_1 := blk_frozen BK405.out 1; have hfz71_2 := blk_frozen BK405.out 2; have hfz71_3 := blk_frozen BK405.out 3) | (go_at_call 93; (with_reducible refine (impl_System_times.calls a0_0 _ _ l0_1 _ _ l0_2 _ _ l0_3 0 x5_3 t414 _ ?side1 ?side2 ?side3 ?side4 ?side5 ?side6 A38.out).mono ?_); (case side1 => exact kc_ HR0_1.out HB.out); (case side2 => exact HC0_1.out); (case side3 => exact kc_ HR0_2.out HB.out); (case side4 => exact HC0_2.out); (case side5 => exact kc_ HR0_3.out HB.out); (case side6 => exact HC0_3.out); rintro e w72 ⟨rfl, hb⟩; replace BK405 := sd_ (bb_ BK405.out hb); replace HB := sd_ (below_step (bw1_ HB.out GE405.out) hb); (try clear hb); (try clear hb2); (try clear hk); (try clear hi)))
               go_meet
               case rel => exact ⟨_, (true), (by first | rfl | (simp; done) | (simp [*]; done)), H', ⟨by have := HJ1.out; have := HK2.out; have := HK3.out; first | omega | exact Nat.le_refl _⟩, ⟨by (with_reducible repeat (first | refine blk_drewN ?_ _ | refine blk_drew ?_ | refine blk_alloc ?_ _)); exact BK405.out⟩, ⟨bw1_ HB.out GE405.out⟩⟩
             ·rw [if_neg c37] at H
              have c37b0 : (t413 == x5_3) = false := beq_eq_false_iff_ne.mpr c37
              have c37b1 : (t413 != x5_3) = true := bne_iff_ne.mpr c37
              have H' := sd_ H
              clear H
              have hcz73_0 : wr.cell? ⟨gb405, 0, none⟩ = some (.int .i64 a0_0) := (blk_cell BK405.out 0).trans rfl
              have hcz73_1 : wr.cell? ⟨gb405, 1, none⟩ = some (.slice A0_1 l0_1.length c0_1) := (blk_cell BK405.out 1).trans rfl
              have hcz73_2 : wr.cell? ⟨gb405, 2, none⟩ = some (.slice A0_2 l0_2.length c0_2) := (blk_cell BK405.out 2).trans rfl
              have hcz73_3 : wr.cell? ⟨gb405, 3, none⟩ = some (.slice A0_3 l0_3.length c0_3) := (blk_cell BK405.out 3).trans rfl
              have hfz73_0 := blk_frozen BK405.out 0
              have hfz73_1 := blk_frozen BK405.out 1
              have hfz73_2 := blk_frozen BK405.out 2
              have hfz73_3 := blk_frozen BK405.out 3
              go_wp2_with (first | ((with_reducible refine gate_callee (f := 92) rfl ?_); refine goesL_ (some 72) rfl rfl Try.func92 (by kernel_rfl) rfl #[.agg #[.int .i64 a0_0, .slice A0_1 l0_1.length c0_1, .slice A0_2 l0_2.length c0_2, .slice A0_3 l0_3.length c0_3], .int .i64 0, .int .i64 x5_3] rfl (by (try simp only [List.map_toArray, List.map_cons, List.map_nil]); first | done | rfl | (simp only [List.length_drop, List.length_take]; rfl)) ?_; (with_reducible refine (impl_System_plus.calls a0_0 _ _ l0_1 _ _ l0_2 _ _ l0_3 0 x5_3 t411 _ ?side1 ?side2 ?side3 ?side4 ?side5 ?side6 A32.out).mono ?_); (case side1 => exact kc_ HR0_1.out HB.out); (case side2 => exact HC0_1.out); (case side3 => exact kc_ HR0_2.out HB.out); (case side4 => exact HC0_2.out); (case side5 => exact kc_ HR0_3.out HB.out); (case side6 => exact HC0_3.out); rintro e w74 ⟨rfl, hb⟩; refine ⟨_, rfl, ?_⟩; replace BK405 := sd_ (bb_ BK405.out hb); replace HB := sd_ (below_step (bw1_ HB.out GE405.out) hb); (try clear hb); (try clear hb2); (try clear hk); (try clear hi); have hcz75_0 : w74.cell? ⟨gb405, 0, none⟩ = some (.int .i64 a0_0) := (blk_cell BK405.out 0).trans rfl; have hcz75_1 : w74.cell? ⟨gb405, 1, none⟩ = some (.slice A0_1 l0_1.length c0_1) := (blk_cell BK405.out 1).trans rfl; have hcz75_2 : w74.cell? ⟨gb405, 2, none⟩ = some (.slice A0_2 l0_2.length c0_2) := (blk_cell BK405.out 2).trans rfl; have hcz75_3 : w74.cell? ⟨gb405, 3, none⟩ = some (.slice A0_3 l0_3.length c0_3) := (blk_cell BK405.out 3).trans rfl; have hfz75_0 := blk_frozen BK405.out 0; have hfz75_1 := blk_frozen BK405.out 1; have hfz75_2 := blk_frozen BK405.out 2; have hfz75_3 := blk_frozen BK405.out 3) | (go_at_call 93; (with_reducible refine (impl_System_times.calls a0_0 _ _ l0_1 _ _ l0_2 _ _ l0_3 1 x5_3 t412 _ ?side1 ?side2 ?side3 ?side4 ?side5 ?side6 A34.out).mono ?_); (case side1 => exact kc_ HR0_1.out HB.out); (case side2 => exact HC0_1.out); (case side3 => exact kc_ HR0_2.out HB.out); (case side4 => exact HC0_2.out); (case side5 => exact kc_ HR0_3.out HB.out); (case side6 => exact HC0_3.out); rintro e w76 ⟨rfl, hb⟩; replace BK405 := sd_ (bb_ BK405.out hb); replace HB := sd_ (below_step (bw1_ HB.out GE405.out) hb); (try clear hb); (try clear hb2); (try clear hk); (try clear hi); have hcz77_0 : w76.cell? ⟨gb405, 0, none⟩ = some (.int .i64 a0_0) := (blk_cell BK405.out 0).trans rfl; have hcz77_1 : w76.cell? ⟨gb405, 1, none⟩ = some (.slice A0_1 l0_1.length c0_1) := (blk_cell BK405.out 1).trans rfl; have hcz77_2 : w76.cell? ⟨gb405, 2, none⟩ = some (.slice A0_2 l0_2.length c0_2) := (blk_cell BK405.out 2).trans rfl; have hcz77_3 : w76.cell? ⟨gb405, 3, none⟩ = some (.slice A0_3 l0_3.length c0_3) := (blk_cell BK405.out 3).trans rfl; have hfz77_0 := blk_frozen BK405.out 0; have hfz77_1 := blk_frozen BK405.out 1; have hfz77_2 := blk_frozen BK405.out 2; have hfz77_3 := blk_frozen BK405.out 3) | (go_at_call 93; (with_reducible refine (impl_System_times.calls a0_0 _ _ l0_1 _ _ l0_2 _ _ l0_3 x5_3 1 t413 _ ?side1 ?side2 ?side3 ?side4 ?side5 ?side6 A36.out).mono ?_); (case side1 => exact kc_ HR0_1.out HB.out); (case side2 => exact HC0_1.out); (case side3 => exact kc_ HR0_2.out HB.out); (case side4 => exact HC0_2.out); (case side5 => exact kc_ HR0_3.out HB.out); (case side6 => exact HC0_3.out); rintro e w78 ⟨rfl, hb⟩; replace BK405 := sd_ (bb_ BK405.out hb); replace HB := sd_ (below_step (bw1_ HB.out GE405.out) hb); (try clear hb); (try clear hb2); (try clear hk); (try clear hi)))
              go_meet
              case rel => exact ⟨_, (true), (by first | rfl | (simp; done) | (simp [*]; done)), H', ⟨by have := HJ1.out; have := HK2.out; have := HK3.out; first | omega | exact Nat.le_refl _⟩, ⟨by (with_reducible repeat (first | refine blk_drewN ?_ _ | refine blk_drew ?_ | refine blk_alloc ?_ _)); exact BK405.out⟩, ⟨bw1_ HB.out GE405.out⟩⟩
            ·rw [if_neg c35] at H
             have c35b0 : (t412 == x5_3) = false := beq_eq_false_iff_ne.mpr c35
             have c35b1 : (t412 != x5_3) = true := bne_iff_ne.mpr c35
             have H' := sd_ H
             clear H
             have hcz79_0 : wr.cell? ⟨gb405, 0, none⟩ = some (.int .i64 a0_0) := (blk_cell BK405.out 0).trans rfl
             have hcz79_1 : wr.cell? ⟨gb405, 1, none⟩ = some (.slice A0_1 l0_1.length c0_1) := (blk_cell BK405.out 1).trans rfl
             have hcz79_2 : wr.cell? ⟨gb405, 2, none⟩ = some (.slice A0_2 l0_2.length c0_2) := (blk_cell BK405.out 2).trans rfl
             have hcz79_3 : wr.cell? ⟨gb405, 3, none⟩ = some (.slice A0_3 l0_3.length c0_3) := (blk_cell BK405.out 3).trans rfl
             have hfz79_0 := blk_frozen BK405.out 0
             have hfz79_1 := blk_frozen BK405.out 1
             have hfz79_2 := blk_frozen BK405.out 2
             have hfz79_3 := blk_frozen BK405.out 3
             go_wp2_with (first | ((with_reducible refine gate_callee (f := 92) rfl ?_); refine goesL_ (some 72) rfl rfl Try.func92 (by kernel_rfl) rfl #[.agg #[.int .i64 a0_0, .slice A0_1 l0_1.length c0_1, .slice A0_2 l0_2.length c0_2, .slice A0_3 l0_3.length c0_3], .int .i64 0, .int .i64 x5_3] rfl (by (try simp only [List.map_toArray, List.map_cons, List.map_nil]); first | done | rfl | (simp only [List.length_drop, List.length_take]; rfl)) ?_; (with_reducible refine (impl_System_plus.calls a0_0 _ _ l0_1 _ _ l0_2 _ _ l0_3 0 x5_3 t411 _ ?side1 ?side2 ?side3 ?side4 ?side5 ?side6 A32.out).mono ?_); (case side1 => exact kc_ HR0_1.out HB.out); (case side2 => exact HC0_1.out); (case side3 => exact kc_ HR0_2.out HB.out); (case side4 => exact HC0_2.out); (case side5 => exact kc_ HR0_3.out HB.out); (case side6 => exact HC0_3.out); rintro e w80 ⟨rfl, hb⟩; refine ⟨_, rfl, ?_⟩; replace BK405 := sd_ (bb_ BK405.out hb); replace HB := sd_ (below_step (bw1_ HB.out GE405.out) hb); (try clear hb); (try clear hb2); (try clear hk); (try clear hi); have hcz81_0 : w80.cell? ⟨gb405, 0, none⟩ = some (.int .i64 a0_0) := (blk_cell BK405.out 0).trans rfl; have hcz81_1 : w80.cell? ⟨gb405, 1, none⟩ = some (.slice A0_1 l0_1.length c0_1) := (blk_cell BK405.out 1).trans rfl; have hcz81_2 : w80.cell? ⟨gb405, 2, none⟩ = some (.slice A0_2 l0_2.length c0_2) := (blk_cell BK405.out 2).trans rfl; have hcz81_3 : w80.cell? ⟨gb405, 3, none⟩ = some (.slice A0_3 l0_3.length c0_3) := (blk_cell BK405.out 3).trans rfl; have hfz81_0 := blk_frozen BK405.out 0; have hfz81_1 := blk_frozen BK405.out 1; have hfz81_2 := blk_frozen BK405.out 2; have hfz81_3 := blk_frozen BK405.out 3) | (go_at_call 93; (with_reducible refine (impl_System_times.calls a0_0 _ _ l0_1 _ _ l0_2 _ _ l0_3 1 x5_3 t412 _ ?side1 ?side2 ?side3 ?side4 ?side5 ?side6 A34.out).mono ?_); (case side1 => exact kc_ HR0_1.out HB.out); (case side2 => exact HC0_1.out); (case side3 => exact kc_ HR0_2.out HB.out); (case side4 => exact HC0_2.out); (case side5 => exact kc_ HR0_3.out HB.out); (case side6 => exact HC0_3.out); rintro e w82 ⟨rfl, hb⟩; replace BK405 := sd_ (bb_ BK405.out hb); replace HB := sd_ (below_step (bw1_ HB.out GE405.out) hb); (try clear hb); (try clear hb2); (try clear hk); (try clear hi)))
             go_meet
             case rel => exact ⟨_, (true), (by first | rfl | (simp; done) | (simp [*]; done)), H', ⟨by have := HJ1.out; have := HK2.out; have := HK3.out; first | omega | exact Nat.le_refl _⟩, ⟨by (with_reducible repeat (first | refine blk_drewN ?_ _ | refine blk_drew ?_ | refine blk_alloc ?_ _)); exact BK405.out⟩, ⟨bw1_ HB.out GE405.out⟩⟩
           ·rw [if_neg c33] at H
            have c33b0 : (t411 == x5_3) = false := beq_eq_false_iff_ne.mpr c33
            have c33b1 : (t411 != x5_3) = true := bne_iff_ne.mpr c33
            (first | rw [c33b0] | (simp only [i64_w, i32_w]; rw [c33b0]) | skip)
            have H' := sd_ H
            clear H
            have hcz83_0 : wr.cell? ⟨gb405, 0, none⟩ = some (.int .i64 a0_0) := (blk_cell BK405.out 0).trans rfl
            have hcz83_1 : wr.cell? ⟨gb405, 1, none⟩ = some (.slice A0_1 l0_1.length c0_1) := (blk_cell BK405.out 1).trans rfl
            have hcz83_2 : wr.cell? ⟨gb405, 2, none⟩ = some (.slice A0_2 l0_2.length c0_2) := (blk_cell BK405.out 2).trans rfl
            have hcz83_3 : wr.cell? ⟨gb405, 3, none⟩ = some (.slice A0_3 l0_3.length c0_3) := (blk_cell BK405.out 3).trans rfl
            have hfz83_0 := blk_frozen BK405.out 0
            have hfz83_1 := blk_frozen BK405.out 1
            have hfz83_2 := blk_frozen BK405.out 2
            have hfz83_3 := blk_frozen BK405.out 3
            go_wp2_with (first | ((with_reducible refine gate_callee (f := 92) rfl ?_); refine goesL_ (some 72) rfl rfl Try.func92 (by kernel_rfl) rfl #[.agg #[.int .i64 a0_0, .slice A0_1 l0_1.length c0_1, .slice A0_2 l0_2.length c0_2, .slice A0_3 l0_3.length c0_3], .int .i64 0, .int .i64 x5_3] rfl (by (try simp only [List.map_toArray, List.map_cons, List.map_nil]); first | done | rfl | (simp only [List.length_drop, List.length_take]; rfl)) ?_; (with_reducible refine (impl_System_plus.calls a0_0 _ _ l0_1 _ _ l0_2 _ _ l0_3 0 x5_3 t411 _ ?side1 ?side2 ?side3 ?side4 ?side5 ?side6 A32.out).mono ?_); (case side1 => exact kc_ HR0_1.out HB.out); (case side2 => exact HC0_1.out); (case side3 => exact kc_ HR0_2.out HB.out); (case side4 => exact HC0_2.out); (case side5 => exact kc_ HR0_3.out HB.out); (case side6 => exact HC0_3.out); rintro e w84 ⟨rfl, hb⟩; refine ⟨_, rfl, ?_⟩; replace BK405 := sd_ (bb_ BK405.out hb); replace HB := sd_ (below_step (bw1_ HB.out GE405.out) hb); (try clear hb); (try clear hb2); (try clear hk); (try clear hi)))
            go_meet
            case rel => exact ⟨_, (true), (by first | rfl | (simp; done) | (simp [*]; done)), H', ⟨by have := HJ1.out; have := HK2.out; have := HK3.out; first | omega | exact Nat.le_refl _⟩, ⟨by (with_reducible repeat (first | refine blk_drewN ?_ _ | refine blk_drew ?_ | refine blk_alloc ?_ _)); exact BK405.out⟩, ⟨bw1_ HB.out GE405.out⟩⟩
          case rest =>
           clear HC31
           try clear c1
           try clear p2
           try clear c3
           try clear c6
           try clear p6
           try clear c12
           try clear c14
           try clear c14b0
           try clear c30
           try clear c30b0
           try clear c64
           try clear p64
           try clear hcz13_0
           try clear hcz13_1
           try clear hcz13_2
           try clear hcz13_3
           try clear hcz4_0
           try clear hcz4_1
           try clear hcz4_2
           try clear hcz4_3
           try clear hfz13_0
           try clear hfz13_1
           try clear hfz13_2
           try clear hfz13_3
           try clear hfz4_0
           try clear hfz4_1
           try clear hfz4_2
           try clear hfz4_3
           try clear p2
           try clear p6
           obtain ⟨kq, x107_30, rfl, HA, HJ30, BK405, HB⟩ := hcut
           cases kq with
           | zero => exact absurd HA.out (by simp [impl_IsSystem.j3])
           | succ kj30 =>
            have H := HA.out
            clear HA
            simp only [impl_IsSystem.j3] at H
            by_cases c85 : x107_30 = true
            ·subst c85
             have H1 : (some false) = some r := by rw [if_pos rfl] at H; exact H
             clear H
             have H := H1
             clear H1
             obtain rfl := Option.some.inj H
             go_wp2
             go_ret
             exact ⟨an_, bw1_ HB.out GE405.out⟩
            ·replace c85 := Bool.eq_false_iff.mpr c85
             subst c85
             have H1 : (impl_IsSystem.l2 kj30 a0_0 x5_3 0 a0_0 l0_1 l0_2 l0_3) = some r := by rw [if_neg (show ¬ (false = true) by decide)] at H; exact H
             clear H
             have H := H1
             clear H1
             have H' := sd_ H
             clear H
             go_wp2
             go_loopg [6] kj30 (fun kq v6 w' => ∃ (x6_5 : Int), v6 = .int .i64 x6_5 ∧ Aside0 (impl_IsSystem.l2 kq a0_0 x5_3 x6_5 a0_0 l0_1 l0_2 l0_3 = some r) ∧ Aside0 (kq ≤ kj30) ∧ Aside0 (w'.heap[gb405]? = some (.cells #[.int .i64 a0_0, (.slice A0_1 l0_1.length c0_1), (.slice A0_2 l0_2.length c0_2), (.slice A0_3 l0_3.length c0_3)] 37 (0, 0))) ∧ Aside0 (Below w.heap.size w w'))
             case atStart => exact ⟨(0), (by first | rfl | (simp; done) | (simp [*]; done)), H', ⟨Nat.le_refl _⟩, ⟨by (with_reducible repeat (first | refine blk_drewN ?_ _ | refine blk_drew ?_ | refine blk_alloc ?_ _)); exact BK405.out⟩, ⟨bw1_ HB.out GE405.out⟩⟩
             case round =>
              clear H'
              try clear c1
              try clear p2
              try clear c3
              try clear c6
              try clear p6
              try clear c8
              try clear c12
              try clear c14
              try clear c14b0
              try clear c30
              try clear c30b0
              try clear c64
              try clear p64
              try clear c85
              try clear hcz13_0
              try clear hcz13_1
              try clear hcz13_2
              try clear hcz13_3
              try clear hcz4_0
              try clear hcz4_1
              try clear hcz4_2
              try clear hcz4_3
              try clear hfz13_0
              try clear hfz13_1
              try clear hfz13_2
              try clear hfz13_3
              try clear hfz4_0
              try clear hfz4_1
              try clear hfz4_2
              try clear hfz4_3
              try clear p2
              try clear p6
              try clear p64
              obtain ⟨x6_5, rfl, HA, HK5, BK405, HB⟩ := hrel
              cases gk with
              | zero => exact absurd HA.out (by simp [impl_IsSystem.l2])
              | succ k5 =>
               have H := HA.out
               clear HA
               simp only [impl_IsSystem.l2] at H
               by_cases c86 : x6_5 < a0_0
               ·rw [if_pos c86] at H
                have c86b0 : decide (x6_5 < a0_0) = true := decide_eq_true c86
                clear c86
                have HC87 := sd_ H
                clear H
                go_upto_region 18 with (fail)
                go_cut [145] (fun v145 wc => ∃ (kq : Nat) (x145_86 : Bool), v145 = .bool x145_86 ∧ Aside0 (impl_IsSystem.j5 kq a0_0 x5_3 x6_5 x145_86 a0_0 l0_1 l0_2 l0_3 = some r) ∧ Aside0 (kq ≤ k5) ∧ Aside0 (wc.heap[gb405]? = some (.cells #[.int .i64 a0_0, (.slice A0_1 l0_1.length c0_1), (.slice A0_2 l0_2.length c0_2), (.slice A0_3 l0_3.length c0_3)] 37 (0, 0))) ∧ Aside0 (Below w.heap.size w wc))
                case first =>
                 have H := HC87.out
                 clear HC87
                 replace H := Option.bind_eq_some_iff.mp H
                 obtain ⟨t417, A880, H⟩ := H
                 try dsimp only at H
                 have A88 := sd_ A880
                 clear A880
                 replace H := Option.bind_eq_some_iff.mp H
                 obtain ⟨t418, A890, H⟩ := H
                 try dsimp only at H
                 have A89 := sd_ A890
                 clear A890
                 by_cases c90 : t417 = t418
                 ·rw [if_pos c90] at H
                  have c90b0 : (t417 == t418) = true := beq_iff_eq.mpr c90
                  have c90b1 : (t417 != t418) = false := bne_eq_false_iff_eq.mpr c90
                  clear c90
                  (first | rw [c90b0] | (simp only [i64_w, i32_w]; rw [c90b0]) | skip)
                  by_cases c91 : x5_3 = x6_5
                  ·rw [if_pos c91] at H
                   have c91b0 : (x5_3 == x6_5) = true := beq_iff_eq.mpr c91
                   have c91b1 : (x5_3 != x6_5) = false := bne_eq_false_iff_eq.mpr c91
                   clear c91
                   replace H := Option.bind_eq_some_iff.mp H
                   obtain ⟨t419, A920, H⟩ := H
                   try dsimp only at H
                   have A92 := sd_ A920
                   clear A920
                   have H' := sd_ H
                   clear H
                   try go_wp2
                   refine qb_region (by kernel_rfl) (by kernel_rfl) ?_
                   have HQ := fun (wq : World) (hq : Below wr.heap.size wr wq) => below_step HB.out hq
                   repeat ((first | (apply qb_skip; (focus rfl)) | (refine qb_callN 116 rfl ?_; apply qb_call 116 rfl Try.func92 (by kernel_rfl) rfl rfl; (focus rfl); (focus (exact fun wq9 hb9 => qb_b hb9 (impl_System_plus.calls a0_0 _ _ l0_1 _ _ l0_2 _ _ l0_3 x5_3 x6_5 t417 _ (Kd.C_below HR0_1.out (HQ _ hb9)) HC0_1.out (Kd.C_below HR0_2.out (HQ _ hb9)) HC0_2.out (Kd.C_below HR0_3.out (HQ _ hb9)) HC0_3.out A88.out))); (focus (rfl))) | (refine qb_callN 120 rfl ?_; apply qb_call 120 rfl Try.func92 (by kernel_rfl) rfl rfl; (focus rfl); (focus (exact fun wq9 hb9 => qb_b hb9 (impl_System_plus.calls a0_0 _ _ l0_1 _ _ l0_2 _ _ l0_3 x6_5 x5_3 t418 _ (Kd.C_below HR0_1.out (HQ _ hb9)) HC0_1.out (Kd.C_below HR0_2.out (HQ _ hb9)) HC0_2.out (Kd.C_below HR0_3.out (HQ _ hb9)) HC0_3.out A89.out))); (focus (rfl))) | (refine qb_callN 143 rfl ?_; apply qb_call 143 rfl Try.func95 (by kernel_rfl) rfl rfl; (focus rfl); (focus (exact fun wq9 hb9 => qb_b hb9 (impl_System_join.calls k5 a0_0 _ _ l0_1 _ _ l0_2 _ _ l0_3 x5_3 x6_5 t419 _ (Kd.C_below HR0_1.out (HQ _ hb9)) HC0_1.out (Kd.C_below HR0_2.out (HQ _ hb9)) HC0_2.out (Kd.C_below HR0_3.out (HQ _ hb9)) HC0_3.out A92.out))); (focus (rfl))) | (apply qb_val; (focus rfl); (focus (intro wq9 _; go_simp; with_reducible rfl))) | (apply qb_val; (focus rfl); (focus (intro wq9 hb9_; have hb9 : Below wr.heap.size wr wq9 := hb9_; have BK405 := sd_ (blk_below BK405.out hb9); have hc9_405_0 : wq9.cell? ⟨gb405, 0, none⟩ = some (.int .i64 a0_0) := (blk_cell BK405.out 0).trans rfl; have hc9_405_1 : wq9.cell? ⟨gb405, 1, none⟩ = some (.slice A0_1 l0_1.length c0_1) := (blk_cell BK405.out 1).trans rfl; have hc9_405_2 : wq9.cell? ⟨gb405, 2, none⟩ = some (.slice A0_2 l0_2.length c0_2) := (blk_cell BK405.out 2).trans rfl; have hc9_405_3 : wq9.cell? ⟨gb405, 3, none⟩ = some (.slice A0_3 l0_3.length c0_3) := (blk_cell BK405.out 3).trans rfl; go_simp; with_reducible rfl)))); (focus (simp only [Act.put, List.setIfInBounds_toArray, List.set_cons_zero, List.set_cons_succ, i64_w, i32_w]; rfl)))
                   refine qb_nil ?_
                   intro w96 hb
                   replace BK405 := sd_ (blk_below BK405.out hb)
                   replace HB := sd_ (below_step HB.out hb)
                   clear hb
                   (try clear HQ)
                   try go_wp2
                   go_meet
                   case rel => exact ⟨_, (decide (t419 < 0)), (by first | rfl | (simp; done) | (simp [*]; done)), H', ⟨by have := HJ1.out; have := HK2.out; have := HK3.out; have := HJ30.out; have := HK5.out; first | omega | exact Nat.le_refl _⟩, ⟨by (with_reducible repeat (first | refine blk_drewN ?_ _ | refine blk_drew ?_ | refine blk_alloc ?_ _)); exact BK405.out⟩, ⟨bw1_ HB.out GE405.out⟩⟩
                  ·rw [if_neg c91] at H
                   have c91b0 : (x5_3 == x6_5) = false := beq_eq_false_iff_ne.mpr c91
                   have c91b1 : (x5_3 != x6_5) = true := bne_iff_ne.mpr c91
                   replace H := Option.bind_eq_some_iff.mp H
                   obtain ⟨t420, A970, H⟩ := H
                   try dsimp only at H
                   have A97 := sd_ A970
                   clear A970
                   by_cases c98 : t420 = true
                   ·subst c98
                    have H1 : ((impl_System_below.f a0_0 l0_1 l0_2 l0_3 x6_5 x5_3).bind fun t421 => (if t421 = true then (impl_IsSystem.j5 k5 a0_0 x5_3 x6_5 true a0_0 l0_1 l0_2 l0_3) else ((impl_System_join.f k5 a0_0 l0_1 l0_2 l0_3 x5_3 x6_5).bind fun t422 => (impl_IsSystem.j5 k5 a0_0 x5_3 x6_5 (decide (t422 < 0)) a0_0 l0_1 l0_2 l0_3)))) = some r := by rw [if_pos rfl] at H; exact H
                    clear H
                    have H := H1
                    clear H1
                    replace H := Option.bind_eq_some_iff.mp H
                    obtain ⟨t421, A990, H⟩ := H
                    try dsimp only at H
                    have A99 := sd_ A990
                    clear A990
                    by_cases c100 : t421 = true
                    ·subst c100
                     have H1 : (impl_IsSystem.j5 k5 a0_0 x5_3 x6_5 true a0_0 l0_1 l0_2 l0_3) = some r := by rw [if_pos rfl] at H; exact H
                     clear H
                     have H := H1
                     clear H1
                     have H' := sd_ H
                     clear H
                     try go_wp2
                     refine qb_region (by kernel_rfl) (by kernel_rfl) ?_
                     have HQ := fun (wq : World) (hq : Below wr.heap.size wr wq) => below_step HB.out hq
                     repeat ((first | (apply qb_skip; (focus rfl)) | (refine qb_callN 116 rfl ?_; apply qb_call 116 rfl Try.func92 (by kernel_rfl) rfl rfl; (focus rfl); (focus (exact fun wq9 hb9 => qb_b hb9 (impl_System_plus.calls a0_0 _ _ l0_1 _ _ l0_2 _ _ l0_3 x5_3 x6_5 t417 _ (Kd.C_below HR0_1.out (HQ _ hb9)) HC0_1.out (Kd.C_below HR0_2.out (HQ _ hb9)) HC0_2.out (Kd.C_below HR0_3.out (HQ _ hb9)) HC0_3.out A88.out))); (focus (rfl))) | (refine qb_callN 120 rfl ?_; apply qb_call 120 rfl Try.func92 (by kernel_rfl) rfl rfl; (focus rfl); (focus (exact fun wq9 hb9 => qb_b hb9 (impl_System_plus.calls a0_0 _ _ l0_1 _ _ l0_2 _ _ l0_3 x6_5 x5_3 t418 _ (Kd.C_below HR0_1.out (HQ _ hb9)) HC0_1.out (Kd.C_below HR0_2.out (HQ _ hb9)) HC0_2.out (Kd.C_below HR0_3.out (HQ _ hb9)) HC0_3.out A89.out))); (focus (rfl))) | (refine qb_callN 130 rfl ?_; apply qb_call 130 rfl Try.func94 (by kernel_rfl) rfl rfl; (focus rfl); (focus (exact fun wq9 hb9 => qb_b hb9 (impl_System_below.calls a0_0 _ _ l0_1 _ _ l0_2 _ _ l0_3 x5_3 x6_5 true _ (Kd.C_below HR0_1.out (HQ _ hb9)) HC0_1.out (Kd.C_below HR0_2.out (HQ _ hb9)) HC0_2.out (Kd.C_below HR0_3.out (HQ _ hb9)) HC0_3.out A97.out))); (focus (rfl))) | (refine qb_callN 136 rfl ?_; apply qb_call 136 rfl Try.func94 (by kernel_rfl) rfl rfl; (focus rfl); (focus (exact fun wq9 hb9 => qb_b hb9 (impl_System_below.calls a0_0 _ _ l0_1 _ _ l0_2 _ _ l0_3 x6_5 x5_3 true _ (Kd.C_below HR0_1.out (HQ _ hb9)) HC0_1.out (Kd.C_below HR0_2.out (HQ _ hb9)) HC0_2.out (Kd.C_below HR0_3.out (HQ _ hb9)) HC0_3.out A99.out))); (focus (rfl))) | (apply qb_val; (focus rfl); (focus (intro wq9 _; go_simp; with_reducible rfl))) | (apply qb_val; (focus rfl); (focus (intro wq9 hb9_; have hb9 : Below wr.heap.size wr wq9 := hb9_; have BK405 := sd_ (blk_below BK405.out hb9); have hc9_405_0 : wq9.cell? ⟨gb405, 0, none⟩ = some (.int .i64 a0_0) := (blk_cell BK405.out 0).trans rfl; have hc9_405_1 : wq9.cell? ⟨gb405, 1, none⟩ = some (.slice A0_1 l0_1.length c0_1) := (blk_cell BK405.out 1).trans rfl; have hc9_405_2 : wq9.cell? ⟨gb405, 2, none⟩ = some (.slice A0_2 l0_2.length c0_2) := (blk_cell BK405.out 2).trans rfl; have hc9_405_3 : wq9.cell? ⟨gb405, 3, none⟩ = some (.slice A0_3 l0_3.length c0_3) := (blk_cell BK405.out 3).trans rfl; go_simp; with_reducible rfl)))); (focus (simp only [Act.put, List.setIfInBounds_toArray, List.set_cons_zero, List.set_cons_succ, i64_w, i32_w]; rfl)))
                     refine qb_nil ?_
                     intro w105 hb
                     replace BK405 := sd_ (blk_below BK405.out hb)
                     replace HB := sd_ (below_step HB.out hb)
                     clear hb
                     (try clear HQ)
                     try go_wp2
                     go_meet
                     case rel => exact ⟨_, (true), (by first | rfl | (simp; done) | (simp [*]; done)), H', ⟨by have := HJ1.out; have := HK2.out; have := HK3.out; have := HJ30.out; have := HK5.out; first | omega | exact Nat.le_refl _⟩, ⟨by (with_reducible repeat (first | refine blk_drewN ?_ _ | refine blk_drew ?_ | refine blk_alloc ?_ _)); exact BK405.out⟩, ⟨bw1_ HB.out GE405.out⟩⟩
                    ·replace c100 := Bool.eq_false_iff.mpr c100
                     subst c100
                     have H1 : ((impl_System_join.f k5 a0_0 l0_1 l0_2 l0_3 x5_3 x6_5).bind fun t422 => (impl_IsSystem.j5 k5 a0_0 x5_3 x6_5 (decide (t422 < 0)) a0_0 l0_1 l0_2 l0_3)) = some r := by rw [if_neg (show ¬ (false = true) by decide)] at H; exact H
                     clear H
                     have H := H1
                     clear H1
                     replace H := Option.bind_eq_some_iff.mp H
                     obtain ⟨t422, A1060, H⟩ := H
                     try dsimp only at H
                     have A106 := sd_ A1060
                     clear A1060
                     have H' := sd_ H
                     clear H
                     try go_wp2
                     refine qb_region (by kernel_rfl) (by kernel_rfl) ?_
                     have HQ := fun (wq : World) (hq : Below wr.heap.size wr wq) => below_step HB.out hq
                     repeat ((first | (apply qb_skip; (focus rfl)) | (refine qb_callN 116 rfl ?_; apply qb_call 116 rfl Try.func92 (by kernel_rfl) rfl rfl; (focus rfl); (focus (exact fun wq9 hb9 => qb_b hb9 (impl_System_plus.calls a0_0 _ _ l0_1 _ _ l0_2 _ _ l0_3 x5_3 x6_5 t417 _ (Kd.C_below HR0_1.out (HQ _ hb9)) HC0_1.out (Kd.C_below HR0_2.out (HQ _ hb9)) HC0_2.out (Kd.C_below HR0_3.out (HQ _ hb9)) HC0_3.out A88.out))); (focus (rfl))) | (refine qb_callN 120 rfl ?_; apply qb_call 120 rfl Try.func92 (by kernel_rfl) rfl rfl; (focus rfl); (focus (exact fun wq9 hb9 => qb_b hb9 (impl_System_plus.calls a0_0 _ _ l0_1 _ _ l0_2 _ _ l0_3 x6_5 x5_3 t418 _ (Kd.C_below HR0_1.out (HQ _ hb9)) HC0_1.out (Kd.C_below HR0_2.out (HQ _ hb9)) HC0_2.out (Kd.C_below HR0_3.out (HQ _ hb9)) HC0_3.out A89.out))); (focus (rfl))) | (refine qb_callN 130 rfl ?_; apply qb_call 130 rfl Try.func94 (by kernel_rfl) rfl rfl; (focus rfl); (focus (exact fun wq9 hb9 => qb_b hb9 (impl_System_below.calls a0_0 _ _ l0_1 _ _ l0_2 _ _ l0_3 x5_3 x6_5 true _ (Kd.C_below HR0_1.out (HQ _ hb9)) HC0_1.out (Kd.C_below HR0_2.out (HQ _ hb9)) HC0_2.out (Kd.C_below HR0_3.out (HQ _ hb9)) HC0_3.out A97.out))); (focus (rfl))) | (refine qb_callN 136 rfl ?_; apply qb_call 136 rfl Try.func94 (by kernel_rfl) rfl rfl; (focus rfl); (focus (exact fun wq9 hb9 => qb_b hb9 (impl_System_below.calls a0_0 _ _ l0_1 _ _ l0_2 _ _ l0_3 x6_5 x5_3 false _ (Kd.C_below HR0_1.out (HQ _ hb9)) HC0_1.out (Kd.C_below HR0_2.out (HQ _ hb9)) HC0_2.out (Kd.C_below HR0_3.out (HQ _ hb9)) HC0_3.out A99.out))); (focus (rfl))) | (refine qb_callN 143 rfl ?_; apply qb_call 143 rfl Try.func95 (by kernel_rfl) rfl rfl; (focus rfl); (focus (exact fun wq9 hb9 => qb_b hb9 (impl_System_join.calls k5 a0_0 _ _ l0_1 _ _ l0_2 _ _ l0_3 x5_3 x6_5 t422 _ (Kd.C_below HR0_1.out (HQ _ hb9)) HC0_1.out (Kd.C_below HR0_2.out (HQ _ hb9)) HC0_2.out (Kd.C_below HR0_3.out (HQ _ hb9)) HC0_3.out A106.out))); (focus (rfl))) | (apply qb_val; (focus rfl); (focus (intro wq9 _; go_simp; with_reducible rfl))) | (apply qb_val; (focus rfl); (focus (intro wq9 hb9_; have hb9 : Below wr.heap.size wr wq9 := hb9_; have BK405 := sd_ (blk_below BK405.out hb9); have hc9_405_0 : wq9.cell? ⟨gb405, 0, none⟩ = some (.int .i64 a0_0) := (blk_cell BK405.out 0).trans rfl; have hc9_405_1 : wq9.cell? ⟨gb405, 1, none⟩ = some (.slice A0_1 l0_1.length c0_1) := (blk_cell BK405.out 1).trans rfl; have hc9_405_2 : wq9.cell? ⟨gb405, 2, none⟩ = some (.slice A0_2 l0_2.length c0_2) := (blk_cell BK405.out 2).trans rfl; have hc9_405_3 : wq9.cell? ⟨gb405, 3, none⟩ = some (.slice A0_3 l0_3.length c0_3) := (blk_cell BK405.out 3).trans rfl; go_simp; with_reducible rfl)))); (focus (simp only [Act.put, List.setIfInBounds_toArray, List.set_cons_zero, List.set_cons_succ, i64_w, i32_w]; rfl)))
                     refine qb_nil ?_
                     intro w112 hb
                     replace BK405 := sd_ (blk_below BK405.out hb)
                     replace HB := sd_ (below_step HB.out hb)
                     clear hb
                     (try clear HQ)
                     try go_wp2
                     go_meet
                     case rel => exact ⟨_, (decide (t422 < 0)), (by first | rfl | (simp; done) | (simp [*]; done)), H', ⟨by have := HJ1.out; have := HK2.out; have := HK3.out; have := HJ30.out; have := HK5.out; first | omega | exact Nat.le_refl _⟩, ⟨by (with_reducible repeat (first | refine blk_drewN ?_ _ | refine blk_drew ?_ | refine blk_alloc ?_ _)); exact BK405.out⟩, ⟨bw1_ HB.out GE405.out⟩⟩
                   ·replace c98 := Bool.eq_false_iff.mpr c98
                    subst c98
                    have H1 : ((impl_System_join.f k5 a0_0 l0_1 l0_2 l0_3 x5_3 x6_5).bind fun t423 => (impl_IsSystem.j5 k5 a0_0 x5_3 x6_5 (decide (t423 < 0)) a0_0 l0_1 l0_2 l0_3)) = some r := by rw [if_neg (show ¬ (false = true) by decide)] at H; exact H
                    clear H
                    have H := H1
                    clear H1
                    replace H := Option.bind_eq_some_iff.mp H
                    obtain ⟨t423, A1130, H⟩ := H
                    try dsimp only at H
                    have A113 := sd_ A1130
                    clear A1130
                    have H' := sd_ H
                    clear H
                    try go_wp2
                    refine qb_region (by kernel_rfl) (by kernel_rfl) ?_
                    have HQ := fun (wq : World) (hq : Below wr.heap.size wr wq) => below_step HB.out hq
                    repeat ((first | (apply qb_skip; (focus rfl)) | (refine qb_callN 116 rfl ?_; apply qb_call 116 rfl Try.func92 (by kernel_rfl) rfl rfl; (focus rfl); (focus (exact fun wq9 hb9 => qb_b hb9 (impl_System_plus.calls a0_0 _ _ l0_1 _ _ l0_2 _ _ l0_3 x5_3 x6_5 t417 _ (Kd.C_below HR0_1.out (HQ _ hb9)) HC0_1.out (Kd.C_below HR0_2.out (HQ _ hb9)) HC0_2.out (Kd.C_below HR0_3.out (HQ _ hb9)) HC0_3.out A88.out))); (focus (rfl))) | (refine qb_callN 120 rfl ?_; apply qb_call 120 rfl Try.func92 (by kernel_rfl) rfl rfl; (focus rfl); (focus (exact fun wq9 hb9 => qb_b hb9 (impl_System_plus.calls a0_0 _ _ l0_1 _ _ l0_2 _ _ l0_3 x6_5 x5_3 t418 _ (Kd.C_below HR0_1.out (HQ _ hb9)) HC0_1.out (Kd.C_below HR0_2.out (HQ _ hb9)) HC0_2.out (Kd.C_below HR0_3.out (HQ _ hb9)) HC0_3.out A89.out))); (focus (rfl))) | (refine qb_callN 130 rfl ?_; apply qb_call 130 rfl Try.func94 (by kernel_rfl) rfl rfl; (focus rfl); (focus (exact fun wq9 hb9 => qb_b hb9 (impl_System_below.calls a0_0 _ _ l0_1 _ _ l0_2 _ _ l0_3 x5_3 x6_5 false _ (Kd.C_below HR0_1.out (HQ _ hb9)) HC0_1.out (Kd.C_below HR0_2.out (HQ _ hb9)) HC0_2.out (Kd.C_below HR0_3.out (HQ _ hb9)) HC0_3.out A97.out))); (focus (rfl))) | (refine qb_callN 143 rfl ?_; apply qb_call 143 rfl Try.func95 (by kernel_rfl) rfl rfl; (focus rfl); (focus (exact fun wq9 hb9 => qb_b hb9 (impl_System_join.calls k5 a0_0 _ _ l0_1 _ _ l0_2 _ _ l0_3 x5_3 x6_5 t423 _ (Kd.C_below HR0_1.out (HQ _ hb9)) HC0_1.out (Kd.C_below HR0_2.out (HQ _ hb9)) HC0_2.out (Kd.C_below HR0_3.out (HQ _ hb9)) HC0_3.out A113.out))); (focus (rfl))) | (apply qb_val; (focus rfl); (focus (intro wq9 _; go_simp; with_reducible rfl))) | (apply qb_val; (focus rfl); (focus (intro wq9 hb9_; have hb9 : Below wr.heap.size wr wq9 := hb9_; have BK405 := sd_ (blk_below BK405.out hb9); have hc9_405_0 : wq9.cell? ⟨gb405, 0, none⟩ = some (.int .i64 a0_0) := (blk_cell BK405.out 0).trans rfl; have hc9_405_1 : wq9.cell? ⟨gb405, 1, none⟩ = some (.slice A0_1 l0_1.length c0_1) := (blk_cell BK405.out 1).trans rfl; have hc9_405_2 : wq9.cell? ⟨gb405, 2, none⟩ = some (.slice A0_2 l0_2.length c0_2) := (blk_cell BK405.out 2).trans rfl; have hc9_405_3 : wq9.cell? ⟨gb405, 3, none⟩ = some (.slice A0_3 l0_3.length c0_3) := (blk_cell BK405.out 3).trans rfl; go_simp; with_reducible rfl)))); (focus (simp only [Act.put, List.setIfInBounds_toArray, List.set_cons_zero, List.set_cons_succ, i64_w, i32_w]; rfl)))
                    refine qb_nil ?_
                    intro w118 hb
                    replace BK405 := sd_ (blk_below BK405.out hb)
                    replace HB := sd_ (below_step HB.out hb)
                    clear hb
                    (try clear HQ)
                    try go_wp2
                    go_meet
                    case rel => exact ⟨_, (decide (t423 < 0)), (by first | rfl | (simp; done) | (simp [*]; done)), H', ⟨by have := HJ1.out; have := HK2.out; have := HK3.out; have := HJ30.out; have := HK5.out; first | omega | exact Nat.le_refl _⟩, ⟨by (with_reducible repeat (first | refine blk_drewN ?_ _ | refine blk_drew ?_ | refine blk_alloc ?_ _)); exact BK405.out⟩, ⟨bw1_ HB.out GE405.out⟩⟩
                 ·rw [if_neg c90] at H
                  have c90b0 : (t417 == t418) = false := beq_eq_false_iff_ne.mpr c90
                  have c90b1 : (t417 != t418) = true := bne_iff_ne.mpr c90
                  (first | rw [c90b0] | (simp only [i64_w, i32_w]; rw [c90b0]) | skip)
                  have H' := sd_ H
                  clear H
                  try go_wp2
                  refine qb_region (by kernel_rfl) (by kernel_rfl) ?_
                  have HQ := fun (wq : World) (hq : Below wr.heap.size wr wq) => below_step HB.out hq
                  repeat ((first | (apply qb_skip; (focus rfl)) | (refine qb_callN 116 rfl ?_; apply qb_call 116 rfl Try.func92 (by kernel_rfl) rfl rfl; (focus rfl); (focus (exact fun wq9 hb9 => qb_b hb9 (impl_System_plus.calls a0_0 _ _ l0_1 _ _ l0_2 _ _ l0_3 x5_3 x6_5 t417 _ (Kd.C_below HR0_1.out (HQ _ hb9)) HC0_1.out (Kd.C_below HR0_2.out (HQ _ hb9)) HC0_2.out (Kd.C_below HR0_3.out (HQ _ hb9)) HC0_3.out A88.out))); (focus (rfl))) | (refine qb_callN 120 rfl ?_; apply qb_call 120 rfl Try.func92 (by kernel_rfl) rfl rfl; (focus rfl); (focus (exact fun wq9 hb9 => qb_b hb9 (impl_System_plus.calls a0_0 _ _ l0_1 _ _ l0_2 _ _ l0_3 x6_5 x5_3 t418 _ (Kd.C_below HR0_1.out (HQ _ hb9)) HC0_1.out (Kd.C_below HR0_2.out (HQ _ hb9)) HC0_2.out (Kd.C_below HR0_3.out (HQ _ hb9)) HC0_3.out A89.out))); (focus (rfl))) | (apply qb_val; (focus rfl); (focus (intro wq9 _; go_simp; with_reducible rfl))) | (apply qb_val; (focus rfl); (focus (intro wq9 hb9_; have hb9 : Below wr.heap.size wr wq9 := hb9_; have BK405 := sd_ (blk_below BK405.out hb9); have hc9_405_0 : wq9.cell? ⟨gb405, 0, none⟩ = some (.int .i64 a0_0) := (blk_cell BK405.out 0).trans rfl; have hc9_405_1 : wq9.cell? ⟨gb405, 1, none⟩ = some (.slice A0_1 l0_1.length c0_1) := (blk_cell BK405.out 1).trans rfl; have hc9_405_2 : wq9.cell? ⟨gb405, 2, none⟩ = some (.slice A0_2 l0_2.length c0_2) := (blk_cell BK405.out 2).trans rfl; have hc9_405_3 : wq9.cell? ⟨gb405, 3, none⟩ = some (.slice A0_3 l0_3.length c0_3) := (blk_cell BK405.out 3).trans rfl; go_simp; with_reducible rfl)))); (focus (simp only [Act.put, List.setIfInBounds_toArray, List.set_cons_zero, List.set_cons_succ, i64_w, i32_w]; rfl)))
                  refine qb_nil ?_
                  intro w121 hb
                  replace BK405 := sd_ (blk_below BK405.out hb)
                  replace HB := sd_ (below_step HB.out hb)
                  clear hb
                  (try clear HQ)
                  try go_wp2
                  go_meet
                  case rel => exact ⟨_, (true), (by first | rfl | (simp; done) | (simp [*]; done)), H', ⟨by have := HJ1.out; have := HK2.out; have := HK3.out; have := HJ30.out; have := HK5.out; first | omega | exact Nat.le_refl _⟩, ⟨by (with_reducible repeat (first | refine blk_drewN ?_ _ | refine blk_drew ?_ | refine blk_alloc ?_ _)); exact BK405.out⟩, ⟨bw1_ HB.out GE405.out⟩⟩
                case rest =>
                 clear HC87
                 try clear c1
                 try clear p2
                 try clear c3
                 try clear c6
                 try clear p6
                 try clear c8
                 try clear c12
                 try clear c14
                 try clear c14b0
                 try clear c30
                 try clear c30b0
                 try clear c64
                 try clear p64
                 try clear c85
                 try clear c86
                 try clear c86b0
                 try clear hcz13_0
                 try clear hcz13_1
                 try clear hcz13_2
                 try clear hcz13_3
                 try clear hcz4_0
                 try clear hcz4_1
                 try clear hcz4_2
                 try clear hcz4_3
                 try clear hfz13_0
                 try clear hfz13_1
                 try clear hfz13_2
                 try clear hfz13_3
                 try clear hfz4_0
                 try clear hfz4_1
                 try clear hfz4_2
                 try clear hfz4_3
                 try clear p2
                 try clear p6
                 try clear p64
                 obtain ⟨kq, x145_86, rfl, HA, HJ86, BK405, HB⟩ := hcut
                 cases kq with
                 | zero => exact absurd HA.out (by simp [impl_IsSystem.j5])
                 | succ kj86 =>
                  have H := HA.out
                  clear HA
                  simp only [impl_IsSystem.j5] at H
                  by_cases c122 : x145_86 = true
                  ·subst c122
                   have H1 : (some false) = some r := by rw [if_pos rfl] at H; exact H
                   clear H
                   have H := H1
                   clear H1
                   obtain rfl := Option.some.inj H
                   go_wp2
                   go_ret
                   exact ⟨an_, bw1_ HB.out GE405.out⟩
                  ·replace c122 := Bool.eq_false_iff.mpr c122
                   subst c122
                   have H1 : (impl_IsSystem.l3 kj86 a0_0 x5_3 x6_5 0 a0_0 l0_1 l0_2 l0_3) = some r := by rw [if_neg (show ¬ (false = true) by decide)] at H; exact H
                   clear H
                   have H := H1
                   clear H1
                   have H' := sd_ H
                   clear H
                   go_wp2
                   go_loopg [7] kj86 (fun kq v7 w' => ∃ (x7_7 : Int), v7 = .int .i64 x7_7 ∧ Aside0 (impl_IsSystem.l3 kq a0_0 x5_3 x6_5 x7_7 a0_0 l0_1 l0_2 l0_3 = some r) ∧ Aside0 (kq ≤ kj86) ∧ Aside0 (w'.heap[gb405]? = some (.cells #[.int .i64 a0_0, (.slice A0_1 l0_1.length c0_1), (.slice A0_2 l0_2.length c0_2), (.slice A0_3 l0_3.length c0_3)] 37 (0, 0))) ∧ Aside0 (Below w.heap.size w w'))
                   case atStart => exact ⟨(0), (by first | rfl | (simp; done) | (simp [*]; done)), H', ⟨Nat.le_refl _⟩, ⟨by (with_reducible repeat (first | refine blk_drewN ?_ _ | refine blk_drew ?_ | refine blk_alloc ?_ _)); exact BK405.out⟩, ⟨bw1_ HB.out GE405.out⟩⟩
                   case round =>
                    clear H'
                    try clear c1
                    try clear p2
                    try clear c3
                    try clear c6
                    try clear p6
                    try clear c8
                    try clear c12
                    try clear c14
                    try clear c14b0
                    try clear c30
                    try clear c30b0
                    try clear c64
                    try clear p64
                    try clear c85
                    try clear c86
                    try clear c86b0
                    try clear c122
                    try clear hcz13_0
                    try clear hcz13_1
                    try clear hcz13_2
                    try clear hcz13_3
                    try clear hcz4_0
                    try clear hcz4_1
                    try clear hcz4_2
                    try clear hcz4_3
                    try clear hfz13_0
                    try clear hfz13_1
                    try clear hfz13_2
                    try clear hfz13_3
                    try clear hfz4_0
                    try clear hfz4_1
                    try clear hfz4_2
                    try clear hfz4_3
                    try clear p2
                    try clear p6
                    try clear p64
                    obtain ⟨x7_7, rfl, HA, HK7, BK405, HB⟩ := hrel
                    cases gk with
                    | zero => exact absurd HA.out (by simp [impl_IsSystem.l3])
                    | succ k7 =>
                     have H := HA.out
                     clear HA
                     simp only [impl_IsSystem.l3] at H
                     by_cases c123 : x7_7 < a0_0
                     ·rw [if_pos c123] at H
                      have c123b0 : decide (x7_7 < a0_0) = true := decide_eq_true c123
                      clear c123
                      replace H := Option.bind_eq_some_iff.mp H
                      obtain ⟨t424, A1240, H⟩ := H
                      try dsimp only at H
                      have A124 := sd_ A1240
                      clear A1240
                      by_cases c125 : t424 = true
                      ·subst c125
                       have H1 : (impl_IsSystem.l3 k7 a0_0 x5_3 x6_5 (wrap64 (x7_7 + 1)) a0_0 l0_1 l0_2 l0_3) = some r := by rw [if_pos rfl] at H; exact H
                       clear H
                       have H := H1
                       clear H1
                       have H' := sd_ H
                       clear H
                       have hcz126_0 : wr.cell? ⟨gb405, 0, none⟩ = some (.int .i64 a0_0) := (blk_cell BK405.out 0).trans rfl
                       have hcz126_1 : wr.cell? ⟨gb405, 1, none⟩ = some (.slice A0_1 l0_1.length c0_1) := (blk_cell BK405.out 1).trans rfl
                       have hcz126_2 : wr.cell? ⟨gb405, 2, none⟩ = some (.slice A0_2 l0_2.length c0_2) := (blk_cell BK405.out 2).trans rfl
                       have hcz126_3 : wr.cell? ⟨gb405, 3, none⟩ = some (.slice A0_3 l0_3.length c0_3) := (blk_cell BK405.out 3).trans rfl
                       have hfz126_0 := blk_frozen BK405.out 0
                       have hfz126_1 := blk_frozen BK405.out 1
                       have hfz126_2 := blk_frozen BK405.out 2
                       have hfz126_3 := blk_frozen BK405.out 3
                       go_wp2_with (first | ((with_reducible refine gate_callee (f := 96) rfl ?_); refine goesL_ (some 155) rfl rfl Try.func96 (by kernel_rfl) rfl #[.agg #[.int .i64 a0_0, .slice A0_1 l0_1.length c0_1, .slice A0_2 l0_2.length c0_2, .slice A0_3 l0_3.length c0_3], .int .i64 x5_3, .int .i64 x6_5, .int .i64 x7_7] rfl (by (try simp only [List.map_toArray, List.map_cons, List.map_nil]); first | done | rfl | (simp only [List.length_drop, List.length_take]; rfl)) ?_; (with_reducible refine (impl_System_lawsOf.calls k7 a0_0 _ _ l0_1 _ _ l0_2 _ _ l0_3 x5_3 x6_5 x7_7 true _ ?side1 ?side2 ?side3 ?side4 ?side5 ?side6 A124.out).mono ?_); (case side1 => exact kc_ HR0_1.out HB.out); (case side2 => exact HC0_1.out); (case side3 => exact kc_ HR0_2.out HB.out); (case side4 => exact HC0_2.out); (case side5 => exact kc_ HR0_3.out HB.out); (case side6 => exact HC0_3.out); rintro e w127 ⟨rfl, hb⟩; refine ⟨_, rfl, ?_⟩; replace BK405 := sd_ (bb_ BK405.out hb); replace HB := sd_ (below_step (bw1_ HB.out GE405.out) hb); (try clear hb); (try clear hb2); (try clear hk); (try clear hi)))
                       go_roundg k7
                       case measure => have := HJ1.out; have := HK2.out; have := HK3.out; have := HJ30.out; have := HK5.out; have := HJ86.out; have := HK7.out; omega
                       case rel => exact ⟨(wrap64 (x7_7 + 1)), (by first | rfl | (simp; done) | (simp [*]; done)), H', ⟨by have := HJ1.out; have := HK2.out; have := HK3.out; have := HJ30.out; have := HK5.out; have := HJ86.out; have := HK7.out; omega⟩, ⟨by (with_reducible repeat (first | refine blk_drewN ?_ _ | refine blk_drew ?_ | refine blk_alloc ?_ _)); exact BK405.out⟩, ⟨bw1_ HB.out GE405.out⟩⟩
                      ·replace c125 := Bool.eq_false_iff.mpr c125
                       subst c125
                       have H1 : (some false) = some r := by rw [if_neg (show ¬ (false = true) by decide)] at H; exact H
                       clear H
                       have H := H1
                       clear H1
                       obtain rfl := Option.some.inj H
                       have hcz128_0 : wr.cell? ⟨gb405, 0, none⟩ = some (.int .i64 a0_0) := (blk_cell BK405.out 0).trans rfl
                       have hcz128_1 : wr.cell? ⟨gb405, 1, none⟩ = some (.slice A0_1 l0_1.length c0_1) := (blk_cell BK405.out 1).trans rfl
                       have hcz128_2 : wr.cell? ⟨gb405, 2, none⟩ = some (.slice A0_2 l0_2.length c0_2) := (blk_cell BK405.out 2).trans rfl
                       have hcz128_3 : wr.cell? ⟨gb405, 3, none⟩ = some (.slice A0_3 l0_3.length c0_3) := (blk_cell BK405.out 3).trans rfl
                       have hfz128_0 := blk_frozen BK405.out 0
                       have hfz128_1 := blk_frozen BK405.out 1
                       have hfz128_2 := blk_frozen BK405.out 2
                       have hfz128_3 := blk_frozen BK405.out 3
                       go_wp2_with (first | ((with_reducible refine gate_callee (f := 96) rfl ?_); refine goesL_ (some 155) rfl rfl Try.func96 (by kernel_rfl) rfl #[.agg #[.int .i64 a0_0, .slice A0_1 l0_1.length c0_1, .slice A0_2 l0_2.length c0_2, .slice A0_3 l0_3.length c0_3], .int .i64 x5_3, .int .i64 x6_5, .int .i64 x7_7] rfl (by (try simp only [List.map_toArray, List.map_cons, List.map_nil]); first | done | rfl | (simp only [List.length_drop, List.length_take]; rfl)) ?_; (with_reducible refine (impl_System_lawsOf.calls k7 a0_0 _ _ l0_1 _ _ l0_2 _ _ l0_3 x5_3 x6_5 x7_7 false _ ?side1 ?side2 ?side3 ?side4 ?side5 ?side6 A124.out).mono ?_); (case side1 => exact kc_ HR0_1.out HB.out); (case side2 => exact HC0_1.out); (case side3 => exact kc_ HR0_2.out HB.out); (case side4 => exact HC0_2.out); (case side5 => exact kc_ HR0_3.out HB.out); (case side6 => exact HC0_3.out); rintro e w129 ⟨rfl, hb⟩; refine ⟨_, rfl, ?_⟩; replace BK405 := sd_ (bb_ BK405.out hb); replace HB := sd_ (below_step (bw1_ HB.out GE405.out) hb); (try clear hb); (try clear hb2); (try clear hk); (try clear hi)))
                       go_ret
                       exact ⟨an_, bw1_ HB.out GE405.out⟩
                     ·rw [if_neg c123] at H
                      have c123b0 : decide (x7_7 < a0_0) = false := decide_eq_false c123
                      clear c123
                      have H' := sd_ H
                      clear H
                      go_wp2
                      go_roundg k7
                      case measure => have := HJ1.out; have := HK2.out; have := HK3.out; have := HJ30.out; have := HK5.out; have := HJ86.out; have := HK7.out; omega
                      case rel => exact ⟨(wrap64 (x6_5 + 1)), (by first | rfl | (simp; done) | (simp [*]; done)), H', ⟨by have := HJ1.out; have := HK2.out; have := HK3.out; have := HJ30.out; have := HK5.out; have := HJ86.out; have := HK7.out; omega⟩, ⟨by (with_reducible repeat (first | refine blk_drewN ?_ _ | refine blk_drew ?_ | refine blk_alloc ?_ _)); exact BK405.out⟩, ⟨bw1_ HB.out GE405.out⟩⟩
               ·rw [if_neg c86] at H
                have c86b0 : decide (x6_5 < a0_0) = false := decide_eq_false c86
                clear c86
                have H' := sd_ H
                clear H
                go_wp2
                go_roundg k5
                case measure => have := HJ1.out; have := HK2.out; have := HK3.out; have := HJ30.out; have := HK5.out; omega
                case rel => exact ⟨(wrap64 (x5_3 + 1)), (by first | rfl | (simp; done) | (simp [*]; done)), H', ⟨by have := HJ1.out; have := HK2.out; have := HK3.out; have := HJ30.out; have := HK5.out; omega⟩, ⟨by (with_reducible repeat (first | refine blk_drewN ?_ _ | refine blk_drew ?_ | refine blk_alloc ?_ _)); exact BK405.out⟩, ⟨bw1_ HB.out GE405.out⟩⟩
         ·rw [if_neg c30] at H
          have c30b0 : decide (x5_3 < a0_0) = false := decide_eq_false c30
          clear c30
          obtain rfl := Option.some.inj H
          go_wp2
          go_ret
          exact ⟨an_, bw1_ HB.out GE405.out⟩

end Go.Proofs.Ytnokgkhkmnldeaa.P
