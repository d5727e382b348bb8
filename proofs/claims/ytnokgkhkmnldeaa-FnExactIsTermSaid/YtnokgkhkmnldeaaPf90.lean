-- Printed by this session's own program (wip/tools/mkprint.py) out of the translation. Not trusted: Lean checks it.
import Derived.Test.YtnokgkhkmnldeaaM1
import Derived.Test.YtnokgkhkmnldeaaM9
/-! short words -/
namespace Go.Proofs.Ytnokgkhkmnldeaa.P
open Go.RowKit Go.Proofs.YtnokgkhkmnldeaaW.PrintWords Go.Proofs.YtnokgkhkmnldeaaW.PrintLast Go.Proofs.YtnokgkhkmnldeaaW.PrintMore
attribute [local go_sem] max2_int min2_int max_two min_two max_three min_three max_four min_four   -- for this text's walks alone
set_option linter.unusedVariables false
set_option linter.unusedSimpArgs false

/-! ### spec_l1Three: function 90 -/
mutual
def spec_l1Three.j0 : Nat → Int → Int → Int → Bool → Int → List Int → List Int → List Bool → Option (Bool)
 | 0, _, _, _, _, _, _, _, _ => none
 | k + 1, x1, x2, x3, x40, x291000, x291001, x291002, x291003 => if x40 = true then (some false) else ((spec_l1Add.f x291000 x291001 x291002 x291003 x2 x3).bind fun t299 => ((spec_l1Mul.f x291000 x291001 x291002 x291003 x1 t299).bind fun t300 => ((spec_l1Mul.f x291000 x291001 x291002 x291003 x1 x2).bind fun t301 => ((spec_l1Mul.f x291000 x291001 x291002 x291003 x1 x3).bind fun t302 => ((spec_l1Add.f x291000 x291001 x291002 x291003 t301 t302).bind fun t303 => (if t300 = t303 then ((spec_l1Add.f x291000 x291001 x291002 x291003 x1 x2).bind fun t304 => ((spec_l1Mul.f x291000 x291001 x291002 x291003 t304 x3).bind fun t305 => ((spec_l1Mul.f x291000 x291001 x291002 x291003 x1 x3).bind fun t306 => ((spec_l1Mul.f x291000 x291001 x291002 x291003 x2 x3).bind fun t307 => ((spec_l1Add.f x291000 x291001 x291002 x291003 t306 t307).bind fun t308 => (spec_l1Three.j1 k x1 x2 x3 (t305 != t308) x291000 x291001 x291002 x291003)))))) else (spec_l1Three.j1 k x1 x2 x3 true x291000 x291001 x291002 x291003)))))))
def spec_l1Three.j1 : Nat → Int → Int → Int → Bool → Int → List Int → List Int → List Bool → Option (Bool)
 | 0, _, _, _, _, _, _, _, _ => none
 | k + 1, x1, x2, x3, x78, x291000, x291001, x291002, x291003 => if x78 = true then (some false) else ((spec_l1Le.f x291000 x291001 x291002 x291003 x1 x2).bind fun t309 => (if t309 = true then ((spec_l1Le.f x291000 x291001 x291002 x291003 x2 x3).bind fun t310 => (if t310 = true then ((spec_l1Le.f x291000 x291001 x291002 x291003 x1 x3).bind fun t311 => (spec_l1Three.j2 k x1 x2 x3 (!t311) x291000 x291001 x291002 x291003)) else (spec_l1Three.j2 k x1 x2 x3 false x291000 x291001 x291002 x291003))) else (some true)))
def spec_l1Three.j2 : Nat → Int → Int → Int → Bool → Int → List Int → List Int → List Bool → Option (Bool)
 | 0, _, _, _, _, _, _, _, _ => none
 | k + 1, x1, x2, x3, x94, x291000, x291001, x291002, x291003 => if x94 = true then (some false) else ((spec_l1Add.f x291000 x291001 x291002 x291003 x1 x3).bind fun t312 => ((spec_l1Add.f x291000 x291001 x291002 x291003 x2 x3).bind fun t313 => ((spec_l1Le.f x291000 x291001 x291002 x291003 t312 t313).bind fun t314 => (if t314 = true then ((spec_l1Mul.f x291000 x291001 x291002 x291003 x1 x3).bind fun t315 => ((spec_l1Mul.f x291000 x291001 x291002 x291003 x2 x3).bind fun t316 => ((spec_l1Le.f x291000 x291001 x291002 x291003 t315 t316).bind fun t317 => (if t317 = true then ((spec_l1Mul.f x291000 x291001 x291002 x291003 x3 x1).bind fun t318 => ((spec_l1Mul.f x291000 x291001 x291002 x291003 x3 x2).bind fun t319 => ((spec_l1Le.f x291000 x291001 x291002 x291003 t318 t319).bind fun t320 => (some t320)))) else (some false))))) else (some false)))))
end
def spec_l1Three.f (k : Nat) (a0_0 : Int) (l0_1 : List Int) (l0_2 : List Int) (l0_3 : List Bool) (a1 : Int) (a2 : Int) (a3 : Int) : Option (Bool) := (spec_l1Add.f a0_0 l0_1 l0_2 l0_3 a1 a2).bind fun t291 => ((spec_l1Add.f a0_0 l0_1 l0_2 l0_3 t291 a3).bind fun t292 => ((spec_l1Add.f a0_0 l0_1 l0_2 l0_3 a2 a3).bind fun t293 => ((spec_l1Add.f a0_0 l0_1 l0_2 l0_3 a1 t293).bind fun t294 => (if t292 = t294 then ((spec_l1Mul.f a0_0 l0_1 l0_2 l0_3 a1 a2).bind fun t295 => ((spec_l1Mul.f a0_0 l0_1 l0_2 l0_3 t295 a3).bind fun t296 => ((spec_l1Mul.f a0_0 l0_1 l0_2 l0_3 a2 a3).bind fun t297 => ((spec_l1Mul.f a0_0 l0_1 l0_2 l0_3 a1 t297).bind fun t298 => (spec_l1Three.j0 k a1 a2 a3 (t296 != t298) a0_0 l0_1 l0_2 l0_3))))) else (spec_l1Three.j0 k a1 a2 a3 true a0_0 l0_1 l0_2 l0_3)))))
set_option maxHeartbeats 8000000 in
set_option maxRecDepth 100000 in
theorem spec_l1Three.calls (k : Nat) (a0_0 : Int) (A0_1 : Option Addr) (c0_1 : Nat) (l0_1 : List Int) (A0_2 : Option Addr) (c0_2 : Nat) (l0_2 : List Int) (A0_3 : Option Addr) (c0_3 : Nat) (l0_3 : List Bool) (a1 : Int) (a2 : Int) (a3 : Int) (r : Bool) (w : World) (hr0_1 : Kd.C (Kd.int .i64) w A0_1 l0_1.length l0_1) (hc0_1 : l0_1.length ≤ c0_1) (hr0_2 : Kd.C (Kd.int .i64) w A0_2 l0_2.length l0_2) (hc0_2 : l0_2.length ≤ c0_2) (hr0_3 : Kd.C Kd.bool w A0_3 l0_3.length l0_3) (hc0_3 : l0_3.length ≤ c0_3) (h : spec_l1Three.f k a0_0 l0_1 l0_2 l0_3 a1 a2 a3 = some r) :
  Calls Try.prog 90 #[.agg #[.int .i64 a0_0, .slice A0_1 l0_1.length c0_1, .slice A0_2 l0_2.length c0_2, .slice A0_3 l0_3.length c0_3], .int .i64 a1, .int .i64 a2, .int .i64 a3] w fun e w' => e = .returned (.bool r) ∧ Below w.heap.size w w' := by
 have hu37 := Try.underlying37
 have HR0_1 := sd_ hr0_1
 have HC0_1 := sd_ hc0_1
 clear hr0_1 hc0_1
 have HR0_2 := sd_ hr0_2
 have HC0_2 := sd_ hc0_2
 clear hr0_2 hc0_2
 have HR0_3 := sd_ hr0_3
 have HC0_3 := sd_ hc0_3
 clear hr0_3 hc0_3
 have HB := sd_ (Below.refl w.heap.size w)
 have H : ((spec_l1Add.f a0_0 l0_1 l0_2 l0_3 a1 a2).bind fun t291 => ((spec_l1Add.f a0_0 l0_1 l0_2 l0_3 t291 a3).bind fun t292 => ((spec_l1Add.f a0_0 l0_1 l0_2 l0_3 a2 a3).bind fun t293 => ((spec_l1Add.f a0_0 l0_1 l0_2 l0_3 a1 t293).bind fun t294 => (if t292 = t294 then ((spec_l1Mul.f a0_0 l0_1 l0_2 l0_3 a1 a2).bind fun t295 => ((spec_l1Mul.f a0_0 l0_1 l0_2 l0_3 t295 a3).bind fun t296 => ((spec_l1Mul.f a0_0 l0_1 l0_2 l0_3 a2 a3).bind fun t297 => ((spec_l1Mul.f a0_0 l0_1 l0_2 l0_3 a1 t297).bind fun t298 => (spec_l1Three.j0 k a1 a2 a3 (t296 != t298) a0_0 l0_1 l0_2 l0_3))))) else (spec_l1Three.j0 k a1 a2 a3 true a0_0 l0_1 l0_2 l0_3)))))) = some r := h
 clear h
 have HC5 := sd_ H
 clear H
 go_enter Try.func90, Try.ntmps90
 go_upto_region 1 with (first | ((with_reducible refine gate_dst (N := 4) rfl ?_); refine box_event ?hg (N := 4) ?hd (cs := #[.int .i64 a0_0, .slice A0_1 l0_1.length c0_1, .slice A0_2 l0_2.length c0_2, .slice A0_3 l0_3.length c0_3]) (t := 37) ?hr ?_; (case hd => rfl); (case hg => rfl); (case hr => first | (go_simp; done) | (go_simp; rfl)); intro gb290 hg w6 hbox hb; have BK290 := sd_ (hbox); have GW290 := sd_ ((by rw [hg]; exact (below_size (bw0_ HB.out)) : w.heap.size ≤ gb290)); have GE290 := sd_ ((by rw [hg]; exact (below_size (bw0_ HB.out)) : w.heap.size ≤ gb290)); replace HB := sd_ (below_step (bw0_ HB.out) hb); clear hb hbox hg))
 (try simp only [Act.put, List.setIfInBounds_toArray, List.set_cons_zero, List.set_cons_succ])
 go_cut [40] (fun v40 wc => ∃ (kq : Nat) (x40_4 : Bool), v40 = .bool x40_4 ∧ Aside0 (spec_l1Three.j0 kq a1 a2 a3 x40_4 a0_0 l0_1 l0_2 l0_3 = some r) ∧ Aside0 (kq ≤ k) ∧ Aside0 (wc.heap[gb290]? = some (.cells #[.int .i64 a0_0, (.slice A0_1 l0_1.length c0_1), (.slice A0_2 l0_2.length c0_2), (.slice A0_3 l0_3.length c0_3)] 37 (0, 0))) ∧ Aside0 (Below w.heap.size w wc))
 case first =>
  have H := HC5.out
  clear HC5
  replace H := Option.bind_eq_some_iff.mp H
  obtain ⟨t291, A70, H⟩ := H
  try dsimp only at H
  have A7 := sd_ A70
  clear A70
  replace H := Option.bind_eq_some_iff.mp H
  obtain ⟨t292, A80, H⟩ := H
  try dsimp only at H
  have A8 := sd_ A80
  clear A80
  replace H := Option.bind_eq_some_iff.mp H
  obtain ⟨t293, A90, H⟩ := H
  try dsimp only at H
  have A9 := sd_ A90
  clear A90
  replace H := Option.bind_eq_some_iff.mp H
  obtain ⟨t294, A100, H⟩ := H
  try dsimp only at H
  have A10 := sd_ A100
  clear A100
  by_cases c11 : t292 = t294
  ·rw [if_pos c11] at H
   have c11b0 : (t292 == t294) = true := beq_iff_eq.mpr c11
   have c11b1 : (t292 != t294) = false := bne_eq_false_iff_eq.mpr c11
   clear c11
   (first | rw [c11b0] | (simp only [i64_w, i32_w]; rw [c11b0]) | skip)
   replace H := Option.bind_eq_some_iff.mp H
   obtain ⟨t295, A120, H⟩ := H
   try dsimp only at H
   have A12 := sd_ A120
   clear A120
   replace H := Option.bind_eq_some_iff.mp H
   obtain ⟨t296, A130, H⟩ := H
   try dsimp only at H
   have A13 := sd_ A130
   clear A130
   replace H := Option.bind_eq_some_iff.mp H
   obtain ⟨t297, A140, H⟩ := H
   try dsimp only at H
   have A14 := sd_ A140
   clear A140
   replace H := Option.bind_eq_some_iff.mp H
   obtain ⟨t298, A150, H⟩ := H
   try dsimp only at H
   have A15 := sd_ A150
   clear A150
   have H' := sd_ H
   clear H
   try go_wp2
   refine qb_region (by kernel_rfl) (by kernel_rfl) ?_
   have HQ := fun (wq : World) (hq : Below w6.heap.size w6 wq) => below_step HB.out hq
   repeat ((first | (apply qb_skip; (focus rfl)) | (refine qb_callN 13 rfl ?_; apply qb_call 13 rfl Try.func108 (by kernel_rfl) rfl rfl; (focus rfl); (focus (exact fun wq9 hb9 => qb_b hb9 (spec_l1Add.calls a0_0 _ _ l0_1 _ _ l0_2 _ _ l0_3 a1 a2 t291 _ (Kd.C_below HR0_1.out (HQ _ hb9)) HC0_1.out (Kd.C_below HR0_2.out (HQ _ hb9)) HC0_2.out (Kd.C_below HR0_3.out (HQ _ hb9)) HC0_3.out A7.out))); (focus (rfl))) | (refine qb_callN 15 rfl ?_; apply qb_call 15 rfl Try.func108 (by kernel_rfl) rfl rfl; (focus rfl); (focus (exact fun wq9 hb9 => qb_b hb9 (spec_l1Add.calls a0_0 _ _ l0_1 _ _ l0_2 _ _ l0_3 t291 a3 t292 _ (Kd.C_below HR0_1.out (HQ _ hb9)) HC0_1.out (Kd.C_below HR0_2.out (HQ _ hb9)) HC0_2.out (Kd.C_below HR0_3.out (HQ _ hb9)) HC0_3.out A8.out))); (focus (rfl))) | (refine qb_callN 21 rfl ?_; apply qb_call 21 rfl Try.func108 (by kernel_rfl) rfl rfl; (focus rfl); (focus (exact fun wq9 hb9 => qb_b hb9 (spec_l1Add.calls a0_0 _ _ l0_1 _ _ l0_2 _ _ l0_3 a2 a3 t293 _ (Kd.C_below HR0_1.out (HQ _ hb9)) HC0_1.out (Kd.C_below HR0_2.out (HQ _ hb9)) HC0_2.out (Kd.C_below HR0_3.out (HQ _ hb9)) HC0_3.out A9.out))); (focus (rfl))) | (refine qb_callN 22 rfl ?_; apply qb_call 22 rfl Try.func108 (by kernel_rfl) rfl rfl; (focus rfl); (focus (exact fun wq9 hb9 => qb_b hb9 (spec_l1Add.calls a0_0 _ _ l0_1 _ _ l0_2 _ _ l0_3 a1 t293 t294 _ (Kd.C_below HR0_1.out (HQ _ hb9)) HC0_1.out (Kd.C_below HR0_2.out (HQ _ hb9)) HC0_2.out (Kd.C_below HR0_3.out (HQ _ hb9)) HC0_3.out A10.out))); (focus (rfl))) | (refine qb_callN 29 rfl ?_; apply qb_call 29 rfl Try.func109 (by kernel_rfl) rfl rfl; (focus rfl); (focus (exact fun wq9 hb9 => qb_b hb9 (spec_l1Mul.calls a0_0 _ _ l0_1 _ _ l0_2 _ _ l0_3 a1 a2 t295 _ (Kd.C_below HR0_1.out (HQ _ hb9)) HC0_1.out (Kd.C_below HR0_2.out (HQ _ hb9)) HC0_2.out (Kd.C_below HR0_3.out (HQ _ hb9)) HC0_3.out A12.out))); (focus (rfl))) | (refine qb_callN 31 rfl ?_; apply qb_call 31 rfl Try.func109 (by kernel_rfl) rfl rfl; (focus rfl); (focus (exact fun wq9 hb9 => qb_b hb9 (spec_l1Mul.calls a0_0 _ _ l0_1 _ _ l0_2 _ _ l0_3 t295 a3 t296 _ (Kd.C_below HR0_1.out (HQ _ hb9)) HC0_1.out (Kd.C_below HR0_2.out (HQ _ hb9)) HC0_2.out (Kd.C_below HR0_3.out (HQ _ hb9)) HC0_3.out A13.out))); (focus (rfl))) | (refine qb_callN 37 rfl ?_; apply qb_call 37 rfl Try.func109 (by kernel_rfl) rfl rfl; (focus rfl); (focus (exact fun wq9 hb9 => qb_b hb9 (spec_l1Mul.calls a0_0 _ _ l0_1 _ _ l0_2 _ _ l0_3 a2 a3 t297 _ (Kd.C_below HR0_1.out (HQ _ hb9)) HC0_1.out (Kd.C_below HR0_2.out (HQ _ hb9)) HC0_2.out (Kd.C_below HR0_3.out (HQ _ hb9)) HC0_3.out A14.out))); (focus (rfl))) | (refine qb_callN 38 rfl ?_; apply qb_call 38 rfl Try.func109 (by kernel_rfl) rfl rfl; (focus rfl); (focus (exact fun wq9 hb9 => qb_b hb9 (spec_l1Mul.calls a0_0 _ _ l0_1 _ _ l0_2 _ _ l0_3 a1 t297 t298 _ (Kd.C_below HR0_1.out (HQ _ hb9)) HC0_1.out (Kd.C_below HR0_2.out (HQ _ hb9)) HC0_2.out (Kd.C_below HR0_3.out (HQ _ hb9)) HC0_3.out A15.out))); (focus (rfl))) | (apply qb_val; (focus rfl); (focus (intro wq9 _; go_simp; with_reducible rfl))) | (apply qb_val; (focus rfl); (focus (intro wq9 hb9_; have hb9 : Below w6.heap.size w6 wq9 := hb9_; have BK290 := sd_ (blk_below BK290.out hb9); have hc9_290_0 : wq9.cell? ⟨gb290, 0, none⟩ = some (.int .i64 a0_0) := (blk_cell BK290.out 0).trans rfl; have hc9_290_1 : wq9.cell? ⟨gb290, 1, none⟩ = some (.slice A0_1 l0_1.length c0_1) := (blk_cell BK290.out 1).trans rfl; have hc9_290_2 : wq9.cell? ⟨gb290, 2, none⟩ = some (.slice A0_2 l0_2.length c0_2) := (blk_cell BK290.out 2).trans rfl; have hc9_290_3 : wq9.cell? ⟨gb290, 3, none⟩ = some (.slice A0_3 l0_3.length c0_3) := (blk_cell BK290.out 3).trans rfl; go_simp; with_reducible rfl)))); (focus (simp only [Act.put, List.setIfInBounds_toArray, List.set_cons_zero, List.set_cons_succ, i64_w, i32_w]; rfl)))
   refine qb_nil ?_
   intro w24 hb
   replace BK290 := sd_ (blk_below BK290.out hb)
   replace HB := sd_ (below_step HB.out hb)
   clear hb
   (try clear HQ)
   try go_wp2
   go_meet
   case rel => exact ⟨_, ((t296 != t298)), (by first | rfl | (simp; done) | (simp [*]; done)), H', ⟨by first | omega | exact Nat.le_refl _⟩, ⟨by (with_reducible repeat (first | refine blk_drewN ?_ _ | refine blk_drew ?_ | refine blk_alloc ?_ _)); exact BK290.out⟩, ⟨bw1_ HB.out GE290.out⟩⟩
  ·rw [if_neg c11] at H
   have c11b0 : (t292 == t294) = false := beq_eq_false_iff_ne.mpr c11
   have c11b1 : (t292 != t294) = true := bne_iff_ne.mpr c11
   (first | rw [c11b0] | (simp only [i64_w, i32_w]; rw [c11b0]) | skip)
   have H' := sd_ H
   clear H
   try go_wp2
   refine qb_region (by kernel_rfl) (by kernel_rfl) ?_
   have HQ := fun (wq : World) (hq : Below w6.heap.size w6 wq) => below_step HB.out hq
   repeat ((first | (apply qb_skip; (focus rfl)) | (refine qb_callN 13 rfl ?_; apply qb_call 13 rfl Try.func108 (by kernel_rfl) rfl rfl; (focus rfl); (focus (exact fun wq9 hb9 => qb_b hb9 (spec_l1Add.calls a0_0 _ _ l0_1 _ _ l0_2 _ _ l0_3 a1 a2 t291 _ (Kd.C_below HR0_1.out (HQ _ hb9)) HC0_1.out (Kd.C_below HR0_2.out (HQ _ hb9)) HC0_2.out (Kd.C_below HR0_3.out (HQ _ hb9)) HC0_3.out A7.out))); (focus (rfl))) | (refine qb_callN 15 rfl ?_; apply qb_call 15 rfl Try.func108 (by kernel_rfl) rfl rfl; (focus rfl); (focus (exact fun wq9 hb9 => qb_b hb9 (spec_l1Add.calls a0_0 _ _ l0_1 _ _ l0_2 _ _ l0_3 t291 a3 t292 _ (Kd.C_below HR0_1.out (HQ _ hb9)) HC0_1.out (Kd.C_below HR0_2.out (HQ _ hb9)) HC0_2.out (Kd.C_below HR0_3.out (HQ _ hb9)) HC0_3.out A8.out))); (focus (rfl))) | (refine qb_callN 21 rfl ?_; apply qb_call 21 rfl Try.func108 (by kernel_rfl) rfl rfl; (focus rfl); (focus (exact fun wq9 hb9 => qb_b hb9 (spec_l1Add.calls a0_0 _ _ l0_1 _ _ l0_2 _ _ l0_3 a2 a3 t293 _ (Kd.C_below HR0_1.out (HQ _ hb9)) HC0_1.out (Kd.C_below HR0_2.out (HQ _ hb9)) HC0_2.out (Kd.C_below HR0_3.out (HQ _ hb9)) HC0_3.out A9.out))); (focus (rfl))) | (refine qb_callN 22 rfl ?_; apply qb_call 22 rfl Try.func108 (by kernel_rfl) rfl rfl; (focus rfl); (focus (exact fun wq9 hb9 => qb_b hb9 (spec_l1Add.calls a0_0 _ _ l0_1 _ _ l0_2 _ _ l0_3 a1 t293 t294 _ (Kd.C_below HR0_1.out (HQ _ hb9)) HC0_1.out (Kd.C_below HR0_2.out (HQ _ hb9)) HC0_2.out (Kd.C_below HR0_3.out (HQ _ hb9)) HC0_3.out A10.out))); (focus (rfl))) | (apply qb_val; (focus rfl); (focus (intro wq9 _; go_simp; with_reducible rfl))) | (apply qb_val; (focus rfl); (focus (intro wq9 hb9_; have hb9 : Below w6.heap.size w6 wq9 := hb9_; have BK290 := sd_ (blk_below BK290.out hb9); have hc9_290_0 : wq9.cell? ⟨gb290, 0, none⟩ = some (.int .i64 a0_0) := (blk_cell BK290.out 0).trans rfl; have hc9_290_1 : wq9.cell? ⟨gb290, 1, none⟩ = some (.slice A0_1 l0_1.length c0_1) := (blk_cell BK290.out 1).trans rfl; have hc9_290_2 : wq9.cell? ⟨gb290, 2, none⟩ = some (.slice A0_2 l0_2.length c0_2) := (blk_cell BK290.out 2).trans rfl; have hc9_290_3 : wq9.cell? ⟨gb290, 3, none⟩ = some (.slice A0_3 l0_3.length c0_3) := (blk_cell BK290.out 3).trans rfl; go_simp; with_reducible rfl)))); (focus (simp only [Act.put, List.setIfInBounds_toArray, List.set_cons_zero, List.set_cons_succ, i64_w, i32_w]; rfl)))
   refine qb_nil ?_
   intro w29 hb
   replace BK290 := sd_ (blk_below BK290.out hb)
   replace HB := sd_ (below_step HB.out hb)
   clear hb
   (try clear HQ)
   try go_wp2
   go_meet
   case rel => exact ⟨_, (true), (by first | rfl | (simp; done) | (simp [*]; done)), H', ⟨by first | omega | exact Nat.le_refl _⟩, ⟨by (with_reducible repeat (first | refine blk_drewN ?_ _ | refine blk_drew ?_ | refine blk_alloc ?_ _)); exact BK290.out⟩, ⟨bw1_ HB.out GE290.out⟩⟩
 case rest =>
  clear HC5
  try clear c9
  obtain ⟨kq, x40_4, rfl, HA, HJ4, BK290, HB⟩ := hcut
  cases kq with
  | zero => exact absurd HA.out (by simp [spec_l1Three.j0])
  | succ kj4 =>
   have H := HA.out
   clear HA
   simp only [spec_l1Three.j0] at H
   by_cases c30 : x40_4 = true
   ·subst c30
    have H1 : (some false) = some r := by rw [if_pos rfl] at H; exact H
    clear H
    have H := H1
    clear H1
    obtain rfl := Option.some.inj H
    go_wp2
    go_ret
    exact ⟨an_, bw1_ HB.out GE290.out⟩
   ·replace c30 := Bool.eq_false_iff.mpr c30
    subst c30
    have H1 : ((spec_l1Add.f a0_0 l0_1 l0_2 l0_3 a2 a3).bind fun t299 => ((spec_l1Mul.f a0_0 l0_1 l0_2 l0_3 a1 t299).bind fun t300 => ((spec_l1Mul.f a0_0 l0_1 l0_2 l0_3 a1 a2).bind fun t301 => ((spec_l1Mul.f a0_0 l0_1 l0_2 l0_3 a1 a3).bind fun t302 => ((spec_l1Add.f a0_0 l0_1 l0_2 l0_3 t301 t302).bind fun t303 => (if t300 = t303 then ((spec_l1Add.f a0_0 l0_1 l0_2 l0_3 a1 a2).bind fun t304 => ((spec_l1Mul.f a0_0 l0_1 l0_2 l0_3 t304 a3).bind fun t305 => ((spec_l1Mul.f a0_0 l0_1 l0_2 l0_3 a1 a3).bind fun t306 => ((spec_l1Mul.f a0_0 l0_1 l0_2 l0_3 a2 a3).bind fun t307 => ((spec_l1Add.f a0_0 l0_1 l0_2 l0_3 t306 t307).bind fun t308 => (spec_l1Three.j1 kj4 a1 a2 a3 (t305 != t308) a0_0 l0_1 l0_2 l0_3)))))) else (spec_l1Three.j1 kj4 a1 a2 a3 true a0_0 l0_1 l0_2 l0_3))))))) = some r := by rw [if_neg (show ¬ (false = true) by decide)] at H; exact H
    clear H
    have H := H1
    clear H1
    have HC31 := sd_ H
    clear H
    go_upto_region 3 with (fail)
    go_cut [78] (fun v78 wc => ∃ (kq : Nat) (x78_30 : Bool), v78 = .bool x78_30 ∧ Aside0 (spec_l1Three.j1 kq a1 a2 a3 x78_30 a0_0 l0_1 l0_2 l0_3 = some r) ∧ Aside0 (kq ≤ kj4) ∧ Aside0 (wc.heap[gb290]? = some (.cells #[.int .i64 a0_0, (.slice A0_1 l0_1.length c0_1), (.slice A0_2 l0_2.length c0_2), (.slice A0_3 l0_3.length c0_3)] 37 (0, 0))) ∧ Aside0 (Below w.heap.size w wc))
    case first =>
     have H := HC31.out
     clear HC31
     replace H := Option.bind_eq_some_iff.mp H
     obtain ⟨t299, A320, H⟩ := H
     try dsimp only at H
     have A32 := sd_ A320
     clear A320
     replace H := Option.bind_eq_some_iff.mp H
     obtain ⟨t300, A330, H⟩ := H
     try dsimp only at H
     have A33 := sd_ A330
     clear A330
     replace H := Option.bind_eq_some_iff.mp H
     obtain ⟨t301, A340, H⟩ := H
     try dsimp only at H
     have A34 := sd_ A340
     clear A340
     replace H := Option.bind_eq_some_iff.mp H
     obtain ⟨t302, A350, H⟩ := H
     try dsimp only at H
     have A35 := sd_ A350
     clear A350
     replace H := Option.bind_eq_some_iff.mp H
     obtain ⟨t303, A360, H⟩ := H
     try dsimp only at H
     have A36 := sd_ A360
     clear A360
     by_cases c37 : t300 = t303
     ·rw [if_pos c37] at H
      have c37b0 : (t300 == t303) = true := beq_iff_eq.mpr c37
      have c37b1 : (t300 != t303) = false := bne_eq_false_iff_eq.mpr c37
      clear c37
      (first | rw [c37b0] | (simp only [i64_w, i32_w]; rw [c37b0]) | skip)
      replace H := Option.bind_eq_some_iff.mp H
      obtain ⟨t304, A380, H⟩ := H
      try dsimp only at H
      have A38 := sd_ A380
      clear A380
      replace H := Option.bind_eq_some_iff.mp H
      obtain ⟨t305, A390, H⟩ := H
      try dsimp only at H
      have A39 := sd_ A390
      clear A390
      replace H := Option.bind_eq_some_iff.mp H
      obtain ⟨t306, A400, H⟩ := H
      try dsimp only at H
      have A40 := sd_ A400
      clear A400
      replace H := Option.bind_eq_some_iff.mp H
      obtain ⟨t307, A410, H⟩ := H
      try dsimp only at H
      have A41 := sd_ A410
      clear A410
      replace H := Option.bind_eq_some_iff.mp H
      obtain ⟨t308, A420, H⟩ := H
      try dsimp only at H
      have A42 := sd_ A420
      clear A420
      have H' := sd_ H
      clear H
      try go_wp2
      refine qb_region (by kernel_rfl) (by kernel_rfl) ?_
      have HQ := fun (wq : World) (hq : Below wc.heap.size wc wq) => below_step HB.out hq
      repeat ((first | (apply qb_skip; (focus rfl)) | (refine qb_callN 46 rfl ?_; apply qb_call 46 rfl Try.func108 (by kernel_rfl) rfl rfl; (focus rfl); (focus (exact fun wq9 hb9 => qb_b hb9 (spec_l1Add.calls a0_0 _ _ l0_1 _ _ l0_2 _ _ l0_3 a2 a3 t299 _ (Kd.C_below HR0_1.out (HQ _ hb9)) HC0_1.out (Kd.C_below HR0_2.out (HQ _ hb9)) HC0_2.out (Kd.C_below HR0_3.out (HQ _ hb9)) HC0_3.out A32.out))); (focus (rfl))) | (refine qb_callN 47 rfl ?_; apply qb_call 47 rfl Try.func109 (by kernel_rfl) rfl rfl; (focus rfl); (focus (exact fun wq9 hb9 => qb_b hb9 (spec_l1Mul.calls a0_0 _ _ l0_1 _ _ l0_2 _ _ l0_3 a1 t299 t300 _ (Kd.C_below HR0_1.out (HQ _ hb9)) HC0_1.out (Kd.C_below HR0_2.out (HQ _ hb9)) HC0_2.out (Kd.C_below HR0_3.out (HQ _ hb9)) HC0_3.out A33.out))); (focus (rfl))) | (refine qb_callN 52 rfl ?_; apply qb_call 52 rfl Try.func109 (by kernel_rfl) rfl rfl; (focus rfl); (focus (exact fun wq9 hb9 => qb_b hb9 (spec_l1Mul.calls a0_0 _ _ l0_1 _ _ l0_2 _ _ l0_3 a1 a2 t301 _ (Kd.C_below HR0_1.out (HQ _ hb9)) HC0_1.out (Kd.C_below HR0_2.out (HQ _ hb9)) HC0_2.out (Kd.C_below HR0_3.out (HQ _ hb9)) HC0_3.out A34.out))); (focus (rfl))) | (refine qb_callN 56 rfl ?_; apply qb_call 56 rfl Try.func109 (by kernel_rfl) rfl rfl; (focus rfl); (focus (exact fun wq9 hb9 => qb_b hb9 (spec_l1Mul.calls a0_0 _ _ l0_1 _ _ l0_2 _ _ l0_3 a1 a3 t302 _ (Kd.C_below HR0_1.out (HQ _ hb9)) HC0_1.out (Kd.C_below HR0_2.out (HQ _ hb9)) HC0_2.out (Kd.C_below HR0_3.out (HQ _ hb9)) HC0_3.out A35.out))); (focus (rfl))) | (refine qb_callN 57 rfl ?_; apply qb_call 57 rfl Try.func108 (by kernel_rfl) rfl rfl; (focus rfl); (focus (exact fun wq9 hb9 => qb_b hb9 (spec_l1Add.calls a0_0 _ _ l0_1 _ _ l0_2 _ _ l0_3 t301 t302 t303 _ (Kd.C_below HR0_1.out (HQ _ hb9)) HC0_1.out (Kd.C_below HR0_2.out (HQ _ hb9)) HC0_2.out (Kd.C_below HR0_3.out (HQ _ hb9)) HC0_3.out A36.out))); (focus (rfl))) | (refine qb_callN 64 rfl ?_; apply qb_call 64 rfl Try.func108 (by kernel_rfl) rfl rfl; (focus rfl); (focus (exact fun wq9 hb9 => qb_b hb9 (spec_l1Add.calls a0_0 _ _ l0_1 _ _ l0_2 _ _ l0_3 a1 a2 t304 _ (Kd.C_below HR0_1.out (HQ _ hb9)) HC0_1.out (Kd.C_below HR0_2.out (HQ _ hb9)) HC0_2.out (Kd.C_below HR0_3.out (HQ _ hb9)) HC0_3.out A38.out))); (focus (rfl))) | (refine qb_callN 66 rfl ?_; apply qb_call 66 rfl Try.func109 (by kernel_rfl) rfl rfl; (focus rfl); (focus (exact fun wq9 hb9 => qb_b hb9 (spec_l1Mul.calls a0_0 _ _ l0_1 _ _ l0_2 _ _ l0_3 t304 a3 t305 _ (Kd.C_below HR0_1.out (HQ _ hb9)) HC0_1.out (Kd.C_below HR0_2.out (HQ _ hb9)) HC0_2.out (Kd.C_below HR0_3.out (HQ _ hb9)) HC0_3.out A39.out))); (focus (rfl))) | (refine qb_callN 71 rfl ?_; apply qb_call 71 rfl Try.func109 (by kernel_rfl) rfl rfl; (focus rfl); (focus (exact fun wq9 hb9 => qb_b hb9 (spec_l1Mul.calls a0_0 _ _ l0_1 _ _ l0_2 _ _ l0_3 a1 a3 t306 _ (Kd.C_below HR0_1.out (HQ _ hb9)) HC0_1.out (Kd.C_below HR0_2.out (HQ _ hb9)) HC0_2.out (Kd.C_below HR0_3.out (HQ _ hb9)) HC0_3.out A40.out))); (focus (rfl))) | (refine qb_callN 75 rfl ?_; apply qb_call 75 rfl Try.func109 (by kernel_rfl) rfl rfl; (focus rfl); (focus (exact fun wq9 hb9 => qb_b hb9 (spec_l1Mul.calls a0_0 _ _ l0_1 _ _ l0_2 _ _ l0_3 a2 a3 t307 _ (Kd.C_below HR0_1.out (HQ _ hb9)) HC0_1.out (Kd.C_below HR0_2.out (HQ _ hb9)) HC0_2.out (Kd.C_below HR0_3.out (HQ _ hb9)) HC0_3.out A41.out))); (focus (rfl))) | (refine qb_callN 76 rfl ?_; apply qb_call 76 rfl Try.func108 (by kernel_rfl) rfl rfl; (focus rfl); (focus (exact fun wq9 hb9 => qb_b hb9 (spec_l1Add.calls a0_0 _ _ l0_1 _ _ l0_2 _ _ l0_3 t306 t307 t308 _ (Kd.C_below HR0_1.out (HQ _ hb9)) HC0_1.out (Kd.C_below HR0_2.out (HQ _ hb9)) HC0_2.out (Kd.C_below HR0_3.out (HQ _ hb9)) HC0_3.out A42.out))); (focus (rfl))) | (apply qb_val; (focus rfl); (focus (intro wq9 _; go_simp; with_reducible rfl))) | (apply qb_val; (focus rfl); (focus (intro wq9 hb9_; have hb9 : Below wc.heap.size wc wq9 := hb9_; have BK290 := sd_ (blk_below BK290.out hb9); have hc9_290_0 : wq9.cell? ⟨gb290, 0, none⟩ = some (.int .i64 a0_0) := (blk_cell BK290.out 0).trans rfl; have hc9_290_1 : wq9.cell? ⟨gb290, 1, none⟩ = some (.slice A0_1 l0_1.length c0_1) := (blk_cell BK290.out 1).trans rfl; have hc9_290_2 : wq9.cell? ⟨gb290, 2, none⟩ = some (.slice A0_2 l0_2.length c0_2) := (blk_cell BK290.out 2).trans rfl; have hc9_290_3 : wq9.cell? ⟨gb290, 3, none⟩ = some (.slice A0_3 l0_3.length c0_3) := (blk_cell BK290.out 3).trans rfl; go_simp; with_reducible rfl)))); (focus (simp only [Act.put, List.setIfInBounds_toArray, List.set_cons_zero, List.set_cons_succ, i64_w, i32_w]; rfl)))
      refine qb_nil ?_
      intro w53 hb
      replace BK290 := sd_ (blk_below BK290.out hb)
      replace HB := sd_ (below_step HB.out hb)
      clear hb
      (try clear HQ)
      try go_wp2
      go_meet
      case rel => exact ⟨_, ((t305 != t308)), (by first | rfl | (simp; done) | (simp [*]; done)), H', ⟨by have := HJ4.out; first | omega | exact Nat.le_refl _⟩, ⟨by (with_reducible repeat (first | refine blk_drewN ?_ _ | refine blk_drew ?_ | refine blk_alloc ?_ _)); exact BK290.out⟩, ⟨bw1_ HB.out GE290.out⟩⟩
     ·rw [if_neg c37] at H
      have c37b0 : (t300 == t303) = false := beq_eq_false_iff_ne.mpr c37
      have c37b1 : (t300 != t303) = true := bne_iff_ne.mpr c37
      (first | rw [c37b0] | (simp only [i64_w, i32_w]; rw [c37b0]) | skip)
      have H' := sd_ H
      clear H
      try go_wp2
      refine qb_region (by kernel_rfl) (by kernel_rfl) ?_
      have HQ := fun (wq : World) (hq : Below wc.heap.size wc wq) => below_step HB.out hq
      repeat ((first | (apply qb_skip; (focus rfl)) | (refine qb_callN 46 rfl ?_; apply qb_call 46 rfl Try.func108 (by kernel_rfl) rfl rfl; (focus rfl); (focus (exact fun wq9 hb9 => qb_b hb9 (spec_l1Add.calls a0_0 _ _ l0_1 _ _ l0_2 _ _ l0_3 a2 a3 t299 _ (Kd.C_below HR0_1.out (HQ _ hb9)) HC0_1.out (Kd.C_below HR0_2.out (HQ _ hb9)) HC0_2.out (Kd.C_below HR0_3.out (HQ _ hb9)) HC0_3.out A32.out))); (focus (rfl))) | (refine qb_callN 47 rfl ?_; apply qb_call 47 rfl Try.func109 (by kernel_rfl) rfl rfl; (focus rfl); (focus (exact fun wq9 hb9 => qb_b hb9 (spec_l1Mul.calls a0_0 _ _ l0_1 _ _ l0_2 _ _ l0_3 a1 t299 t300 _ (Kd.C_below HR0_1.out (HQ _ hb9)) HC0_1.out (Kd.C_below HR0_2.out (HQ _ hb9)) HC0_2.out (Kd.C_below HR0_3.out (HQ _ hb9)) HC0_3.out A33.out))); (focus (rfl))) | (refine qb_callN 52 rfl ?_; apply qb_call 52 rfl Try.func109 (by kernel_rfl) rfl rfl; (focus rfl); (focus (exact fun wq9 hb9 => qb_b hb9 (spec_l1Mul.calls a0_0 _ _ l0_1 _ _ l0_2 _ _ l0_3 a1 a2 t301 _ (Kd.C_below HR0_1.out (HQ _ hb9)) HC0_1.out (Kd.C_below HR0_2.out (HQ _ hb9)) HC0_2.out (Kd.C_below HR0_3.out (HQ _ hb9)) HC0_3.out A34.out))); (focus (rfl))) | (refine qb_callN 56 rfl ?_; apply qb_call 56 rfl Try.func109 (by kernel_rfl) rfl rfl; (focus rfl); (focus (exact fun wq9 hb9 => qb_b hb9 (spec_l1Mul.calls a0_0 _ _ l0_1 _ _ l0_2 _ _ l0_3 a1 a3 t302 _ (Kd.C_below HR0_1.out (HQ _ hb9)) HC0_1.out (Kd.C_below HR0_2.out (HQ _ hb9)) HC0_2.out (Kd.C_below HR0_3.out (HQ _ hb9)) HC0_3.out A35.out))); (focus (rfl))) | (refine qb_callN 57 rfl ?_; apply qb_call 57 rfl Try.func108 (by kernel_rfl) rfl rfl; (focus rfl); (focus (exact fun wq9 hb9 => qb_b hb9 (spec_l1Add.calls a0_0 _ _ l0_1 _ _ l0_2 _ _ l0_3 t301 t302 t303 _ (Kd.C_below HR0_1.out (HQ _ hb9)) HC0_1.out (Kd.C_below HR0_2.out (HQ _ hb9)) HC0_2.out (Kd.C_below HR0_3.out (HQ _ hb9)) HC0_3.out A36.out))); (focus (rfl))) | (apply qb_val; (focus rfl); (focus (intro wq9 _; go_simp; with_reducible rfl))) | (apply qb_val; (focus rfl); (focus (intro wq9 hb9_; have hb9 : Below wc.heap.size wc wq9 := hb9_; have BK290 := sd_ (blk_below BK290.out hb9); have hc9_290_0 : wq9.cell? ⟨gb290, 0, none⟩ = some (.int .i64 a0_0) := (blk_cell BK290.out 0).trans rfl; have hc9_290_1 : wq9.cell? ⟨gb290, 1, none⟩ = some (.slice A0_1 l0_1.length c0_1) := (blk_cell BK290.out 1).trans rfl; have hc9_290_2 : wq9.cell? ⟨gb290, 2, none⟩ = some (.slice A0_2 l0_2.length c0_2) := (blk_cell BK290.out 2).trans rfl; have hc9_290_3 : wq9.cell? ⟨gb290, 3, none⟩ = some (.slice A0_3 l0_3.length c0_3) := (blk_cell BK290.out 3).trans rfl; go_simp; with_reducible rfl)))); (focus (simp only [Act.put, List.setIfInBounds_toArray, List.set_cons_zero, List.set_cons_succ, i64_w, i32_w]; rfl)))
      refine qb_nil ?_
      intro w59 hb
      replace BK290 := sd_ (blk_below BK290.out hb)
      replace HB := sd_ (below_step HB.out hb)
      clear hb
      (try clear HQ)
      try go_wp2
      go_meet
      case rel => exact ⟨_, (true), (by first | rfl | (simp; done) | (simp [*]; done)), H', ⟨by have := HJ4.out; first | omega | exact Nat.le_refl _⟩, ⟨by (with_reducible repeat (first | refine blk_drewN ?_ _ | refine blk_drew ?_ | refine blk_alloc ?_ _)); exact BK290.out⟩, ⟨bw1_ HB.out GE290.out⟩⟩
    case rest =>
     clear HC31
     try clear c3
     try clear c9
     try clear c30
     obtain ⟨kq, x78_30, rfl, HA, HJ30, BK290, HB⟩ := hcut
     cases kq with
     | zero => exact absurd HA.out (by simp [spec_l1Three.j1])
     | succ kj30 =>
      have H := HA.out
      clear HA
      simp only [spec_l1Three.j1] at H
      by_cases c60 : x78_30 = true
      ·subst c60
       have H1 : (some false) = some r := by rw [if_pos rfl] at H; exact H
       clear H
       have H := H1
       clear H1
       obtain rfl := Option.some.inj H
       go_wp2
       go_ret
       exact ⟨an_, bw1_ HB.out GE290.out⟩
      ·replace c60 := Bool.eq_false_iff.mpr c60
       subst c60
       have H1 : ((spec_l1Le.f a0_0 l0_1 l0_2 l0_3 a1 a2).bind fun t309 => (if t309 = true then ((spec_l1Le.f a0_0 l0_1 l0_2 l0_3 a2 a3).bind fun t310 => (if t310 = true then ((spec_l1Le.f a0_0 l0_1 l0_2 l0_3 a1 a3).bind fun t311 => (spec_l1Three.j2 kj30 a1 a2 a3 (!t311) a0_0 l0_1 l0_2 l0_3)) else (spec_l1Three.j2 kj30 a1 a2 a3 false a0_0 l0_1 l0_2 l0_3))) else (some true))) = some r := by rw [if_neg (show ¬ (false = true) by decide)] at H; exact H
       clear H
       have H := H1
       clear H1
       replace H := Option.bind_eq_some_iff.mp H
       obtain ⟨t309, A610, H⟩ := H
       try dsimp only at H
       have A61 := sd_ A610
       clear A610
       by_cases c62 : t309 = true
       ·subst c62
        have H1 : ((spec_l1Le.f a0_0 l0_1 l0_2 l0_3 a2 a3).bind fun t310 => (if t310 = true then ((spec_l1Le.f a0_0 l0_1 l0_2 l0_3 a1 a3).bind fun t311 => (spec_l1Three.j2 kj30 a1 a2 a3 (!t311) a0_0 l0_1 l0_2 l0_3)) else (spec_l1Three.j2 kj30 a1 a2 a3 false a0_0 l0_1 l0_2 l0_3))) = some r := by rw [if_pos rfl] at H; exact H
        clear H
        have H := H1
        clear H1
        have HC63 := sd_ H
        clear H
        have hcz64_0 : wc.cell? ⟨gb290, 0, none⟩ = some (.int .i64 a0_0) := (blk_cell BK290.out 0).trans rfl
        have hcz64_1 : wc.cell? ⟨gb290, 1, none⟩ = some (.slice A0_1 l0_1.length c0_1) := (blk_cell BK290.out 1).trans rfl
        have hcz64_2 : wc.cell? ⟨gb290, 2, none⟩ = some (.slice A0_2 l0_2.length c0_2) := (blk_cell BK290.out 2).trans rfl
        have hcz64_3 : wc.cell? ⟨gb290, 3, none⟩ = some (.slice A0_3 l0_3.length c0_3) := (blk_cell BK290.out 3).trans rfl
        have hfz64_0 := blk_frozen BK290.out 0
        have hfz64_1 := blk_frozen BK290.out 1
        have hfz64_2 := blk_frozen BK290.out 2
        have hfz64_3 := blk_frozen BK290.out 3
        go_upto_region 7 with (first | ((with_reducible refine gate_callee (f := 110) rfl ?_); refine goesL_ (some 82) rfl rfl Try.func110 (by kernel_rfl) rfl #[.agg #[.int .i64 a0_0, .slice A0_1 l0_1.length c0_1, .slice A0_2 l0_2.length c0_2, .slice A0_3 l0_3.length c0_3], .int .i64 a1, .int .i64 a2] rfl (by (try simp only [List.map_toArray, List.map_cons, List.map_nil]); first | done | rfl | (simp only [List.length_drop, List.length_take]; rfl)) ?_; (with_reducible refine (spec_l1Le.calls a0_0 _ _ l0_1 _ _ l0_2 _ _ l0_3 a1 a2 true _ ?side1 ?side2 ?side3 ?side4 ?side5 ?side6 A61.out).mono ?_); (case side1 => exact kc_ HR0_1.out HB.out); (case side2 => exact HC0_1.out); (case side3 => exact kc_ HR0_2.out HB.out); (case side4 => exact HC0_2.out); (case side5 => exact kc_ HR0_3.out HB.out); (case side6 => exact HC0_3.out); rintro e w65 ⟨rfl, hb⟩; refine ⟨_, rfl, ?_⟩; replace BK290 := sd_ (bb_ BK290.out hb); replace HB := sd_ (below_step (bw1_ HB.out GE290.out) hb); (try clear hb); (try clear hb2); (try clear hk); (try clear hi)))
        (try simp only [Act.put, List.setIfInBounds_toArray, List.set_cons_zero, List.set_cons_succ])
        go_cut [94] (fun v94 wc => ∃ (kq : Nat) (x94_62 : Bool), v94 = .bool x94_62 ∧ Aside0 (spec_l1Three.j2 kq a1 a2 a3 x94_62 a0_0 l0_1 l0_2 l0_3 = some r) ∧ Aside0 (kq ≤ kj30) ∧ Aside0 (wc.heap[gb290]? = some (.cells #[.int .i64 a0_0, (.slice A0_1 l0_1.length c0_1), (.slice A0_2 l0_2.length c0_2), (.slice A0_3 l0_3.length c0_3)] 37 (0, 0))) ∧ Aside0 (Below w.heap.size w wc))
        case first =>
         have H := HC63.out
         clear HC63
         replace H := Option.bind_eq_some_iff.mp H
         obtain ⟨t310, A660, H⟩ := H
         try dsimp only at H
         have A66 := sd_ A660
         clear A660
         by_cases c67 : t310 = true
         ·subst c67
          have H1 : ((spec_l1Le.f a0_0 l0_1 l0_2 l0_3 a1 a3).bind fun t311 => (spec_l1Three.j2 kj30 a1 a2 a3 (!t311) a0_0 l0_1 l0_2 l0_3)) = some r := by rw [if_pos rfl] at H; exact H
          clear H
          have H := H1
          clear H1
          replace H := Option.bind_eq_some_iff.mp H
          obtain ⟨t311, A680, H⟩ := H
          try dsimp only at H
          have A68 := sd_ A680
          clear A680
          have H' := sd_ H
          clear H
          have hcz69_0 : w65.cell? ⟨gb290, 0, none⟩ = some (.int .i64 a0_0) := (blk_cell BK290.out 0).trans rfl
          have hcz69_1 : w65.cell? ⟨gb290, 1, none⟩ = some (.slice A0_1 l0_1.length c0_1) := (blk_cell BK290.out 1).trans rfl
          have hcz69_2 : w65.cell? ⟨gb290, 2, none⟩ = some (.slice A0_2 l0_2.length c0_2) := (blk_cell BK290.out 2).trans rfl
          have hcz69_3 : w65.cell? ⟨gb290, 3, none⟩ = some (.slice A0_3 l0_3.length c0_3) := (blk_cell BK290.out 3).trans rfl
          have hfz69_0 := blk_frozen BK290.out 0
          have hfz69_1 := blk_frozen BK290.out 1
          have hfz69_2 := blk_frozen BK290.out 2
          have hfz69_3 := blk_frozen BK290.out 3
          go_wp2_with (first | ((with_reducible refine gate_callee (f := 110) rfl ?_); refine goesL_ (some 87) rfl rfl Try.func110 (by kernel_rfl) rfl #[.agg #[.int .i64 a0_0, .slice A0_1 l0_1.length c0_1, .slice A0_2 l0_2.length c0_2, .slice A0_3 l0_3.length c0_3], .int .i64 a2, .int .i64 a3] rfl (by (try simp only [List.map_toArray, List.map_cons, List.map_nil]); first | done | rfl | (simp only [List.length_drop, List.length_take]; rfl)) ?_; (with_reducible refine (spec_l1Le.calls a0_0 _ _ l0_1 _ _ l0_2 _ _ l0_3 a2 a3 true _ ?side1 ?side2 ?side3 ?side4 ?side5 ?side6 A66.out).mono ?_); (case side1 => exact kc_ HR0_1.out HB.out); (case side2 => exact HC0_1.out); (case side3 => exact kc_ HR0_2.out HB.out); (case side4 => exact HC0_2.out); (case side5 => exact kc_ HR0_3.out HB.out); (case side6 => exact HC0_3.out); rintro e w70 ⟨rfl, hb⟩; refine ⟨_, rfl, ?_⟩; replace BK290 := sd_ (bb_ BK290.out hb); replace HB := sd_ (below_step (bw1_ HB.out GE290.out) hb); (try clear hb); (try clear hb2); (try clear hk); (try clear hi); have hcz71_0 : w70.cell? ⟨gb290, 0, none⟩ = some (.int .i64 a0_0) := (blk_cell BK290.out 0).trans rfl; have hcz71_1 : w70.cell? ⟨gb290, 1, none⟩ = some (.slice A0_1 l0_1.length c0_1) := (blk_cell BK290.out 1).trans rfl; have hcz71_2 : w70.cell? ⟨gb290, 2, none⟩ = some (.slice A0_2 l0_2.length c0_2) := (blk_cell BK290.out 2).trans rfl; have hcz71_3 : w70.cell? ⟨gb290, 3, none⟩ = some (.slice A0_3 l0_3.length c0_3) := (blk_cell BK290.out 3).trans rfl; have hfz71_0 := blk_frozen BK290.out 0; have hfz71_1 := blk_frozen BK290.out 1; have hfz71_2 := blk_frozen BK290.out 2; have hfz71_3 := blk_frozen BK290.out 3) | (go_at_call 110; (with_reducible refine (spec_l1Le.calls a0_0 _ _ l0_1 _ _ l0_2 _ _ l0_3 a1 a3 t311 _ ?side1 ?side2 ?side3 ?side4 ?side5 ?side6 A68.out).mono ?_); (case side1 => exact kc_ HR0_1.out HB.out); (case side2 => exact HC0_1.out); (case side3 => exact kc_ HR0_2.out HB.out); (case side4 => exact HC0_2.out); (case side5 => exact kc_ HR0_3.out HB.out); (case side6 => exact HC0_3.out); rintro e w72 ⟨rfl, hb⟩; replace BK290 := sd_ (bb_ BK290.out hb); replace HB := sd_ (below_step (bw1_ HB.out GE290.out) hb); (try clear hb); (try clear hb2); (try clear hk); (try clear hi)))
          go_meet
          case rel => exact ⟨_, (!t311), (by first | rfl | (simp; done) | (simp [*]; done)), H', ⟨by have := HJ4.out; have := HJ30.out; first | omega | exact Nat.le_refl _⟩, ⟨by (with_reducible repeat (first | refine blk_drewN ?_ _ | refine blk_drew ?_ | refine blk_alloc ?_ _)); exact BK290.out⟩, ⟨bw1_ HB.out GE290.out⟩⟩
         ·replace c67 := Bool.eq_false_iff.mpr c67
          subst c67
          have H1 : (spec_l1Three.j2 kj30 a1 a2 a3 false a0_0 l0_1 l0_2 l0_3) = some r := by rw [if_neg (show ¬ (false = true) by decide)] at H; exact H
          clear H
          have H := H1
          clear H1
          have H' := sd_ H
          clear H
          have hcz73_0 : w65.cell? ⟨gb290, 0, none⟩ = some (.int .i64 a0_0) := (blk_cell BK290.out 0).trans rfl
          have hcz73_1 : w65.cell? ⟨gb290, 1, none⟩ = some (.slice A0_1 l0_1.length c0_1) := (blk_cell BK290.out 1).trans rfl
          have hcz73_2 : w65.cell? ⟨gb290, 2, none⟩ = some (.slice A0_2 l0_2.length c0_2) := (blk_cell BK290.out 2).trans rfl
          have hcz73_3 : w65.cell? ⟨gb290, 3, none⟩ = some (.slice A0_3 l0_3.length c0_3) := (blk_cell BK290.out 3).trans rfl
          have hfz73_0 := blk_frozen BK290.out 0
          have hfz73_1 := blk_frozen BK290.out 1
          have hfz73_2 := blk_frozen BK290.out 2
          have hfz73_3 := blk_frozen BK290.out 3
          go_wp2_with (first | ((with_reducible refine gate_callee (f := 110) rfl ?_); refine goesL_ (some 87) rfl rfl Try.func110 (by kernel_rfl) rfl #[.agg #[.int .i64 a0_0, .slice A0_1 l0_1.length c0_1, .slice A0_2 l0_2.length c0_2, .slice A0_3 l0_3.length c0_3], .int .i64 a2, .int .i64 a3] rfl (by (try simp only [List.map_toArray, List.map_cons, List.map_nil]); first | done | rfl | (simp only [List.length_drop, List.length_take]; rfl)) ?_; (with_reducible refine (spec_l1Le.calls a0_0 _ _ l0_1 _ _ l0_2 _ _ l0_3 a2 a3 false _ ?side1 ?side2 ?side3 ?side4 ?side5 ?side6 A66.out).mono ?_); (case side1 => exact kc_ HR0_1.out HB.out); (case side2 => exact HC0_1.out); (case side3 => exact kc_ HR0_2.out HB.out); (case side4 => exact HC0_2.out); (case side5 => exact kc_ HR0_3.out HB.out); (case side6 => exact HC0_3.out); rintro e w74 ⟨rfl, hb⟩; refine ⟨_, rfl, ?_⟩; replace BK290 := sd_ (bb_ BK290.out hb); replace HB := sd_ (below_step (bw1_ HB.out GE290.out) hb); (try clear hb); (try clear hb2); (try clear hk); (try clear hi)))
          go_meet
          case rel => exact ⟨_, (false), (by first | rfl | (simp; done) | (simp [*]; done)), H', ⟨by have := HJ4.out; have := HJ30.out; first | omega | exact Nat.le_refl _⟩, ⟨by (with_reducible repeat (first | refine blk_drewN ?_ _ | refine blk_drew ?_ | refine blk_alloc ?_ _)); exact BK290.out⟩, ⟨bw1_ HB.out GE290.out⟩⟩
        case rest =>
         clear HC63
         try clear c1
         try clear c3
         try clear c6
         try clear c9
         try clear c11
         try clear c30
         try clear c60
         try clear c62
         try clear hcz64_0
         try clear hcz64_1
         try clear hcz64_2
         try clear hcz64_3
         try clear hfz64_0
         try clear hfz64_1
         try clear hfz64_2
         try clear hfz64_3
         obtain ⟨kq, x94_62, rfl, HA, HJ62, BK290, HB⟩ := hcut
         cases kq with
         | zero => exact absurd HA.out (by simp [spec_l1Three.j2])
         | succ kj62 =>
          have H := HA.out
          clear HA
          simp only [spec_l1Three.j2] at H
          by_cases c75 : x94_62 = true
          ·subst c75
           have H1 : (some false) = some r := by rw [if_pos rfl] at H; exact H
           clear H
           have H := H1
           clear H1
           obtain rfl := Option.some.inj H
           go_wp2
           go_ret
           exact ⟨an_, bw1_ HB.out GE290.out⟩
          ·replace c75 := Bool.eq_false_iff.mpr c75
           subst c75
           have H1 : ((spec_l1Add.f a0_0 l0_1 l0_2 l0_3 a1 a3).bind fun t312 => ((spec_l1Add.f a0_0 l0_1 l0_2 l0_3 a2 a3).bind fun t313 => ((spec_l1Le.f a0_0 l0_1 l0_2 l0_3 t312 t313).bind fun t314 => (if t314 = true then ((spec_l1Mul.f a0_0 l0_1 l0_2 l0_3 a1 a3).bind fun t315 => ((spec_l1Mul.f a0_0 l0_1 l0_2 l0_3 a2 a3).bind fun t316 => ((spec_l1Le.f a0_0 l0_1 l0_2 l0_3 t315 t316).bind fun t317 => (if t317 = true then ((spec_l1Mul.f a0_0 l0_1 l0_2 l0_3 a3 a1).bind fun t318 => ((spec_l1Mul.f a0_0 l0_1 l0_2 l0_3 a3 a2).bind fun t319 => ((spec_l1Le.f a0_0 l0_1 l0_2 l0_3 t318 t319).bind fun t320 => (some t320)))) else (some false))))) else (some false))))) = some r := by rw [if_neg (show ¬ (false = true) by decide)] at H; exact H
           clear H
           have H := H1
           clear H1
           replace H := Option.bind_eq_some_iff.mp H
           obtain ⟨t312, A760, H⟩ := H
           try dsimp only at H
           have A76 := sd_ A760
           clear A760
           replace H := Option.bind_eq_some_iff.mp H
           obtain ⟨t313, A770, H⟩ := H
           try dsimp only at H
           have A77 := sd_ A770
           clear A770
           replace H := Option.bind_eq_some_iff.mp H
           obtain ⟨t314, A780, H⟩ := H
           try dsimp only at H
           have A78 := sd_ A780
           clear A780
           by_cases c79 : t314 = true
           ·subst c79
            have H1 : ((spec_l1Mul.f a0_0 l0_1 l0_2 l0_3 a1 a3).bind fun t315 => ((spec_l1Mul.f a0_0 l0_1 l0_2 l0_3 a2 a3).bind fun t316 => ((spec_l1Le.f a0_0 l0_1 l0_2 l0_3 t315 t316).bind fun t317 => (if t317 = true then ((spec_l1Mul.f a0_0 l0_1 l0_2 l0_3 a3 a1).bind fun t318 => ((spec_l1Mul.f a0_0 l0_1 l0_2 l0_3 a3 a2).bind fun t319 => ((spec_l1Le.f a0_0 l0_1 l0_2 l0_3 t318 t319).bind fun t320 => (some t320)))) else (some false))))) = some r := by rw [if_pos rfl] at H; exact H
            clear H
            have H := H1
            clear H1
            replace H := Option.bind_eq_some_iff.mp H
            obtain ⟨t315, A800, H⟩ := H
            try dsimp only at H
            have A80 := sd_ A800
            clear A800
            replace H := Option.bind_eq_some_iff.mp H
            obtain ⟨t316, A810, H⟩ := H
            try dsimp only at H
            have A81 := sd_ A810
            clear A810
            replace H := Option.bind_eq_some_iff.mp H
            obtain ⟨t317, A820, H⟩ := H
            try dsimp only at H
            have A82 := sd_ A820
            clear A820
            by_cases c83 : t317 = true
            ·subst c83
             have H1 : ((spec_l1Mul.f a0_0 l0_1 l0_2 l0_3 a3 a1).bind fun t318 => ((spec_l1Mul.f a0_0 l0_1 l0_2 l0_3 a3 a2).bind fun t319 => ((spec_l1Le.f a0_0 l0_1 l0_2 l0_3 t318 t319).bind fun t320 => (some t320)))) = some r := by rw [if_pos rfl] at H; exact H
             clear H
             have H := H1
             clear H1
             replace H := Option.bind_eq_some_iff.mp H
             obtain ⟨t318, A840, H⟩ := H
             try dsimp only at H
             have A84 := sd_ A840
             clear A840
             replace H := Option.bind_eq_some_iff.mp H
             obtain ⟨t319, A850, H⟩ := H
             try dsimp only at H
             have A85 := sd_ A850
             clear A850
             replace H := Option.bind_eq_some_iff.mp H
             obtain ⟨t320, A860, H⟩ := H
             try dsimp only at H
             have A86 := sd_ A860
             clear A860
             obtain rfl := Option.some.inj H
             try go_wp2
             refine qb_region (by kernel_rfl) (by kernel_rfl) ?_
             have HQ := fun (wq : World) (hq : Below wc.heap.size wc wq) => below_step HB.out hq
             repeat ((first | (apply qb_skip; (focus rfl)) | (refine qb_callN 99 rfl ?_; apply qb_call 99 rfl Try.func108 (by kernel_rfl) rfl rfl; (focus rfl); (focus (exact fun wq9 hb9 => qb_b hb9 (spec_l1Add.calls a0_0 _ _ l0_1 _ _ l0_2 _ _ l0_3 a1 a3 t312 _ (Kd.C_below HR0_1.out (HQ _ hb9)) HC0_1.out (Kd.C_below HR0_2.out (HQ _ hb9)) HC0_2.out (Kd.C_below HR0_3.out (HQ _ hb9)) HC0_3.out A76.out))); (focus (rfl))) | (refine qb_callN 103 rfl ?_; apply qb_call 103 rfl Try.func108 (by kernel_rfl) rfl rfl; (focus rfl); (focus (exact fun wq9 hb9 => qb_b hb9 (spec_l1Add.calls a0_0 _ _ l0_1 _ _ l0_2 _ _ l0_3 a2 a3 t313 _ (Kd.C_below HR0_1.out (HQ _ hb9)) HC0_1.out (Kd.C_below HR0_2.out (HQ _ hb9)) HC0_2.out (Kd.C_below HR0_3.out (HQ _ hb9)) HC0_3.out A77.out))); (focus (rfl))) | (refine qb_callN 104 rfl ?_; apply qb_call 104 rfl Try.func110 (by kernel_rfl) rfl rfl; (focus rfl); (focus (exact fun wq9 hb9 => qb_b hb9 (spec_l1Le.calls a0_0 _ _ l0_1 _ _ l0_2 _ _ l0_3 t312 t313 true _ (Kd.C_below HR0_1.out (HQ _ hb9)) HC0_1.out (Kd.C_below HR0_2.out (HQ _ hb9)) HC0_2.out (Kd.C_below HR0_3.out (HQ _ hb9)) HC0_3.out A78.out))); (focus (rfl))) | (refine qb_callN 110 rfl ?_; apply qb_call 110 rfl Try.func109 (by kernel_rfl) rfl rfl; (focus rfl); (focus (exact fun wq9 hb9 => qb_b hb9 (spec_l1Mul.calls a0_0 _ _ l0_1 _ _ l0_2 _ _ l0_3 a1 a3 t315 _ (Kd.C_below HR0_1.out (HQ _ hb9)) HC0_1.out (Kd.C_below HR0_2.out (HQ _ hb9)) HC0_2.out (Kd.C_below HR0_3.out (HQ _ hb9)) HC0_3.out A80.out))); (focus (rfl))) | (refine qb_callN 114 rfl ?_; apply qb_call 114 rfl Try.func109 (by kernel_rfl) rfl rfl; (focus rfl); (focus (exact fun wq9 hb9 => qb_b hb9 (spec_l1Mul.calls a0_0 _ _ l0_1 _ _ l0_2 _ _ l0_3 a2 a3 t316 _ (Kd.C_below HR0_1.out (HQ _ hb9)) HC0_1.out (Kd.C_below HR0_2.out (HQ _ hb9)) HC0_2.out (Kd.C_below HR0_3.out (HQ _ hb9)) HC0_3.out A81.out))); (focus (rfl))) | (refine qb_callN 115 rfl ?_; apply qb_call 115 rfl Try.func110 (by kernel_rfl) rfl rfl; (focus rfl); (focus (exact fun wq9 hb9 => qb_b hb9 (spec_l1Le.calls a0_0 _ _ l0_1 _ _ l0_2 _ _ l0_3 t315 t316 true _ (Kd.C_below HR0_1.out (HQ _ hb9)) HC0_1.out (Kd.C_below HR0_2.out (HQ _ hb9)) HC0_2.out (Kd.C_below HR0_3.out (HQ _ hb9)) HC0_3.out A82.out))); (focus (rfl))) | (refine qb_callN 122 rfl ?_; apply qb_call 122 rfl Try.func109 (by kernel_rfl) rfl rfl; (focus rfl); (focus (exact fun wq9 hb9 => qb_b hb9 (spec_l1Mul.calls a0_0 _ _ l0_1 _ _ l0_2 _ _ l0_3 a3 a1 t318 _ (Kd.C_below HR0_1.out (HQ _ hb9)) HC0_1.out (Kd.C_below HR0_2.out (HQ _ hb9)) HC0_2.out (Kd.C_below HR0_3.out (HQ _ hb9)) HC0_3.out A84.out))); (focus (rfl))) | (refine qb_callN 126 rfl ?_; apply qb_call 126 rfl Try.func109 (by kernel_rfl) rfl rfl; (focus rfl); (focus (exact fun wq9 hb9 => qb_b hb9 (spec_l1Mul.calls a0_0 _ _ l0_1 _ _ l0_2 _ _ l0_3 a3 a2 t319 _ (Kd.C_below HR0_1.out (HQ _ hb9)) HC0_1.out (Kd.C_below HR0_2.out (HQ _ hb9)) HC0_2.out (Kd.C_below HR0_3.out (HQ _ hb9)) HC0_3.out A85.out))); (focus (rfl))) | (refine qb_callN 127 rfl ?_; apply qb_call 127 rfl Try.func110 (by kernel_rfl) rfl rfl; (focus rfl); (focus (exact fun wq9 hb9 => qb_b hb9 (spec_l1Le.calls a0_0 _ _ l0_1 _ _ l0_2 _ _ l0_3 t318 t319 t320 _ (Kd.C_below HR0_1.out (HQ _ hb9)) HC0_1.out (Kd.C_below HR0_2.out (HQ _ hb9)) HC0_2.out (Kd.C_below HR0_3.out (HQ _ hb9)) HC0_3.out A86.out))); (focus (rfl))) | (apply qb_val; (focus rfl); (focus (intro wq9 _; go_simp; with_reducible rfl))) | (apply qb_val; (focus rfl); (focus (intro wq9 hb9_; have hb9 : Below wc.heap.size wc wq9 := hb9_; have BK290 := sd_ (blk_below BK290.out hb9); have hc9_290_0 : wq9.cell? ⟨gb290, 0, none⟩ = some (.int .i64 a0_0) := (blk_cell BK290.out 0).trans rfl; have hc9_290_1 : wq9.cell? ⟨gb290, 1, none⟩ = some (.slice A0_1 l0_1.length c0_1) := (blk_cell BK290.out 1).trans rfl; have hc9_290_2 : wq9.cell? ⟨gb290, 2, none⟩ = some (.slice A0_2 l0_2.length c0_2) := (blk_cell BK290.out 2).trans rfl; have hc9_290_3 : wq9.cell? ⟨gb290, 3, none⟩ = some (.slice A0_3 l0_3.length c0_3) := (blk_cell BK290.out 3).trans rfl; go_simp; with_reducible rfl)))); (focus (simp only [Act.put, List.setIfInBounds_toArray, List.set_cons_zero, List.set_cons_succ, i64_w, i32_w]; rfl)))
             refine qb_nil ?_
             intro w96 hb
             replace BK290 := sd_ (blk_below BK290.out hb)
             replace HB := sd_ (below_step HB.out hb)
             clear hb
             (try clear HQ)
             try go_wp2
             go_ret
             exact ⟨an_, bw1_ HB.out GE290.out⟩
            ·replace c83 := Bool.eq_false_iff.mpr c83
             subst c83
             have H1 : (some false) = some r := by rw [if_neg (show ¬ (false = true) by decide)] at H; exact H
             clear H
             have H := H1
             clear H1
             obtain rfl := Option.some.inj H
             try go_wp2
             refine qb_region (by kernel_rfl) (by kernel_rfl) ?_
             have HQ := fun (wq : World) (hq : Below wc.heap.size wc wq) => below_step HB.out hq
             repeat ((first | (apply qb_skip; (focus rfl)) | (refine qb_callN 99 rfl ?_; apply qb_call 99 rfl Try.func108 (by kernel_rfl) rfl rfl; (focus rfl); (focus (exact fun wq9 hb9 => qb_b hb9 (spec_l1Add.calls a0_0 _ _ l0_1 _ _ l0_2 _ _ l0_3 a1 a3 t312 _ (Kd.C_below HR0_1.out (HQ _ hb9)) HC0_1.out (Kd.C_below HR0_2.out (HQ _ hb9)) HC0_2.out (Kd.C_below HR0_3.out (HQ _ hb9)) HC0_3.out A76.out))); (focus (rfl))) | (refine qb_callN 103 rfl ?_; apply qb_call 103 rfl Try.func108 (by kernel_rfl) rfl rfl; (focus rfl); (focus (exact fun wq9 hb9 => qb_b hb9 (spec_l1Add.calls a0_0 _ _ l0_1 _ _ l0_2 _ _ l0_3 a2 a3 t313 _ (Kd.C_below HR0_1.out (HQ _ hb9)) HC0_1.out (Kd.C_below HR0_2.out (HQ _ hb9)) HC0_2.out (Kd.C_below HR0_3.out (HQ _ hb9)) HC0_3.out A77.out))); (focus (rfl))) | (refine qb_callN 104 rfl ?_; apply qb_call 104 rfl Try.func110 (by kernel_rfl) rfl rfl; (focus rfl); (focus (exact fun wq9 hb9 => qb_b hb9 (spec_l1Le.calls a0_0 _ _ l0_1 _ _ l0_2 _ _ l0_3 t312 t313 true _ (Kd.C_below HR0_1.out (HQ _ hb9)) HC0_1.out (Kd.C_below HR0_2.out (HQ _ hb9)) HC0_2.out (Kd.C_below HR0_3.out (HQ _ hb9)) HC0_3.out A78.out))); (focus (rfl))) | (refine qb_callN 110 rfl ?_; apply qb_call 110 rfl Try.func109 (by kernel_rfl) rfl rfl; (focus rfl); (focus (exact fun wq9 hb9 => qb_b hb9 (spec_l1Mul.calls a0_0 _ _ l0_1 _ _ l0_2 _ _ l0_3 a1 a3 t315 _ (Kd.C_below HR0_1.out (HQ _ hb9)) HC0_1.out (Kd.C_below HR0_2.out (HQ _ hb9)) HC0_2.out (Kd.C_below HR0_3.out (HQ _ hb9)) HC0_3.out A80.out))); (focus (rfl))) | (refine qb_callN 114 rfl ?_; apply qb_call 114 rfl Try.func109 (by kernel_rfl) rfl rfl; (focus rfl); (focus (exact fun wq9 hb9 => qb_b hb9 (spec_l1Mul.calls a0_0 _ _ l0_1 _ _ l0_2 _ _ l0_3 a2 a3 t316 _ (Kd.C_below HR0_1.out (HQ _ hb9)) HC0_1.out (Kd.C_below HR0_2.out (HQ _ hb9)) HC0_2.out (Kd.C_below HR0_3.out (HQ _ hb9)) HC0_3.out A81.out))); (focus (rfl))) | (refine qb_callN 115 rfl ?_; apply qb_call 115 rfl Try.func110 (by kernel_rfl) rfl rfl; (focus rfl); (focus (exact fun wq9 hb9 => qb_b hb9 (spec_l1Le.calls a0_0 _ _ l0_1 _ _ l0_2 _ _ l0_3 t315 t316 false _ (Kd.C_below HR0_1.out (HQ _ hb9)) HC0_1.out (Kd.C_below HR0_2.out (HQ _ hb9)) HC0_2.out (Kd.C_below HR0_3.out (HQ _ hb9)) HC0_3.out A82.out))); (focus (rfl))) | (apply qb_val; (focus rfl); (focus (intro wq9 _; go_simp; with_reducible rfl))) | (apply qb_val; (focus rfl); (focus (intro wq9 hb9_; have hb9 : Below wc.heap.size wc wq9 := hb9_; have BK290 := sd_ (blk_below BK290.out hb9); have hc9_290_0 : wq9.cell? ⟨gb290, 0, none⟩ = some (.int .i64 a0_0) := (blk_cell BK290.out 0).trans rfl; have hc9_290_1 : wq9.cell? ⟨gb290, 1, none⟩ = some (.slice A0_1 l0_1.length c0_1) := (blk_cell BK290.out 1).trans rfl; have hc9_290_2 : wq9.cell? ⟨gb290, 2, none⟩ = some (.slice A0_2 l0_2.length c0_2) := (blk_cell BK290.out 2).trans rfl; have hc9_290_3 : wq9.cell? ⟨gb290, 3, none⟩ = some (.slice A0_3 l0_3.length c0_3) := (blk_cell BK290.out 3).trans rfl; go_simp; with_reducible rfl)))); (focus (simp only [Act.put, List.setIfInBounds_toArray, List.set_cons_zero, List.set_cons_succ, i64_w, i32_w]; rfl)))
             refine qb_nil ?_
             intro w103 hb
             replace BK290 := sd_ (blk_below BK290.out hb)
             replace HB := sd_ (below_step HB.out hb)
             clear hb
             (try clear HQ)
             try go_wp2
             go_ret
             exact ⟨an_, bw1_ HB.out GE290.out⟩
           ·replace c79 := Bool.eq_false_iff.mpr c79
            subst c79
            have H1 : (some false) = some r := by rw [if_neg (show ¬ (false = true) by decide)] at H; exact H
            clear H
            have H := H1
            clear H1
            obtain rfl := Option.some.inj H
            try go_wp2
            refine qb_region (by kernel_rfl) (by kernel_rfl) ?_
            have HQ := fun (wq : World) (hq : Below wc.heap.size wc wq) => below_step HB.out hq
            repeat ((first | (apply qb_skip; (focus rfl)) | (refine qb_callN 99 rfl ?_; apply qb_call 99 rfl Try.func108 (by kernel_rfl) rfl rfl; (focus rfl); (focus (exact fun wq9 hb9 => qb_b hb9 (spec_l1Add.calls a0_0 _ _ l0_1 _ _ l0_2 _ _ l0_3 a1 a3 t312 _ (Kd.C_below HR0_1.out (HQ _ hb9)) HC0_1.out (Kd.C_below HR0_2.out (HQ _ hb9)) HC0_2.out (Kd.C_below HR0_3.out (HQ _ hb9)) HC0_3.out A76.out))); (focus (rfl))) | (refine qb_callN 103 rfl ?_; apply qb_call 103 rfl Try.func108 (by kernel_rfl) rfl rfl; (focus rfl); (focus (exact fun wq9 hb9 => qb_b hb9 (spec_l1Add.calls a0_0 _ _ l0_1 _ _ l0_2 _ _ l0_3 a2 a3 t313 _ (Kd.C_below HR0_1.out (HQ _ hb9)) HC0_1.out (Kd.C_below HR0_2.out (HQ _ hb9)) HC0_2.out (Kd.C_below HR0_3.out (HQ _ hb9)) HC0_3.out A77.out))); (focus (rfl))) | (refine qb_callN 104 rfl ?_; apply qb_call 104 rfl Try.func110 (by kernel_rfl) rfl rfl; (focus rfl); (focus (exact fun wq9 hb9 => qb_b hb9 (spec_l1Le.calls a0_0 _ _ l0_1 _ _ l0_2 _ _ l0_3 t312 t313 false _ (Kd.C_below HR0_1.out (HQ _ hb9)) HC0_1.out (Kd.C_below HR0_2.out (HQ _ hb9)) HC0_2.out (Kd.C_below HR0_3.out (HQ _ hb9)) HC0_3.out A78.out))); (focus (rfl))) | (apply qb_val; (focus rfl); (focus (intro wq9 _; go_simp; with_reducible rfl))) | (apply qb_val; (focus rfl); (focus (intro wq9 hb9_; have hb9 : Below wc.heap.size wc wq9 := hb9_; have BK290 := sd_ (blk_below BK290.out hb9); have hc9_290_0 : wq9.cell? ⟨gb290, 0, none⟩ = some (.int .i64 a0_0) := (blk_cell BK290.out 0).trans rfl; have hc9_290_1 : wq9.cell? ⟨gb290, 1, none⟩ = some (.slice A0_1 l0_1.length c0_1) := (blk_cell BK290.out 1).trans rfl; have hc9_290_2 : wq9.cell? ⟨gb290, 2, none⟩ = some (.slice A0_2 l0_2.length c0_2) := (blk_cell BK290.out 2).trans rfl; have hc9_290_3 : wq9.cell? ⟨gb290, 3, none⟩ = some (.slice A0_3 l0_3.length c0_3) := (blk_cell BK290.out 3).trans rfl; go_simp; with_reducible rfl)))); (focus (simp only [Act.put, List.setIfInBounds_toArray, List.set_cons_zero, List.set_cons_succ, i64_w, i32_w]; rfl)))
            refine qb_nil ?_
            intro w107 hb
            replace BK290 := sd_ (blk_below BK290.out hb)
            replace HB := sd_ (below_step HB.out hb)
            clear hb
            (try clear HQ)
            try go_wp2
            go_ret
            exact ⟨an_, bw1_ HB.out GE290.out⟩
       ·replace c62 := Bool.eq_false_iff.mpr c62
        subst c62
        have H1 : (some true) = some r := by rw [if_neg (show ¬ (false = true) by decide)] at H; exact H
        clear H
        have H := H1
        clear H1
        obtain rfl := Option.some.inj H
        have hcz108_0 : wc.cell? ⟨gb290, 0, none⟩ = some (.int .i64 a0_0) := (blk_cell BK290.out 0).trans rfl
        have hcz108_1 : wc.cell? ⟨gb290, 1, none⟩ = some (.slice A0_1 l0_1.length c0_1) := (blk_cell BK290.out 1).trans rfl
        have hcz108_2 : wc.cell? ⟨gb290, 2, none⟩ = some (.slice A0_2 l0_2.length c0_2) := (blk_cell BK290.out 2).trans rfl
        have hcz108_3 : wc.cell? ⟨gb290, 3, none⟩ = some (.slice A0_3 l0_3.length c0_3) := (blk_cell BK290.out 3).trans rfl
        have hfz108_0 := blk_frozen BK290.out 0
        have hfz108_1 := blk_frozen BK290.out 1
        have hfz108_2 := blk_frozen BK290.out 2
        have hfz108_3 := blk_frozen BK290.out 3
        go_wp2_with (first | ((with_reducible refine gate_callee (f := 110) rfl ?_); refine goesL_ (some 82) rfl rfl Try.func110 (by kernel_rfl) rfl #[.agg #[.int .i64 a0_0, .slice A0_1 l0_1.length c0_1, .slice A0_2 l0_2.length c0_2, .slice A0_3 l0_3.length c0_3], .int .i64 a1, .int .i64 a2] rfl (by (try simp only [List.map_toArray, List.map_cons, List.map_nil]); first | done | rfl | (simp only [List.length_drop, List.length_take]; rfl)) ?_; (with_reducible refine (spec_l1Le.calls a0_0 _ _ l0_1 _ _ l0_2 _ _ l0_3 a1 a2 false _ ?side1 ?side2 ?side3 ?side4 ?side5 ?side6 A61.out).mono ?_); (case side1 => exact kc_ HR0_1.out HB.out); (case side2 => exact HC0_1.out); (case side3 => exact kc_ HR0_2.out HB.out); (case side4 => exact HC0_2.out); (case side5 => exact kc_ HR0_3.out HB.out); (case side6 => exact HC0_3.out); rintro e w109 ⟨rfl, hb⟩; refine ⟨_, rfl, ?_⟩; replace BK290 := sd_ (bb_ BK290.out hb); replace HB := sd_ (below_step (bw1_ HB.out GE290.out) hb); (try clear hb); (try clear hb2); (try clear hk); (try clear hi)))
        go_ret
        exact ⟨an_, bw1_ HB.out GE290.out⟩

end Go.Proofs.Ytnokgkhkmnldeaa.P
