-- Printed by this session's own program (wip/tools/mkprint.py) out of the translation. Not trusted: Lean checks it.
import Derived.Test.YtipfkicndjddgaaP0
import Derived.Test.YtipfkicndjddgaaM5
/-! short words -/
namespace Go.Proofs.Ytipfkicndjddgaa.P
open Go.RowKit Go.Proofs.YtipfkicndjddgaaW.PrintWords Go.Proofs.YtipfkicndjddgaaW.PrintLast Go.Proofs.YtipfkicndjddgaaW.PrintMore
attribute [local go_sem] max2_int min2_int max_two min_two max_three min_three max_four min_four   -- for this text's walks alone
set_option linter.unusedVariables false
set_option linter.unusedSimpArgs false

/-! ### impl_System_lawsOf: function 107 -/
mutual
def impl_System_lawsOf.j0 : Nat → Int → Int → Int → Bool → Int → List Int → List Int → List Bool → Option (Bool)
 | 0, _, _, _, _, _, _, _, _ => none
 | k + 1, x1, x2, x3, x40, x279000, x279001, x279002, x279003 => if x40 = true then (some false) else ((impl_System_plus.f x279000 x279001 x279002 x279003 x2 x3).bind fun t287 => ((impl_System_times.f x279000 x279001 x279002 x279003 x1 t287).bind fun t288 => ((impl_System_times.f x279000 x279001 x279002 x279003 x1 x2).bind fun t289 => ((impl_System_times.f x279000 x279001 x279002 x279003 x1 x3).bind fun t290 => ((impl_System_plus.f x279000 x279001 x279002 x279003 t289 t290).bind fun t291 => (if t288 = t291 then ((impl_System_plus.f x279000 x279001 x279002 x279003 x1 x2).bind fun t292 => ((impl_System_times.f x279000 x279001 x279002 x279003 t292 x3).bind fun t293 => ((impl_System_times.f x279000 x279001 x279002 x279003 x1 x3).bind fun t294 => ((impl_System_times.f x279000 x279001 x279002 x279003 x2 x3).bind fun t295 => ((impl_System_plus.f x279000 x279001 x279002 x279003 t294 t295).bind fun t296 => (impl_System_lawsOf.j1 k x1 x2 x3 (t293 != t296) x279000 x279001 x279002 x279003)))))) else (impl_System_lawsOf.j1 k x1 x2 x3 true x279000 x279001 x279002 x279003)))))))
def impl_System_lawsOf.j1 : Nat → Int → Int → Int → Bool → Int → List Int → List Int → List Bool → Option (Bool)
 | 0, _, _, _, _, _, _, _, _ => none
 | k + 1, x1, x2, x3, x78, x279000, x279001, x279002, x279003 => if x78 = true then (some false) else ((impl_System_below.f x279000 x279001 x279002 x279003 x1 x2).bind fun t297 => (if t297 = true then ((impl_System_below.f x279000 x279001 x279002 x279003 x2 x3).bind fun t298 => (if t298 = true then ((impl_System_below.f x279000 x279001 x279002 x279003 x1 x3).bind fun t299 => (impl_System_lawsOf.j2 k x1 x2 x3 (!t299) x279000 x279001 x279002 x279003)) else (impl_System_lawsOf.j2 k x1 x2 x3 false x279000 x279001 x279002 x279003))) else (impl_System_lawsOf.j2 k x1 x2 x3 false x279000 x279001 x279002 x279003)))
def impl_System_lawsOf.j2 : Nat → Int → Int → Int → Bool → Int → List Int → List Int → List Bool → Option (Bool)
 | 0, _, _, _, _, _, _, _, _ => none
 | k + 1, x1, x2, x3, x95, x279000, x279001, x279002, x279003 => if x95 = true then (some false) else ((impl_System_below.f x279000 x279001 x279002 x279003 x1 x2).bind fun t300 => (if t300 = true then ((impl_System_plus.f x279000 x279001 x279002 x279003 x1 x3).bind fun t301 => ((impl_System_plus.f x279000 x279001 x279002 x279003 x2 x3).bind fun t302 => ((impl_System_below.f x279000 x279001 x279002 x279003 t301 t302).bind fun t303 => (if t303 = true then ((impl_System_times.f x279000 x279001 x279002 x279003 x1 x3).bind fun t304 => ((impl_System_times.f x279000 x279001 x279002 x279003 x2 x3).bind fun t305 => ((impl_System_below.f x279000 x279001 x279002 x279003 t304 t305).bind fun t306 => (if t306 = true then ((impl_System_times.f x279000 x279001 x279002 x279003 x3 x1).bind fun t307 => ((impl_System_times.f x279000 x279001 x279002 x279003 x3 x2).bind fun t308 => ((impl_System_below.f x279000 x279001 x279002 x279003 t307 t308).bind fun t309 => (some t309)))) else (some false))))) else (some false))))) else (some true)))
end
def impl_System_lawsOf.f (k : Nat) (a0_0 : Int) (l0_1 : List Int) (l0_2 : List Int) (l0_3 : List Bool) (a1 : Int) (a2 : Int) (a3 : Int) : Option (Bool) := (impl_System_plus.f a0_0 l0_1 l0_2 l0_3 a1 a2).bind fun t279 => ((impl_System_plus.f a0_0 l0_1 l0_2 l0_3 t279 a3).bind fun t280 => ((impl_System_plus.f a0_0 l0_1 l0_2 l0_3 a2 a3).bind fun t281 => ((impl_System_plus.f a0_0 l0_1 l0_2 l0_3 a1 t281).bind fun t282 => (if t280 = t282 then ((impl_System_times.f a0_0 l0_1 l0_2 l0_3 a1 a2).bind fun t283 => ((impl_System_times.f a0_0 l0_1 l0_2 l0_3 t283 a3).bind fun t284 => ((impl_System_times.f a0_0 l0_1 l0_2 l0_3 a2 a3).bind fun t285 => ((impl_System_times.f a0_0 l0_1 l0_2 l0_3 a1 t285).bind fun t286 => (impl_System_lawsOf.j0 k a1 a2 a3 (t284 != t286) a0_0 l0_1 l0_2 l0_3))))) else (impl_System_lawsOf.j0 k a1 a2 a3 true a0_0 l0_1 l0_2 l0_3)))))
set_option maxHeartbeats 8000000 in
set_option maxRecDepth 100000 in
theorem impl_System_lawsOf.calls (k : Nat) (a0_0 : Int) (A0_1 : Option Addr) (c0_1 : Nat) (l0_1 : List Int) (A0_2 : Option Addr) (c0_2 : Nat) (l0_2 : List Int) (A0_3 : Option Addr) (c0_3 : Nat) (l0_3 : List Bool) (a1 : Int) (a2 : Int) (a3 : Int) (r : Bool) (w : World) (hr0_1 : Kd.C (Kd.int .i64) w A0_1 l0_1.length l0_1) (hc0_1 : l0_1.length ≤ c0_1) (hr0_2 : Kd.C (Kd.int .i64) w A0_2 l0_2.length l0_2) (hc0_2 : l0_2.length ≤ c0_2) (hr0_3 : Kd.C Kd.bool w A0_3 l0_3.length l0_3) (hc0_3 : l0_3.length ≤ c0_3) (h : impl_System_lawsOf.f k a0_0 l0_1 l0_2 l0_3 a1 a2 a3 = some r) :
  Calls Try.prog 107 #[.agg #[.int .i64 a0_0, .slice A0_1 l0_1.length c0_1, .slice A0_2 l0_2.length c0_2, .slice A0_3 l0_3.length c0_3], .int .i64 a1, .int .i64 a2, .int .i64 a3] w fun e w' => e = .returned (.bool r) ∧ Below w.heap.size w w' := by
 have hu27 := Try.underlying27
 have HR0_1 := sd_ hr0_1
 have HC0_1 := sd_ hc0_1
 clear hr0_1 hc0_1
 have HR0_2 := sd_ hr0_2
 have HC0_2 := sd_ hc0_2
 clear hr0_2 hc0_2
 have HR0_3 := sd_ hr0_3
 have HC0_3 := sd_ hc0_3
 clear hr0_3 hc0_3
 have HB := sd_ (Below.refl w.heap.size w)
 have H : ((impl_System_plus.f a0_0 l0_1 l0_2 l0_3 a1 a2).bind fun t279 => ((impl_System_plus.f a0_0 l0_1 l0_2 l0_3 t279 a3).bind fun t280 => ((impl_System_plus.f a0_0 l0_1 l0_2 l0_3 a2 a3).bind fun t281 => ((impl_System_plus.f a0_0 l0_1 l0_2 l0_3 a1 t281).bind fun t282 => (if t280 = t282 then ((impl_System_times.f a0_0 l0_1 l0_2 l0_3 a1 a2).bind fun t283 => ((impl_System_times.f a0_0 l0_1 l0_2 l0_3 t283 a3).bind fun t284 => ((impl_System_times.f a0_0 l0_1 l0_2 l0_3 a2 a3).bind fun t285 => ((impl_System_times.f a0_0 l0_1 l0_2 l0_3 a1 t285).bind fun t286 => (impl_System_lawsOf.j0 k a1 a2 a3 (t284 != t286) a0_0 l0_1 l0_2 l0_3))))) else (impl_System_lawsOf.j0 k a1 a2 a3 true a0_0 l0_1 l0_2 l0_3)))))) = some r := h
 clear h
 have HC5 := sd_ H
 clear H
 go_enter Try.func107, Try.ntmps107
 go_upto_region 1 with (first | ((with_reducible refine gate_dst (N := 4) rfl ?_); refine bx_ (N := 4) (cs := #[.int .i64 a0_0, .slice A0_1 l0_1.length c0_1, .slice A0_2 l0_2.length c0_2, .slice A0_3 l0_3.length c0_3]) (t := 27) ?_; intro gb278 hg w6 hbox hb; have BK278 := sd_ (hbox); have GW278 := sd_ (gs_ hg (bw0_ HB.out)); have GE278 := sd_ (gs_ hg (bw0_ HB.out)); replace HB := sd_ (below_step (bw0_ HB.out) hb); clear hb hbox hg))
 (try simp only [Act.put, List.setIfInBounds_toArray, List.set_cons_zero, List.set_cons_succ])
 go_cut [40] (fun v40 wc => ∃ (kq : Nat) (x40_4 : Bool), v40 = .bool x40_4 ∧ Aside0 (impl_System_lawsOf.j0 kq a1 a2 a3 x40_4 a0_0 l0_1 l0_2 l0_3 = some r) ∧ Aside0 (kq ≤ k) ∧ Aside0 (wc.heap[gb278]? = some (.cells #[.int .i64 a0_0, (.slice A0_1 l0_1.length c0_1), (.slice A0_2 l0_2.length c0_2), (.slice A0_3 l0_3.length c0_3)] 27 (0, 0))) ∧ Aside0 (Below w.heap.size w wc))
 case first =>
  have H := HC5.out
  clear HC5
  replace H := Option.bind_eq_some_iff.mp H
  obtain ⟨t279, A70, H⟩ := H
  try dsimp only at H
  have A7 := sd_ A70
  clear A70
  replace H := Option.bind_eq_some_iff.mp H
  obtain ⟨t280, A80, H⟩ := H
  try dsimp only at H
  have A8 := sd_ A80
  clear A80
  replace H := Option.bind_eq_some_iff.mp H
  obtain ⟨t281, A90, H⟩ := H
  try dsimp only at H
  have A9 := sd_ A90
  clear A90
  replace H := Option.bind_eq_some_iff.mp H
  obtain ⟨t282, A100, H⟩ := H
  try dsimp only at H
  have A10 := sd_ A100
  clear A100
  by_cases c11 : t280 = t282
  ·rw [if_pos c11] at H
   have c11b0 : (t280 == t282) = true := beq_iff_eq.mpr c11
   have c11b1 : (t280 != t282) = false := bne_eq_false_iff_eq.mpr c11
   clear c11
   (first | rw [c11b0] | (simp only [i64_w, i32_w]; rw [c11b0]) | skip)
   replace H := Option.bind_eq_some_iff.mp H
   obtain ⟨t283, A120, H⟩ := H
   try dsimp only at H
   have A12 := sd_ A120
   clear A120
   replace H := Option.bind_eq_some_iff.mp H
   obtain ⟨t284, A130, H⟩ := H
   try dsimp only at H
   have A13 := sd_ A130
   clear A130
   replace H := Option.bind_eq_some_iff.mp H
   obtain ⟨t285, A140, H⟩ := H
   try dsimp only at H
   have A14 := sd_ A140
   clear A140
   replace H := Option.bind_eq_some_iff.mp H
   obtain ⟨t286, A150, H⟩ := H
   try dsimp only at H
   have A15 := sd_ A150
   clear A150
   have H' := sd_ H
   clear H
   try go_wp2
   refine qb_region (by kernel_rfl) (by kernel_rfl) ?_
   have HQ := fun (wq : World) (hq : Below w6.heap.size w6 wq) => below_step HB.out hq
   repeat ((first | (apply qb_skip; (focus rfl)) | (refine qb_callN 13 rfl ?_; apply qb_call 13 rfl Try.func49 (by kernel_rfl) rfl rfl; (focus rfl); (focus (exact fun wq9 hb9 => qb_b hb9 (impl_System_plus.calls a0_0 _ _ l0_1 _ _ l0_2 _ _ l0_3 a1 a2 t279 _ (Kd.C_below HR0_1.out (HQ _ hb9)) HC0_1.out (Kd.C_below HR0_2.out (HQ _ hb9)) HC0_2.out (Kd.C_below HR0_3.out (HQ _ hb9)) HC0_3.out A7.out))); (focus (rfl))) | (refine qb_callN 15 rfl ?_; apply qb_call 15 rfl Try.func49 (by kernel_rfl) rfl rfl; (focus rfl); (focus (exact fun wq9 hb9 => qb_b hb9 (impl_System_plus.calls a0_0 _ _ l0_1 _ _ l0_2 _ _ l0_3 t279 a3 t280 _ (Kd.C_below HR0_1.out (HQ _ hb9)) HC0_1.out (Kd.C_below HR0_2.out (HQ _ hb9)) HC0_2.out (Kd.C_below HR0_3.out (HQ _ hb9)) HC0_3.out A8.out))); (focus (rfl))) | (refine qb_callN 21 rfl ?_; apply qb_call 21 rfl Try.func49 (by kernel_rfl) rfl rfl; (focus rfl); (focus (exact fun wq9 hb9 => qb_b hb9 (impl_System_plus.calls a0_0 _ _ l0_1 _ _ l0_2 _ _ l0_3 a2 a3 t281 _ (Kd.C_below HR0_1.out (HQ _ hb9)) HC0_1.out (Kd.C_below HR0_2.out (HQ _ hb9)) HC0_2.out (Kd.C_below HR0_3.out (HQ _ hb9)) HC0_3.out A9.out))); (focus (rfl))) | (refine qb_callN 22 rfl ?_; apply qb_call 22 rfl Try.func49 (by kernel_rfl) rfl rfl; (focus rfl); (focus (exact fun wq9 hb9 => qb_b hb9 (impl_System_plus.calls a0_0 _ _ l0_1 _ _ l0_2 _ _ l0_3 a1 t281 t282 _ (Kd.C_below HR0_1.out (HQ _ hb9)) HC0_1.out (Kd.C_below HR0_2.out (HQ _ hb9)) HC0_2.out (Kd.C_below HR0_3.out (HQ _ hb9)) HC0_3.out A10.out))); (focus (rfl))) | (refine qb_callN 29 rfl ?_; apply qb_call 29 rfl Try.func51 (by kernel_rfl) rfl rfl; (focus rfl); (focus (exact fun wq9 hb9 => qb_b hb9 (impl_System_times.calls a0_0 _ _ l0_1 _ _ l0_2 _ _ l0_3 a1 a2 t283 _ (Kd.C_below HR0_1.out (HQ _ hb9)) HC0_1.out (Kd.C_below HR0_2.out (HQ _ hb9)) HC0_2.out (Kd.C_below HR0_3.out (HQ _ hb9)) HC0_3.out A12.out))); (focus (rfl))) | (refine qb_callN 31 rfl ?_; apply qb_call 31 rfl Try.func51 (by kernel_rfl) rfl rfl; (focus rfl); (focus (exact fun wq9 hb9 => qb_b hb9 (impl_System_times.calls a0_0 _ _ l0_1 _ _ l0_2 _ _ l0_3 t283 a3 t284 _ (Kd.C_below HR0_1.out (HQ _ hb9)) HC0_1.out (Kd.C_below HR0_2.out (HQ _ hb9)) HC0_2.out (Kd.C_below HR0_3.out (HQ _ hb9)) HC0_3.out A13.out))); (focus (rfl))) | (refine qb_callN 37 rfl ?_; apply qb_call 37 rfl Try.func51 (by kernel_rfl) rfl rfl; (focus rfl); (focus (exact fun wq9 hb9 => qb_b hb9 (impl_System_times.calls a0_0 _ _ l0_1 _ _ l0_2 _ _ l0_3 a2 a3 t285 _ (Kd.C_below HR0_1.out (HQ _ hb9)) HC0_1.out (Kd.C_below HR0_2.out (HQ _ hb9)) HC0_2.out (Kd.C_below HR0_3.out (HQ _ hb9)) HC0_3.out A14.out))); (focus (rfl))) | (refine qb_callN 38 rfl ?_; apply qb_call 38 rfl Try.func51 (by kernel_rfl) rfl rfl; (focus rfl); (focus (exact fun wq9 hb9 => qb_b hb9 (impl_System_times.calls a0_0 _ _ l0_1 _ _ l0_2 _ _ l0_3 a1 t285 t286 _ (Kd.C_below HR0_1.out (HQ _ hb9)) HC0_1.out (Kd.C_below HR0_2.out (HQ _ hb9)) HC0_2.out (Kd.C_below HR0_3.out (HQ _ hb9)) HC0_3.out A15.out))); (focus (rfl))) | (apply qb_val; (focus rfl); (focus (intro wq9 _; go_simp; with_reducible rfl))) | (apply qb_val; (focus rfl); (focus (intro wq9 hb9_; have hb9 : Below w6.heap.size w6 wq9 := hb9_; have BK278 := sd_ (blk_below BK278.out hb9); have hc9_278_0 : wq9.cell? ⟨gb278, 0, none⟩ = some (.int .i64 a0_0) := (blk_cell BK278.out 0).trans rfl; have hc9_278_1 : wq9.cell? ⟨gb278, 1, none⟩ = some (.slice A0_1 l0_1.length c0_1) := (blk_cell BK278.out 1).trans rfl; have hc9_278_2 : wq9.cell? ⟨gb278, 2, none⟩ = some (.slice A0_2 l0_2.length c0_2) := (blk_cell BK278.out 2).trans rfl; have hc9_278_3 : wq9.cell? ⟨gb278, 3, none⟩ = some (.slice A0_3 l0_3.length c0_3) := (blk_cell BK278.out 3).trans rfl; go_simp; with_reducible rfl)))); (focus (simp only [Act.put, List.setIfInBounds_toArray, List.set_cons_zero, List.set_cons_succ, i64_w, i32_w]; rfl)))
   refine qb_nil ?_
   intro w24 hb
   replace BK278 := sd_ (blk_below BK278.out hb)
   replace HB := sd_ (below_step HB.out hb)
   clear hb
   (try clear HQ)
   try go_wp2
   go_meet
   case rel => exact ⟨_, ((t284 != t286)), sm_, H', ⟨by first | omega | exact Nat.le_refl _⟩, ⟨by exact bz_ BK278.out⟩, ⟨bw1_ HB.out GE278.out⟩⟩
  rw [if_neg c11] at H
  have c11b0 : (t280 == t282) = false := beq_eq_false_iff_ne.mpr c11
  have c11b1 : (t280 != t282) = true := bne_iff_ne.mpr c11
  (first | rw [c11b0] | (simp only [i64_w, i32_w]; rw [c11b0]) | skip)
  have H' := sd_ H
  clear H
  try go_wp2
  refine qb_region (by kernel_rfl) (by kernel_rfl) ?_
  have HQ := fun (wq : World) (hq : Below w6.heap.size w6 wq) => below_step HB.out hq
  repeat ((first | (apply qb_skip; (focus rfl)) | (refine qb_callN 13 rfl ?_; apply qb_call 13 rfl Try.func49 (by kernel_rfl) rfl rfl; (focus rfl); (focus (exact fun wq9 hb9 => qb_b hb9 (impl_System_plus.calls a0_0 _ _ l0_1 _ _ l0_2 _ _ l0_3 a1 a2 t279 _ (Kd.C_below HR0_1.out (HQ _ hb9)) HC0_1.out (Kd.C_below HR0_2.out (HQ _ hb9)) HC0_2.out (Kd.C_below HR0_3.out (HQ _ hb9)) HC0_3.out A7.out))); (focus (rfl))) | (refine qb_callN 15 rfl ?_; apply qb_call 15 rfl Try.func49 (by kernel_rfl) rfl rfl; (focus rfl); (focus (exact fun wq9 hb9 => qb_b hb9 (impl_System_plus.calls a0_0 _ _ l0_1 _ _ l0_2 _ _ l0_3 t279 a3 t280 _ (Kd.C_below HR0_1.out (HQ _ hb9)) HC0_1.out (Kd.C_below HR0_2.out (HQ _ hb9)) HC0_2.out (Kd.C_below HR0_3.out (HQ _ hb9)) HC0_3.out A8.out))); (focus (rfl))) | (refine qb_callN 21 rfl ?_; apply qb_call 21 rfl Try.func49 (by kernel_rfl) rfl rfl; (focus rfl); (focus (exact fun wq9 hb9 => qb_b hb9 (impl_System_plus.calls a0_0 _ _ l0_1 _ _ l0_2 _ _ l0_3 a2 a3 t281 _ (Kd.C_below HR0_1.out (HQ _ hb9)) HC0_1.out (Kd.C_below HR0_2.out (HQ _ hb9)) HC0_2.out (Kd.C_below HR0_3.out (HQ _ hb9)) HC0_3.out A9.out))); (focus (rfl))) | (refine qb_callN 22 rfl ?_; apply qb_call 22 rfl Try.func49 (by kernel_rfl) rfl rfl; (focus rfl); (focus (exact fun wq9 hb9 => qb_b hb9 (impl_System_plus.calls a0_0 _ _ l0_1 _ _ l0_2 _ _ l0_3 a1 t281 t282 _ (Kd.C_below HR0_1.out (HQ _ hb9)) HC0_1.out (Kd.C_below HR0_2.out (HQ _ hb9)) HC0_2.out (Kd.C_below HR0_3.out (HQ _ hb9)) HC0_3.out A10.out))); (focus (rfl))) | (apply qb_val; (focus rfl); (focus (intro wq9 _; go_simp; with_reducible rfl))) | (apply qb_val; (focus rfl); (focus (intro wq9 hb9_; have hb9 : Below w6.heap.size w6 wq9 := hb9_; have BK278 := sd_ (blk_below BK278.out hb9); have hc9_278_0 : wq9.cell? ⟨gb278, 0, none⟩ = some (.int .i64 a0_0) := (blk_cell BK278.out 0).trans rfl; have hc9_278_1 : wq9.cell? ⟨gb278, 1, none⟩ = some (.slice A0_1 l0_1.length c0_1) := (blk_cell BK278.out 1).trans rfl; have hc9_278_2 : wq9.cell? ⟨gb278, 2, none⟩ = some (.slice A0_2 l0_2.length c0_2) := (blk_cell BK278.out 2).trans rfl; have hc9_278_3 : wq9.cell? ⟨gb278, 3, none⟩ = some (.slice A0_3 l0_3.length c0_3) := (blk_cell BK278.out 3).trans rfl; go_simp; with_reducible rfl)))); (focus (simp only [Act.put, List.setIfInBounds_toArray, List.set_cons_zero, List.set_cons_succ, i64_w, i32_w]; rfl)))
  refine qb_nil ?_
  intro w29 hb
  replace BK278 := sd_ (blk_below BK278.out hb)
  replace HB := sd_ (below_step HB.out hb)
  clear hb
  (try clear HQ)
  try go_wp2
  go_meet
  case rel => exact ⟨_, (true), sm_, H', ⟨by first | omega | exact Nat.le_refl _⟩, ⟨by exact bz_ BK278.out⟩, ⟨bw1_ HB.out GE278.out⟩⟩
 case rest =>
  clear HC5
  try clear c1
  try clear c10
  obtain ⟨kq, x40_4, rfl, HA, HJ4, BK278, HB⟩ := hcut
  cases kq with
  | zero => exact absurd HA.out (by simp [impl_System_lawsOf.j0])
  | succ kj4 =>
   have H := HA.out
   clear HA
   simp only [impl_System_lawsOf.j0] at H
   by_cases c30 : x40_4 = true
   ·subst c30
    have H1 : (some false) = some r := by rw [if_pos rfl] at H; exact H
    clear H
    have H := H1
    clear H1
    obtain rfl := Option.some.inj H
    go_wp2
    go_ret
    exact ⟨an_, bw1_ HB.out GE278.out⟩
   replace c30 := Bool.eq_false_iff.mpr c30
   subst c30
   have H1 : ((impl_System_plus.f a0_0 l0_1 l0_2 l0_3 a2 a3).bind fun t287 => ((impl_System_times.f a0_0 l0_1 l0_2 l0_3 a1 t287).bind fun t288 => ((impl_System_times.f a0_0 l0_1 l0_2 l0_3 a1 a2).bind fun t289 => ((impl_System_times.f a0_0 l0_1 l0_2 l0_3 a1 a3).bind fun t290 => ((impl_System_plus.f a0_0 l0_1 l0_2 l0_3 t289 t290).bind fun t291 => (if t288 = t291 then ((impl_System_plus.f a0_0 l0_1 l0_2 l0_3 a1 a2).bind fun t292 => ((impl_System_times.f a0_0 l0_1 l0_2 l0_3 t292 a3).bind fun t293 => ((impl_System_times.f a0_0 l0_1 l0_2 l0_3 a1 a3).bind fun t294 => ((impl_System_times.f a0_0 l0_1 l0_2 l0_3 a2 a3).bind fun t295 => ((impl_System_plus.f a0_0 l0_1 l0_2 l0_3 t294 t295).bind fun t296 => (impl_System_lawsOf.j1 kj4 a1 a2 a3 (t293 != t296) a0_0 l0_1 l0_2 l0_3)))))) else (impl_System_lawsOf.j1 kj4 a1 a2 a3 true a0_0 l0_1 l0_2 l0_3))))))) = some r := by rw [if_neg (show ¬ (false = true) by decide)] at H; exact H
   clear H
   have H := H1
   clear H1
   have HC31 := sd_ H
   clear H
   go_upto_region 3 with (fail)
   go_cut [78] (fun v78 wc => ∃ (kq : Nat) (x78_30 : Bool), v78 = .bool x78_30 ∧ Aside0 (impl_System_lawsOf.j1 kq a1 a2 a3 x78_30 a0_0 l0_1 l0_2 l0_3 = some r) ∧ Aside0 (kq ≤ kj4) ∧ Aside0 (wc.heap[gb278]? = some (.cells #[.int .i64 a0_0, (.slice A0_1 l0_1.length c0_1), (.slice A0_2 l0_2.length c0_2), (.slice A0_3 l0_3.length c0_3)] 27 (0, 0))) ∧ Aside0 (Below w.heap.size w wc))
   case first =>
    have H := HC31.out
    clear HC31
    replace H := Option.bind_eq_some_iff.mp H
    obtain ⟨t287, A320, H⟩ := H
    try dsimp only at H
    have A32 := sd_ A320
    clear A320
    replace H := Option.bind_eq_some_iff.mp H
    obtain ⟨t288, A330, H⟩ := H
    try dsimp only at H
    have A33 := sd_ A330
    clear A330
    replace H := Option.bind_eq_some_iff.mp H
    obtain ⟨t289, A340, H⟩ := H
    try dsimp only at H
    have A34 := sd_ A340
    clear A340
    replace H := Option.bind_eq_some_iff.mp H
    obtain ⟨t290, A350, H⟩ := H
    try dsimp only at H
    have A35 := sd_ A350
    clear A350
    replace H := Option.bind_eq_some_iff.mp H
    obtain ⟨t291, A360, H⟩ := H
    try dsimp only at H
    have A36 := sd_ A360
    clear A360
    by_cases c37 : t288 = t291
    ·rw [if_pos c37] at H
     have c37b0 : (t288 == t291) = true := beq_iff_eq.mpr c37
     have c37b1 : (t288 != t291) = false := bne_eq_false_iff_eq.mpr c37
     clear c37
     (first | rw [c37b0] | (simp only [i64_w, i32_w]; rw [c37b0]) | skip)
     replace H := Option.bind_eq_some_iff.mp H
     obtain ⟨t292, A380, H⟩ := H
     try dsimp only at H
     have A38 := sd_ A380
     clear A380
     replace H := Option.bind_eq_some_iff.mp H
     obtain ⟨t293, A390, H⟩ := H
     try dsimp only at H
     have A39 := sd_ A390
     clear A390
     replace H := Option.bind_eq_some_iff.mp H
     obtain ⟨t294, A400, H⟩ := H
     try dsimp only at H
     have A40 := sd_ A400
     clear A400
     replace H := Option.bind_eq_some_iff.mp H
     obtain ⟨t295, A410, H⟩ := H
     try dsimp only at H
     have A41 := sd_ A410
     clear A410
     replace H := Option.bind_eq_some_iff.mp H
     obtain ⟨t296, A420, H⟩ := H
     try dsimp only at H
     have A42 := sd_ A420
     clear A420
     have H' := sd_ H
     clear H
     try go_wp2
     refine qb_region (by kernel_rfl) (by kernel_rfl) ?_
     have HQ := fun (wq : World) (hq : Below wc.heap.size wc wq) => below_step HB.out hq
     repeat ((first | (apply qb_skip; (focus rfl)) | (refine qb_callN 46 rfl ?_; apply qb_call 46 rfl Try.func49 (by kernel_rfl) rfl rfl; (focus rfl); (focus (exact fun wq9 hb9 => qb_b hb9 (impl_System_plus.calls a0_0 _ _ l0_1 _ _ l0_2 _ _ l0_3 a2 a3 t287 _ (Kd.C_below HR0_1.out (HQ _ hb9)) HC0_1.out (Kd.C_below HR0_2.out (HQ _ hb9)) HC0_2.out (Kd.C_below HR0_3.out (HQ _ hb9)) HC0_3.out A32.out))); (focus (rfl))) | (refine qb_callN 47 rfl ?_; apply qb_call 47 rfl Try.func51 (by kernel_rfl) rfl rfl; (focus rfl); (focus (exact fun wq9 hb9 => qb_b hb9 (impl_System_times.calls a0_0 _ _ l0_1 _ _ l0_2 _ _ l0_3 a1 t287 t288 _ (Kd.C_below HR0_1.out (HQ _ hb9)) HC0_1.out (Kd.C_below HR0_2.out (HQ _ hb9)) HC0_2.out (Kd.C_below HR0_3.out (HQ _ hb9)) HC0_3.out A33.out))); (focus (rfl))) | (refine qb_callN 52 rfl ?_; apply qb_call 52 rfl Try.func51 (by kernel_rfl) rfl rfl; (focus rfl); (focus (exact fun wq9 hb9 => qb_b hb9 (impl_System_times.calls a0_0 _ _ l0_1 _ _ l0_2 _ _ l0_3 a1 a2 t289 _ (Kd.C_below HR0_1.out (HQ _ hb9)) HC0_1.out (Kd.C_below HR0_2.out (HQ _ hb9)) HC0_2.out (Kd.C_below HR0_3.out (HQ _ hb9)) HC0_3.out A34.out))); (focus (rfl))) | (refine qb_callN 56 rfl ?_; apply qb_call 56 rfl Try.func51 (by kernel_rfl) rfl rfl; (focus rfl); (focus (exact fun wq9 hb9 => qb_b hb9 (impl_System_times.calls a0_0 _ _ l0_1 _ _ l0_2 _ _ l0_3 a1 a3 t290 _ (Kd.C_below HR0_1.out (HQ _ hb9)) HC0_1.out (Kd.C_below HR0_2.out (HQ _ hb9)) HC0_2.out (Kd.C_below HR0_3.out (HQ _ hb9)) HC0_3.out A35.out))); (focus (rfl))) | (refine qb_callN 57 rfl ?_; apply qb_call 57 rfl Try.func49 (by kernel_rfl) rfl rfl; (focus rfl); (focus (exact fun wq9 hb9 => qb_b hb9 (impl_System_plus.calls a0_0 _ _ l0_1 _ _ l0_2 _ _ l0_3 t289 t290 t291 _ (Kd.C_below HR0_1.out (HQ _ hb9)) HC0_1.out (Kd.C_below HR0_2.out (HQ _ hb9)) HC0_2.out (Kd.C_below HR0_3.out (HQ _ hb9)) HC0_3.out A36.out))); (focus (rfl))) | (refine qb_callN 64 rfl ?_; apply qb_call 64 rfl Try.func49 (by kernel_rfl) rfl rfl; (focus rfl); (focus (exact fun wq9 hb9 => qb_b hb9 (impl_System_plus.calls a0_0 _ _ l0_1 _ _ l0_2 _ _ l0_3 a1 a2 t292 _ (Kd.C_below HR0_1.out (HQ _ hb9)) HC0_1.out (Kd.C_below HR0_2.out (HQ _ hb9)) HC0_2.out (Kd.C_below HR0_3.out (HQ _ hb9)) HC0_3.out A38.out))); (focus (rfl))) | (refine qb_callN 66 rfl ?_; apply qb_call 66 rfl Try.func51 (by kernel_rfl) rfl rfl; (focus rfl); (focus (exact fun wq9 hb9 => qb_b hb9 (impl_System_times.calls a0_0 _ _ l0_1 _ _ l0_2 _ _ l0_3 t292 a3 t293 _ (Kd.C_below HR0_1.out (HQ _ hb9)) HC0_1.out (Kd.C_below HR0_2.out (HQ _ hb9)) HC0_2.out (Kd.C_below HR0_3.out (HQ _ hb9)) HC0_3.out A39.out))); (focus (rfl))) | (refine qb_callN 71 rfl ?_; apply qb_call 71 rfl Try.func51 (by kernel_rfl) rfl rfl; (focus rfl); (focus (exact fun wq9 hb9 => qb_b hb9 (impl_System_times.calls a0_0 _ _ l0_1 _ _ l0_2 _ _ l0_3 a1 a3 t294 _ (Kd.C_below HR0_1.out (HQ _ hb9)) HC0_1.out (Kd.C_below HR0_2.out (HQ _ hb9)) HC0_2.out (Kd.C_below HR0_3.out (HQ _ hb9)) HC0_3.out A40.out))); (focus (rfl))) | (refine qb_callN 75 rfl ?_; apply qb_call 75 rfl Try.func51 (by kernel_rfl) rfl rfl; (focus rfl); (focus (exact fun wq9 hb9 => qb_b hb9 (impl_System_times.calls a0_0 _ _ l0_1 _ _ l0_2 _ _ l0_3 a2 a3 t295 _ (Kd.C_below HR0_1.out (HQ _ hb9)) HC0_1.out (Kd.C_below HR0_2.out (HQ _ hb9)) HC0_2.out (Kd.C_below HR0_3.out (HQ _ hb9)) HC0_3.out A41.out))); (focus (rfl))) | (refine qb_callN 76 rfl ?_; apply qb_call 76 rfl Try.func49 (by kernel_rfl) rfl rfl; (focus rfl); (focus (exact fun wq9 hb9 => qb_b hb9 (impl_System_plus.calls a0_0 _ _ l0_1 _ _ l0_2 _ _ l0_3 t294 t295 t296 _ (Kd.C_below HR0_1.out (HQ _ hb9)) HC0_1.out (Kd.C_below HR0_2.out (HQ _ hb9)) HC0_2.out (Kd.C_below HR0_3.out (HQ _ hb9)) HC0_3.out A42.out))); (focus (rfl))) | (apply qb_val; (focus rfl); (focus (intro wq9 _; go_simp; with_reducible rfl))) | (apply qb_val; (focus rfl); (focus (intro wq9 hb9_; have hb9 : Below wc.heap.size wc wq9 := hb9_; have BK278 := sd_ (blk_below BK278.out hb9); have hc9_278_0 : wq9.cell? ⟨gb278, 0, none⟩ = some (.int .i64 a0_0) := (blk_cell BK278.out 0).trans rfl; have hc9_278_1 : wq9.cell? ⟨gb278, 1, none⟩ = some (.slice A0_1 l0_1.length c0_1) := (blk_cell BK278.out 1).trans rfl; have hc9_278_2 : wq9.cell? ⟨gb278, 2, none⟩ = some (.slice A0_2 l0_2.length c0_2) := (blk_cell BK278.out 2).trans rfl; have hc9_278_3 : wq9.cell? ⟨gb278, 3, none⟩ = some (.slice A0_3 l0_3.length c0_3) := (blk_cell BK278.out 3).trans rfl; go_simp; with_reducible rfl)))); (focus (simp only [Act.put, List.setIfInBounds_toArray, List.set_cons_zero, List.set_cons_succ, i64_w, i32_w]; rfl)))
     refine qb_nil ?_
     intro w53 hb
     replace BK278 := sd_ (blk_below BK278.out hb)
     replace HB := sd_ (below_step HB.out hb)
     clear hb
     (try clear HQ)
     try go_wp2
     go_meet
     case rel => exact ⟨_, ((t293 != t296)), sm_, H', ⟨by have := HJ4.out; first | omega | exact Nat.le_refl _⟩, ⟨by exact bz_ BK278.out⟩, ⟨bw1_ HB.out GE278.out⟩⟩
    rw [if_neg c37] at H
    have c37b0 : (t288 == t291) = false := beq_eq_false_iff_ne.mpr c37
    have c37b1 : (t288 != t291) = true := bne_iff_ne.mpr c37
    (first | rw [c37b0] | (simp only [i64_w, i32_w]; rw [c37b0]) | skip)
    have H' := sd_ H
    clear H
    try go_wp2
    refine qb_region (by kernel_rfl) (by kernel_rfl) ?_
    have HQ := fun (wq : World) (hq : Below wc.heap.size wc wq) => below_step HB.out hq
    repeat ((first | (apply qb_skip; (focus rfl)) | (refine qb_callN 46 rfl ?_; apply qb_call 46 rfl Try.func49 (by kernel_rfl) rfl rfl; (focus rfl); (focus (exact fun wq9 hb9 => qb_b hb9 (impl_System_plus.calls a0_0 _ _ l0_1 _ _ l0_2 _ _ l0_3 a2 a3 t287 _ (Kd.C_below HR0_1.out (HQ _ hb9)) HC0_1.out (Kd.C_below HR0_2.out (HQ _ hb9)) HC0_2.out (Kd.C_below HR0_3.out (HQ _ hb9)) HC0_3.out A32.out))); (focus (rfl))) | (refine qb_callN 47 rfl ?_; apply qb_call 47 rfl Try.func51 (by kernel_rfl) rfl rfl; (focus rfl); (focus (exact fun wq9 hb9 => qb_b hb9 (impl_System_times.calls a0_0 _ _ l0_1 _ _ l0_2 _ _ l0_3 a1 t287 t288 _ (Kd.C_below HR0_1.out (HQ _ hb9)) HC0_1.out (Kd.C_below HR0_2.out (HQ _ hb9)) HC0_2.out (Kd.C_below HR0_3.out (HQ _ hb9)) HC0_3.out A33.out))); (focus (rfl))) | (refine qb_callN 52 rfl ?_; apply qb_call 52 rfl Try.func51 (by kernel_rfl) rfl rfl; (focus rfl); (focus (exact fun wq9 hb9 => qb_b hb9 (impl_System_times.calls a0_0 _ _ l0_1 _ _ l0_2 _ _ l0_3 a1 a2 t289 _ (Kd.C_below HR0_1.out (HQ _ hb9)) HC0_1.out (Kd.C_below HR0_2.out (HQ _ hb9)) HC0_2.out (Kd.C_below HR0_3.out (HQ _ hb9)) HC0_3.out A34.out))); (focus (rfl))) | (refine qb_callN 56 rfl ?_; apply qb_call 56 rfl Try.func51 (by kernel_rfl) rfl rfl; (focus rfl); (focus (exact fun wq9 hb9 => qb_b hb9 (impl_System_times.calls a0_0 _ _ l0_1 _ _ l0_2 _ _ l0_3 a1 a3 t290 _ (Kd.C_below HR0_1.out (HQ _ hb9)) HC0_1.out (Kd.C_below HR0_2.out (HQ _ hb9)) HC0_2.out (Kd.C_below HR0_3.out (HQ _ hb9)) HC0_3.out A35.out))); (focus (rfl))) | (refine qb_callN 57 rfl ?_; apply qb_call 57 rfl Try.func49 (by kernel_rfl) rfl rfl; (focus rfl); (focus (exact fun wq9 hb9 => qb_b hb9 (impl_System_plus.calls a0_0 _ _ l0_1 _ _ l0_2 _ _ l0_3 t289 t290 t291 _ (Kd.C_below HR0_1.out (HQ _ hb9)) HC0_1.out (Kd.C_below HR0_2.out (HQ _ hb9)) HC0_2.out (Kd.C_below HR0_3.out (HQ _ hb9)) HC0_3.out A36.out))); (focus (rfl))) | (apply qb_val; (focus rfl); (focus (intro wq9 _; go_simp; with_reducible rfl))) | (apply qb_val; (focus rfl); (focus (intro wq9 hb9_; have hb9 : Below wc.heap.size wc wq9 := hb9_; have BK278 := sd_ (blk_below BK278.out hb9); have hc9_278_0 : wq9.cell? ⟨gb278, 0, none⟩ = some (.int .i64 a0_0) := (blk_cell BK278.out 0).trans rfl; have hc9_278_1 : wq9.cell? ⟨gb278, 1, none⟩ = some (.slice A0_1 l0_1.length c0_1) := (blk_cell BK278.out 1).trans rfl; have hc9_278_2 : wq9.cell? ⟨gb278, 2, none⟩ = some (.slice A0_2 l0_2.length c0_2) := (blk_cell BK278.out 2).trans rfl; have hc9_278_3 : wq9.cell? ⟨gb278, 3, none⟩ = some (.slice A0_3 l0_3.length c0_3) := (blk_cell BK278.out 3).trans rfl; go_simp; with_reducible rfl)))); (focus (simp only [Act.put, List.setIfInBounds_toArray, List.set_cons_zero, List.set_cons_succ, i64_w, i32_w]; rfl)))
    refine qb_nil ?_
    intro w59 hb
    replace BK278 := sd_ (blk_below BK278.out hb)
    replace HB := sd_ (below_step HB.out hb)
    clear hb
    (try clear HQ)
    try go_wp2
    go_meet
    case rel => exact ⟨_, (true), sm_, H', ⟨by have := HJ4.out; first | omega | exact Nat.le_refl _⟩, ⟨by exact bz_ BK278.out⟩, ⟨bw1_ HB.out GE278.out⟩⟩
   case rest =>
    clear HC31
    try clear c1
    try clear c3
    try clear c10
    try clear c30
    obtain ⟨kq, x78_30, rfl, HA, HJ30, BK278, HB⟩ := hcut
    cases kq with
    | zero => exact absurd HA.out (by simp [impl_System_lawsOf.j1])
    | succ kj30 =>
     have H := HA.out
     clear HA
     simp only [impl_System_lawsOf.j1] at H
     by_cases c60 : x78_30 = true
     ·subst c60
      have H1 : (some false) = some r := by rw [if_pos rfl] at H; exact H
      clear H
      have H := H1
      clear H1
      obtain rfl := Option.some.inj H
      go_wp2
      go_ret
      exact ⟨an_, bw1_ HB.out GE278.out⟩
     replace c60 := Bool.eq_false_iff.mpr c60
     subst c60
     have H1 : ((impl_System_below.f a0_0 l0_1 l0_2 l0_3 a1 a2).bind fun t297 => (if t297 = true then ((impl_System_below.f a0_0 l0_1 l0_2 l0_3 a2 a3).bind fun t298 => (if t298 = true then ((impl_System_below.f a0_0 l0_1 l0_2 l0_3 a1 a3).bind fun t299 => (impl_System_lawsOf.j2 kj30 a1 a2 a3 (!t299) a0_0 l0_1 l0_2 l0_3)) else (impl_System_lawsOf.j2 kj30 a1 a2 a3 false a0_0 l0_1 l0_2 l0_3))) else (impl_System_lawsOf.j2 kj30 a1 a2 a3 false a0_0 l0_1 l0_2 l0_3))) = some r := by rw [if_neg (show ¬ (false = true) by decide)] at H; exact H
     clear H
     have H := H1
     clear H1
     have HC61 := sd_ H
     clear H
     go_upto_region 5 with (fail)
     go_cut [95] (fun v95 wc => ∃ (kq : Nat) (x95_60 : Bool), v95 = .bool x95_60 ∧ Aside0 (impl_System_lawsOf.j2 kq a1 a2 a3 x95_60 a0_0 l0_1 l0_2 l0_3 = some r) ∧ Aside0 (kq ≤ kj30) ∧ Aside0 (wc.heap[gb278]? = some (.cells #[.int .i64 a0_0, (.slice A0_1 l0_1.length c0_1), (.slice A0_2 l0_2.length c0_2), (.slice A0_3 l0_3.length c0_3)] 27 (0, 0))) ∧ Aside0 (Below w.heap.size w wc))
     case first =>
      have H := HC61.out
      clear HC61
      replace H := Option.bind_eq_some_iff.mp H
      obtain ⟨t297, A620, H⟩ := H
      try dsimp only at H
      have A62 := sd_ A620
      clear A620
      by_cases c63 : t297 = true
      ·subst c63
       have H1 : ((impl_System_below.f a0_0 l0_1 l0_2 l0_3 a2 a3).bind fun t298 => (if t298 = true then ((impl_System_below.f a0_0 l0_1 l0_2 l0_3 a1 a3).bind fun t299 => (impl_System_lawsOf.j2 kj30 a1 a2 a3 (!t299) a0_0 l0_1 l0_2 l0_3)) else (impl_System_lawsOf.j2 kj30 a1 a2 a3 false a0_0 l0_1 l0_2 l0_3))) = some r := by rw [if_pos rfl] at H; exact H
       clear H
       have H := H1
       clear H1
       replace H := Option.bind_eq_some_iff.mp H
       obtain ⟨t298, A640, H⟩ := H
       try dsimp only at H
       have A64 := sd_ A640
       clear A640
       by_cases c65 : t298 = true
       ·subst c65
        have H1 : ((impl_System_below.f a0_0 l0_1 l0_2 l0_3 a1 a3).bind fun t299 => (impl_System_lawsOf.j2 kj30 a1 a2 a3 (!t299) a0_0 l0_1 l0_2 l0_3)) = some r := by rw [if_pos rfl] at H; exact H
        clear H
        have H := H1
        clear H1
        replace H := Option.bind_eq_some_iff.mp H
        obtain ⟨t299, A660, H⟩ := H
        try dsimp only at H
        have A66 := sd_ A660
        clear A660
        have H' := sd_ H
        clear H
        obtain ⟨hcz67_0, hcz67_1, hcz67_2, hcz67_3, hfz67_0, hfz67_1, hfz67_2, hfz67_3⟩ := bf4_ BK278.out
        go_wp2_with (first | ((with_reducible refine gate_callee (f := 53) rfl ?_); refine goesL_ (some 82) rfl rfl Try.func53 (by kernel_rfl) rfl #[.agg #[.int .i64 a0_0, .slice A0_1 l0_1.length c0_1, .slice A0_2 l0_2.length c0_2, .slice A0_3 l0_3.length c0_3], .int .i64 a1, .int .i64 a2] rfl la_ ?_; (with_reducible refine (impl_System_below.calls a0_0 _ _ l0_1 _ _ l0_2 _ _ l0_3 a1 a2 true _ (kc_ HR0_1.out HB.out) HC0_1.out (kc_ HR0_2.out HB.out) HC0_2.out (kc_ HR0_3.out HB.out) HC0_3.out A62.out).mono ?_); rintro e w68 ⟨rfl, hb⟩; refine ⟨_, rfl, ?_⟩; replace BK278 := sd_ (bb_ BK278.out hb); replace HB := sd_ (below_step (bw1_ HB.out GE278.out) hb); (try clear hb); obtain ⟨hcz69_0, hcz69_1, hcz69_2, hcz69_3, hfz69_0, hfz69_1, hfz69_2, hfz69_3⟩ := bf4_ BK278.out) | (go_at_call 53; (with_reducible refine (impl_System_below.calls a0_0 _ _ l0_1 _ _ l0_2 _ _ l0_3 a2 a3 true _ (kc_ HR0_1.out HB.out) HC0_1.out (kc_ HR0_2.out HB.out) HC0_2.out (kc_ HR0_3.out HB.out) HC0_3.out A64.out).mono ?_); rintro e w70 ⟨rfl, hb⟩; replace BK278 := sd_ (bb_ BK278.out hb); replace HB := sd_ (below_step (bw1_ HB.out GE278.out) hb); (try clear hb); obtain ⟨hcz71_0, hcz71_1, hcz71_2, hcz71_3, hfz71_0, hfz71_1, hfz71_2, hfz71_3⟩ := bf4_ BK278.out) | (go_at_call 53; (with_reducible refine (impl_System_below.calls a0_0 _ _ l0_1 _ _ l0_2 _ _ l0_3 a1 a3 t299 _ (kc_ HR0_1.out HB.out) HC0_1.out (kc_ HR0_2.out HB.out) HC0_2.out (kc_ HR0_3.out HB.out) HC0_3.out A66.out).mono ?_); rintro e w72 ⟨rfl, hb⟩; replace BK278 := sd_ (bb_ BK278.out hb); replace HB := sd_ (below_step (bw1_ HB.out GE278.out) hb); (try clear hb)))
        go_meet
        case rel => exact ⟨_, (!t299), sm_, H', ⟨by have := HJ4.out; have := HJ30.out; first | omega | exact Nat.le_refl _⟩, ⟨by exact bz_ BK278.out⟩, ⟨bw1_ HB.out GE278.out⟩⟩
       replace c65 := Bool.eq_false_iff.mpr c65
       subst c65
       have H1 : (impl_System_lawsOf.j2 kj30 a1 a2 a3 false a0_0 l0_1 l0_2 l0_3) = some r := by rw [if_neg (show ¬ (false = true) by decide)] at H; exact H
       clear H
       have H := H1
       clear H1
       have H' := sd_ H
       clear H
       obtain ⟨hcz73_0, hcz73_1, hcz73_2, hcz73_3, hfz73_0, hfz73_1, hfz73_2, hfz73_3⟩ := bf4_ BK278.out
       go_wp2_with (first | ((with_reducible refine gate_callee (f := 53) rfl ?_); refine goesL_ (some 82) rfl rfl Try.func53 (by kernel_rfl) rfl #[.agg #[.int .i64 a0_0, .slice A0_1 l0_1.length c0_1, .slice A0_2 l0_2.length c0_2, .slice A0_3 l0_3.length c0_3], .int .i64 a1, .int .i64 a2] rfl la_ ?_; (with_reducible refine (impl_System_below.calls a0_0 _ _ l0_1 _ _ l0_2 _ _ l0_3 a1 a2 true _ (kc_ HR0_1.out HB.out) HC0_1.out (kc_ HR0_2.out HB.out) HC0_2.out (kc_ HR0_3.out HB.out) HC0_3.out A62.out).mono ?_); rintro e w74 ⟨rfl, hb⟩; refine ⟨_, rfl, ?_⟩; replace BK278 := sd_ (bb_ BK278.out hb); replace HB := sd_ (below_step (bw1_ HB.out GE278.out) hb); (try clear hb); obtain ⟨hcz75_0, hcz75_1, hcz75_2, hcz75_3, hfz75_0, hfz75_1, hfz75_2, hfz75_3⟩ := bf4_ BK278.out) | (go_at_call 53; (with_reducible refine (impl_System_below.calls a0_0 _ _ l0_1 _ _ l0_2 _ _ l0_3 a2 a3 false _ (kc_ HR0_1.out HB.out) HC0_1.out (kc_ HR0_2.out HB.out) HC0_2.out (kc_ HR0_3.out HB.out) HC0_3.out A64.out).mono ?_); rintro e w76 ⟨rfl, hb⟩; replace BK278 := sd_ (bb_ BK278.out hb); replace HB := sd_ (below_step (bw1_ HB.out GE278.out) hb); (try clear hb)))
       go_meet
       case rel => exact ⟨_, (false), sm_, H', ⟨by have := HJ4.out; have := HJ30.out; first | omega | exact Nat.le_refl _⟩, ⟨by exact bz_ BK278.out⟩, ⟨bw1_ HB.out GE278.out⟩⟩
      replace c63 := Bool.eq_false_iff.mpr c63
      subst c63
      have H1 : (impl_System_lawsOf.j2 kj30 a1 a2 a3 false a0_0 l0_1 l0_2 l0_3) = some r := by rw [if_neg (show ¬ (false = true) by decide)] at H; exact H
      clear H
      have H := H1
      clear H1
      have H' := sd_ H
      clear H
      obtain ⟨hcz77_0, hcz77_1, hcz77_2, hcz77_3, hfz77_0, hfz77_1, hfz77_2, hfz77_3⟩ := bf4_ BK278.out
      go_wp2_with (first | ((with_reducible refine gate_callee (f := 53) rfl ?_); refine goesL_ (some 82) rfl rfl Try.func53 (by kernel_rfl) rfl #[.agg #[.int .i64 a0_0, .slice A0_1 l0_1.length c0_1, .slice A0_2 l0_2.length c0_2, .slice A0_3 l0_3.length c0_3], .int .i64 a1, .int .i64 a2] rfl la_ ?_; (with_reducible refine (impl_System_below.calls a0_0 _ _ l0_1 _ _ l0_2 _ _ l0_3 a1 a2 false _ (kc_ HR0_1.out HB.out) HC0_1.out (kc_ HR0_2.out HB.out) HC0_2.out (kc_ HR0_3.out HB.out) HC0_3.out A62.out).mono ?_); rintro e w78 ⟨rfl, hb⟩; refine ⟨_, rfl, ?_⟩; replace BK278 := sd_ (bb_ BK278.out hb); replace HB := sd_ (below_step (bw1_ HB.out GE278.out) hb); (try clear hb)))
      go_meet
      case rel => exact ⟨_, (false), sm_, H', ⟨by have := HJ4.out; have := HJ30.out; first | omega | exact Nat.le_refl _⟩, ⟨by exact bz_ BK278.out⟩, ⟨bw1_ HB.out GE278.out⟩⟩
     case rest =>
      clear HC61
      try clear c1
      try clear c3
      try clear c6
      try clear c10
      try clear c30
      try clear c60
      obtain ⟨kq, x95_60, rfl, HA, HJ60, BK278, HB⟩ := hcut
      cases kq with
      | zero => exact absurd HA.out (by simp [impl_System_lawsOf.j2])
      | succ kj60 =>
       have H := HA.out
       clear HA
       simp only [impl_System_lawsOf.j2] at H
       by_cases c79 : x95_60 = true
       ·subst c79
        have H1 : (some false) = some r := by rw [if_pos rfl] at H; exact H
        clear H
        have H := H1
        clear H1
        obtain rfl := Option.some.inj H
        go_wp2
        go_ret
        exact ⟨an_, bw1_ HB.out GE278.out⟩
       replace c79 := Bool.eq_false_iff.mpr c79
       subst c79
       have H1 : ((impl_System_below.f a0_0 l0_1 l0_2 l0_3 a1 a2).bind fun t300 => (if t300 = true then ((impl_System_plus.f a0_0 l0_1 l0_2 l0_3 a1 a3).bind fun t301 => ((impl_System_plus.f a0_0 l0_1 l0_2 l0_3 a2 a3).bind fun t302 => ((impl_System_below.f a0_0 l0_1 l0_2 l0_3 t301 t302).bind fun t303 => (if t303 = true then ((impl_System_times.f a0_0 l0_1 l0_2 l0_3 a1 a3).bind fun t304 => ((impl_System_times.f a0_0 l0_1 l0_2 l0_3 a2 a3).bind fun t305 => ((impl_System_below.f a0_0 l0_1 l0_2 l0_3 t304 t305).bind fun t306 => (if t306 = true then ((impl_System_times.f a0_0 l0_1 l0_2 l0_3 a3 a1).bind fun t307 => ((impl_System_times.f a0_0 l0_1 l0_2 l0_3 a3 a2).bind fun t308 => ((impl_System_below.f a0_0 l0_1 l0_2 l0_3 t307 t308).bind fun t309 => (some t309)))) else (some false))))) else (some false))))) else (some true))) = some r := by rw [if_neg (show ¬ (false = true) by decide)] at H; exact H
       clear H
       have H := H1
       clear H1
       replace H := Option.bind_eq_some_iff.mp H
       obtain ⟨t300, A800, H⟩ := H
       try dsimp only at H
       have A80 := sd_ A800
       clear A800
       by_cases c81 : t300 = true
       ·subst c81
        have H1 : ((impl_System_plus.f a0_0 l0_1 l0_2 l0_3 a1 a3).bind fun t301 => ((impl_System_plus.f a0_0 l0_1 l0_2 l0_3 a2 a3).bind fun t302 => ((impl_System_below.f a0_0 l0_1 l0_2 l0_3 t301 t302).bind fun t303 => (if t303 = true then ((impl_System_times.f a0_0 l0_1 l0_2 l0_3 a1 a3).bind fun t304 => ((impl_System_times.f a0_0 l0_1 l0_2 l0_3 a2 a3).bind fun t305 => ((impl_System_below.f a0_0 l0_1 l0_2 l0_3 t304 t305).bind fun t306 => (if t306 = true then ((impl_System_times.f a0_0 l0_1 l0_2 l0_3 a3 a1).bind fun t307 => ((impl_System_times.f a0_0 l0_1 l0_2 l0_3 a3 a2).bind fun t308 => ((impl_System_below.f a0_0 l0_1 l0_2 l0_3 t307 t308).bind fun t309 => (some t309)))) else (some false))))) else (some false))))) = some r := by rw [if_pos rfl] at H; exact H
        clear H
        have H := H1
        clear H1
        replace H := Option.bind_eq_some_iff.mp H
        obtain ⟨t301, A820, H⟩ := H
        try dsimp only at H
        have A82 := sd_ A820
        clear A820
        replace H := Option.bind_eq_some_iff.mp H
        obtain ⟨t302, A830, H⟩ := H
        try dsimp only at H
        have A83 := sd_ A830
        clear A830
        replace H := Option.bind_eq_some_iff.mp H
        obtain ⟨t303, A840, H⟩ := H
        try dsimp only at H
        have A84 := sd_ A840
        clear A840
        by_cases c85 : t303 = true
        ·subst c85
         have H1 : ((impl_System_times.f a0_0 l0_1 l0_2 l0_3 a1 a3).bind fun t304 => ((impl_System_times.f a0_0 l0_1 l0_2 l0_3 a2 a3).bind fun t305 => ((impl_System_below.f a0_0 l0_1 l0_2 l0_3 t304 t305).bind fun t306 => (if t306 = true then ((impl_System_times.f a0_0 l0_1 l0_2 l0_3 a3 a1).bind fun t307 => ((impl_System_times.f a0_0 l0_1 l0_2 l0_3 a3 a2).bind fun t308 => ((impl_System_below.f a0_0 l0_1 l0_2 l0_3 t307 t308).bind fun t309 => (some t309)))) else (some false))))) = some r := by rw [if_pos rfl] at H; exact H
         clear H
         have H := H1
         clear H1
         replace H := Option.bind_eq_some_iff.mp H
         obtain ⟨t304, A860, H⟩ := H
         try dsimp only at H
         have A86 := sd_ A860
         clear A860
         replace H := Option.bind_eq_some_iff.mp H
         obtain ⟨t305, A870, H⟩ := H
         try dsimp only at H
         have A87 := sd_ A870
         clear A870
         replace H := Option.bind_eq_some_iff.mp H
         obtain ⟨t306, A880, H⟩ := H
         try dsimp only at H
         have A88 := sd_ A880
         clear A880
         by_cases c89 : t306 = true
         ·subst c89
          have H1 : ((impl_System_times.f a0_0 l0_1 l0_2 l0_3 a3 a1).bind fun t307 => ((impl_System_times.f a0_0 l0_1 l0_2 l0_3 a3 a2).bind fun t308 => ((impl_System_below.f a0_0 l0_1 l0_2 l0_3 t307 t308).bind fun t309 => (some t309)))) = some r := by rw [if_pos rfl] at H; exact H
          clear H
          have H := H1
          clear H1
          replace H := Option.bind_eq_some_iff.mp H
          obtain ⟨t307, A900, H⟩ := H
          try dsimp only at H
          have A90 := sd_ A900
          clear A900
          replace H := Option.bind_eq_some_iff.mp H
          obtain ⟨t308, A910, H⟩ := H
          try dsimp only at H
          have A91 := sd_ A910
          clear A910
          replace H := Option.bind_eq_some_iff.mp H
          obtain ⟨t309, A920, H⟩ := H
          try dsimp only at H
          have A92 := sd_ A920
          clear A920
          obtain rfl := Option.some.inj H
          try go_wp2
          refine qb_region (by kernel_rfl) (by kernel_rfl) ?_
          have HQ := fun (wq : World) (hq : Below wc.heap.size wc wq) => below_step HB.out hq
          repeat ((first | (apply qb_skip; (focus rfl)) | (refine qb_callN 99 rfl ?_; apply qb_call 99 rfl Try.func53 (by kernel_rfl) rfl rfl; (focus rfl); (focus (exact fun wq9 hb9 => qb_b hb9 (impl_System_below.calls a0_0 _ _ l0_1 _ _ l0_2 _ _ l0_3 a1 a2 true _ (Kd.C_below HR0_1.out (HQ _ hb9)) HC0_1.out (Kd.C_below HR0_2.out (HQ _ hb9)) HC0_2.out (Kd.C_below HR0_3.out (HQ _ hb9)) HC0_3.out A80.out))); (focus (rfl))) | (refine qb_callN 106 rfl ?_; apply qb_call 106 rfl Try.func49 (by kernel_rfl) rfl rfl; (focus rfl); (focus (exact fun wq9 hb9 => qb_b hb9 (impl_System_plus.calls a0_0 _ _ l0_1 _ _ l0_2 _ _ l0_3 a1 a3 t301 _ (Kd.C_below HR0_1.out (HQ _ hb9)) HC0_1.out (Kd.C_below HR0_2.out (HQ _ hb9)) HC0_2.out (Kd.C_below HR0_3.out (HQ _ hb9)) HC0_3.out A82.out))); (focus (rfl))) | (refine qb_callN 110 rfl ?_; apply qb_call 110 rfl Try.func49 (by kernel_rfl) rfl rfl; (focus rfl); (focus (exact fun wq9 hb9 => qb_b hb9 (impl_System_plus.calls a0_0 _ _ l0_1 _ _ l0_2 _ _ l0_3 a2 a3 t302 _ (Kd.C_below HR0_1.out (HQ _ hb9)) HC0_1.out (Kd.C_below HR0_2.out (HQ _ hb9)) HC0_2.out (Kd.C_below HR0_3.out (HQ _ hb9)) HC0_3.out A83.out))); (focus (rfl))) | (refine qb_callN 111 rfl ?_; apply qb_call 111 rfl Try.func53 (by kernel_rfl) rfl rfl; (focus rfl); (focus (exact fun wq9 hb9 => qb_b hb9 (impl_System_below.calls a0_0 _ _ l0_1 _ _ l0_2 _ _ l0_3 t301 t302 true _ (Kd.C_below HR0_1.out (HQ _ hb9)) HC0_1.out (Kd.C_below HR0_2.out (HQ _ hb9)) HC0_2.out (Kd.C_below HR0_3.out (HQ _ hb9)) HC0_3.out A84.out))); (focus (rfl))) | (refine qb_callN 117 rfl ?_; apply qb_call 117 rfl Try.func51 (by kernel_rfl) rfl rfl; (focus rfl); (focus (exact fun wq9 hb9 => qb_b hb9 (impl_System_times.calls a0_0 _ _ l0_1 _ _ l0_2 _ _ l0_3 a1 a3 t304 _ (Kd.C_below HR0_1.out (HQ _ hb9)) HC0_1.out (Kd.C_below HR0_2.out (HQ _ hb9)) HC0_2.out (Kd.C_below HR0_3.out (HQ _ hb9)) HC0_3.out A86.out))); (focus (rfl))) | (refine qb_callN 121 rfl ?_; apply qb_call 121 rfl Try.func51 (by kernel_rfl) rfl rfl; (focus rfl); (focus (exact fun wq9 hb9 => qb_b hb9 (impl_System_times.calls a0_0 _ _ l0_1 _ _ l0_2 _ _ l0_3 a2 a3 t305 _ (Kd.C_below HR0_1.out (HQ _ hb9)) HC0_1.out (Kd.C_below HR0_2.out (HQ _ hb9)) HC0_2.out (Kd.C_below HR0_3.out (HQ _ hb9)) HC0_3.out A87.out))); (focus (rfl))) | (refine qb_callN 122 rfl ?_; apply qb_call 122 rfl Try.func53 (by kernel_rfl) rfl rfl; (focus rfl); (focus (exact fun wq9 hb9 => qb_b hb9 (impl_System_below.calls a0_0 _ _ l0_1 _ _ l0_2 _ _ l0_3 t304 t305 true _ (Kd.C_below HR0_1.out (HQ _ hb9)) HC0_1.out (Kd.C_below HR0_2.out (HQ _ hb9)) HC0_2.out (Kd.C_below HR0_3.out (HQ _ hb9)) HC0_3.out A88.out))); (focus (rfl))) | (refine qb_callN 129 rfl ?_; apply qb_call 129 rfl Try.func51 (by kernel_rfl) rfl rfl; (focus rfl); (focus (exact fun wq9 hb9 => qb_b hb9 (impl_System_times.calls a0_0 _ _ l0_1 _ _ l0_2 _ _ l0_3 a3 a1 t307 _ (Kd.C_below HR0_1.out (HQ _ hb9)) HC0_1.out (Kd.C_below HR0_2.out (HQ _ hb9)) HC0_2.out (Kd.C_below HR0_3.out (HQ _ hb9)) HC0_3.out A90.out))); (focus (rfl))) | (refine qb_callN 133 rfl ?_; apply qb_call 133 rfl Try.func51 (by kernel_rfl) rfl rfl; (focus rfl); (focus (exact fun wq9 hb9 => qb_b hb9 (impl_System_times.calls a0_0 _ _ l0_1 _ _ l0_2 _ _ l0_3 a3 a2 t308 _ (Kd.C_below HR0_1.out (HQ _ hb9)) HC0_1.out (Kd.C_below HR0_2.out (HQ _ hb9)) HC0_2.out (Kd.C_below HR0_3.out (HQ _ hb9)) HC0_3.out A91.out))); (focus (rfl))) | (refine qb_callN 134 rfl ?_; apply qb_call 134 rfl Try.func53 (by kernel_rfl) rfl rfl; (focus rfl); (focus (exact fun wq9 hb9 => qb_b hb9 (impl_System_below.calls a0_0 _ _ l0_1 _ _ l0_2 _ _ l0_3 t307 t308 t309 _ (Kd.C_below HR0_1.out (HQ _ hb9)) HC0_1.out (Kd.C_below HR0_2.out (HQ _ hb9)) HC0_2.out (Kd.C_below HR0_3.out (HQ _ hb9)) HC0_3.out A92.out))); (focus (rfl))) | (apply qb_val; (focus rfl); (focus (intro wq9 _; go_simp; with_reducible rfl))) | (apply qb_val; (focus rfl); (focus (intro wq9 hb9_; have hb9 : Below wc.heap.size wc wq9 := hb9_; have BK278 := sd_ (blk_below BK278.out hb9); have hc9_278_0 : wq9.cell? ⟨gb278, 0, none⟩ = some (.int .i64 a0_0) := (blk_cell BK278.out 0).trans rfl; have hc9_278_1 : wq9.cell? ⟨gb278, 1, none⟩ = some (.slice A0_1 l0_1.length c0_1) := (blk_cell BK278.out 1).trans rfl; have hc9_278_2 : wq9.cell? ⟨gb278, 2, none⟩ = some (.slice A0_2 l0_2.length c0_2) := (blk_cell BK278.out 2).trans rfl; have hc9_278_3 : wq9.cell? ⟨gb278, 3, none⟩ = some (.slice A0_3 l0_3.length c0_3) := (blk_cell BK278.out 3).trans rfl; go_simp; with_reducible rfl)))); (focus (simp only [Act.put, List.setIfInBounds_toArray, List.set_cons_zero, List.set_cons_succ, i64_w, i32_w]; rfl)))
          refine qb_nil ?_
          intro w103 hb
          replace BK278 := sd_ (blk_below BK278.out hb)
          replace HB := sd_ (below_step HB.out hb)
          clear hb
          (try clear HQ)
          try go_wp2
          go_ret
          exact ⟨an_, bw1_ HB.out GE278.out⟩
         replace c89 := Bool.eq_false_iff.mpr c89
         subst c89
         have H1 : (some false) = some r := by rw [if_neg (show ¬ (false = true) by decide)] at H; exact H
         clear H
         have H := H1
         clear H1
         obtain rfl := Option.some.inj H
         try go_wp2
         refine qb_region (by kernel_rfl) (by kernel_rfl) ?_
         have HQ := fun (wq : World) (hq : Below wc.heap.size wc wq) => below_step HB.out hq
         repeat ((first | (apply qb_skip; (focus rfl)) | (refine qb_callN 99 rfl ?_; apply qb_call 99 rfl Try.func53 (by kernel_rfl) rfl rfl; (focus rfl); (focus (exact fun wq9 hb9 => qb_b hb9 (impl_System_below.calls a0_0 _ _ l0_1 _ _ l0_2 _ _ l0_3 a1 a2 true _ (Kd.C_below HR0_1.out (HQ _ hb9)) HC0_1.out (Kd.C_below HR0_2.out (HQ _ hb9)) HC0_2.out (Kd.C_below HR0_3.out (HQ _ hb9)) HC0_3.out A80.out))); (focus (rfl))) | (refine qb_callN 106 rfl ?_; apply qb_call 106 rfl Try.func49 (by kernel_rfl) rfl rfl; (focus rfl); (focus (exact fun wq9 hb9 => qb_b hb9 (impl_System_plus.calls a0_0 _ _ l0_1 _ _ l0_2 _ _ l0_3 a1 a3 t301 _ (Kd.C_below HR0_1.out (HQ _ hb9)) HC0_1.out (Kd.C_below HR0_2.out (HQ _ hb9)) HC0_2.out (Kd.C_below HR0_3.out (HQ _ hb9)) HC0_3.out A82.out))); (focus (rfl))) | (refine qb_callN 110 rfl ?_; apply qb_call 110 rfl Try.func49 (by kernel_rfl) rfl rfl; (focus rfl); (focus (exact fun wq9 hb9 => qb_b hb9 (impl_System_plus.calls a0_0 _ _ l0_1 _ _ l0_2 _ _ l0_3 a2 a3 t302 _ (Kd.C_below HR0_1.out (HQ _ hb9)) HC0_1.out (Kd.C_below HR0_2.out (HQ _ hb9)) HC0_2.out (Kd.C_below HR0_3.out (HQ _ hb9)) HC0_3.out A83.out))); (focus (rfl))) | (refine qb_callN 111 rfl ?_; apply qb_call 111 rfl Try.func53 (by kernel_rfl) rfl rfl; (focus rfl); (focus (exact fun wq9 hb9 => qb_b hb9 (impl_System_below.calls a0_0 _ _ l0_1 _ _ l0_2 _ _ l0_3 t301 t302 true _ (Kd.C_below HR0_1.out (HQ _ hb9)) HC0_1.out (Kd.C_below HR0_2.out (HQ _ hb9)) HC0_2.out (Kd.C_below HR0_3.out (HQ _ hb9)) HC0_3.out A84.out))); (focus (rfl))) | (refine qb_callN 117 rfl ?_; apply qb_call 117 rfl Try.func51 (by kernel_rfl) rfl rfl; (focus rfl); (focus (exact fun wq9 hb9 => qb_b hb9 (impl_System_times.calls a0_0 _ _ l0_1 _ _ l0_2 _ _ l0_3 a1 a3 t304 _ (Kd.C_below HR0_1.out (HQ _ hb9)) HC0_1.out (Kd.C_below HR0_2.out (HQ _ hb9)) HC0_2.out (Kd.C_below HR0_3.out (HQ _ hb9)) HC0_3.out A86.out))); (focus (rfl))) | (refine qb_callN 121 rfl ?_; apply qb_call 121 rfl Try.func51 (by kernel_rfl) rfl rfl; (focus rfl); (focus (exact fun wq9 hb9 => qb_b hb9 (impl_System_times.calls a0_0 _ _ l0_1 _ _ l0_2 _ _ l0_3 a2 a3 t305 _ (Kd.C_below HR0_1.out (HQ _ hb9)) HC0_1.out (Kd.C_below HR0_2.out (HQ _ hb9)) HC0_2.out (Kd.C_below HR0_3.out (HQ _ hb9)) HC0_3.out A87.out))); (focus (rfl))) | (refine qb_callN 122 rfl ?_; apply qb_call 122 rfl Try.func53 (by kernel_rfl) rfl rfl; (focus rfl); (focus (exact fun wq9 hb9 => qb_b hb9 (impl_System_below.calls a0_0 _ _ l0_1 _ _ l0_2 _ _ l0_3 t304 t305 false _ (Kd.C_below HR0_1.out (HQ _ hb9)) HC0_1.out (Kd.C_below HR0_2.out (HQ _ hb9)) HC0_2.out (Kd.C_below HR0_3.out (HQ _ hb9)) HC0_3.out A88.out))); (focus (rfl))) | (apply qb_val; (focus rfl); (focus (intro wq9 _; go_simp; with_reducible rfl))) | (apply qb_val; (focus rfl); (focus (intro wq9 hb9_; have hb9 : Below wc.heap.size wc wq9 := hb9_; have BK278 := sd_ (blk_below BK278.out hb9); have hc9_278_0 : wq9.cell? ⟨gb278, 0, none⟩ = some (.int .i64 a0_0) := (blk_cell BK278.out 0).trans rfl; have hc9_278_1 : wq9.cell? ⟨gb278, 1, none⟩ = some (.slice A0_1 l0_1.length c0_1) := (blk_cell BK278.out 1).trans rfl; have hc9_278_2 : wq9.cell? ⟨gb278, 2, none⟩ = some (.slice A0_2 l0_2.length c0_2) := (blk_cell BK278.out 2).trans rfl; have hc9_278_3 : wq9.cell? ⟨gb278, 3, none⟩ = some (.slice A0_3 l0_3.length c0_3) := (blk_cell BK278.out 3).trans rfl; go_simp; with_reducible rfl)))); (focus (simp only [Act.put, List.setIfInBounds_toArray, List.set_cons_zero, List.set_cons_succ, i64_w, i32_w]; rfl)))
         refine qb_nil ?_
         intro w111 hb
         replace BK278 := sd_ (blk_below BK278.out hb)
         replace HB := sd_ (below_step HB.out hb)
         clear hb
         (try clear HQ)
         try go_wp2
         go_ret
         exact ⟨an_, bw1_ HB.out GE278.out⟩
        replace c85 := Bool.eq_false_iff.mpr c85
        subst c85
        have H1 : (some false) = some r := by rw [if_neg (show ¬ (false = true) by decide)] at H; exact H
        clear H
        have H := H1
        clear H1
        obtain rfl := Option.some.inj H
        try go_wp2
        refine qb_region (by kernel_rfl) (by kernel_rfl) ?_
        have HQ := fun (wq : World) (hq : Below wc.heap.size wc wq) => below_step HB.out hq
        repeat ((first | (apply qb_skip; (focus rfl)) | (refine qb_callN 99 rfl ?_; apply qb_call 99 rfl Try.func53 (by kernel_rfl) rfl rfl; (focus rfl); (focus (exact fun wq9 hb9 => qb_b hb9 (impl_System_below.calls a0_0 _ _ l0_1 _ _ l0_2 _ _ l0_3 a1 a2 true _ (Kd.C_below HR0_1.out (HQ _ hb9)) HC0_1.out (Kd.C_below HR0_2.out (HQ _ hb9)) HC0_2.out (Kd.C_below HR0_3.out (HQ _ hb9)) HC0_3.out A80.out))); (focus (rfl))) | (refine qb_callN 106 rfl ?_; apply qb_call 106 rfl Try.func49 (by kernel_rfl) rfl rfl; (focus rfl); (focus (exact fun wq9 hb9 => qb_b hb9 (impl_System_plus.calls a0_0 _ _ l0_1 _ _ l0_2 _ _ l0_3 a1 a3 t301 _ (Kd.C_below HR0_1.out (HQ _ hb9)) HC0_1.out (Kd.C_below HR0_2.out (HQ _ hb9)) HC0_2.out (Kd.C_below HR0_3.out (HQ _ hb9)) HC0_3.out A82.out))); (focus (rfl))) | (refine qb_callN 110 rfl ?_; apply qb_call 110 rfl Try.func49 (by kernel_rfl) rfl rfl; (focus rfl); (focus (exact fun wq9 hb9 => qb_b hb9 (impl_System_plus.calls a0_0 _ _ l0_1 _ _ l0_2 _ _ l0_3 a2 a3 t302 _ (Kd.C_below HR0_1.out (HQ _ hb9)) HC0_1.out (Kd.C_below HR0_2.out (HQ _ hb9)) HC0_2.out (Kd.C_below HR0_3.out (HQ _ hb9)) HC0_3.out A83.out))); (focus (rfl))) | (refine qb_callN 111 rfl ?_; apply qb_call 111 rfl Try.func53 (by kernel_rfl) rfl rfl; (focus rfl); (focus (exact fun wq9 hb9 => qb_b hb9 (impl_System_below.calls a0_0 _ _ l0_1 _ _ l0_2 _ _ l0_3 t301 t302 false _ (Kd.C_below HR0_1.out (HQ _ hb9)) HC0_1.out (Kd.C_below HR0_2.out (HQ _ hb9)) HC0_2.out (Kd.C_below HR0_3.out (HQ _ hb9)) HC0_3.out A84.out))); (focus (rfl))) | (apply qb_val; (focus rfl); (focus (intro wq9 _; go_simp; with_reducible rfl))) | (apply qb_val; (focus rfl); (focus (intro wq9 hb9_; have hb9 : Below wc.heap.size wc wq9 := hb9_; have BK278 := sd_ (blk_below BK278.out hb9); have hc9_278_0 : wq9.cell? ⟨gb278, 0, none⟩ = some (.int .i64 a0_0) := (blk_cell BK278.out 0).trans rfl; have hc9_278_1 : wq9.cell? ⟨gb278, 1, none⟩ = some (.slice A0_1 l0_1.length c0_1) := (blk_cell BK278.out 1).trans rfl; have hc9_278_2 : wq9.cell? ⟨gb278, 2, none⟩ = some (.slice A0_2 l0_2.length c0_2) := (blk_cell BK278.out 2).trans rfl; have hc9_278_3 : wq9.cell? ⟨gb278, 3, none⟩ = some (.slice A0_3 l0_3.length c0_3) := (blk_cell BK278.out 3).trans rfl; go_simp; with_reducible rfl)))); (focus (simp only [Act.put, List.setIfInBounds_toArray, List.set_cons_zero, List.set_cons_succ, i64_w, i32_w]; rfl)))
        refine qb_nil ?_
        intro w116 hb
        replace BK278 := sd_ (blk_below BK278.out hb)
        replace HB := sd_ (below_step HB.out hb)
        clear hb
        (try clear HQ)
        try go_wp2
        go_ret
        exact ⟨an_, bw1_ HB.out GE278.out⟩
       replace c81 := Bool.eq_false_iff.mpr c81
       subst c81
       have H1 : (some true) = some r := by rw [if_neg (show ¬ (false = true) by decide)] at H; exact H
       clear H
       have H := H1
       clear H1
       obtain rfl := Option.some.inj H
       try go_wp2
       refine qb_region (by kernel_rfl) (by kernel_rfl) ?_
       have HQ := fun (wq : World) (hq : Below wc.heap.size wc wq) => below_step HB.out hq
       repeat ((first | (apply qb_skip; (focus rfl)) | (refine qb_callN 99 rfl ?_; apply qb_call 99 rfl Try.func53 (by kernel_rfl) rfl rfl; (focus rfl); (focus (exact fun wq9 hb9 => qb_b hb9 (impl_System_below.calls a0_0 _ _ l0_1 _ _ l0_2 _ _ l0_3 a1 a2 false _ (Kd.C_below HR0_1.out (HQ _ hb9)) HC0_1.out (Kd.C_below HR0_2.out (HQ _ hb9)) HC0_2.out (Kd.C_below HR0_3.out (HQ _ hb9)) HC0_3.out A80.out))); (focus (rfl))) | (apply qb_val; (focus rfl); (focus (intro wq9 _; go_simp; with_reducible rfl))) | (apply qb_val; (focus rfl); (focus (intro wq9 hb9_; have hb9 : Below wc.heap.size wc wq9 := hb9_; have BK278 := sd_ (blk_below BK278.out hb9); have hc9_278_0 : wq9.cell? ⟨gb278, 0, none⟩ = some (.int .i64 a0_0) := (blk_cell BK278.out 0).trans rfl; have hc9_278_1 : wq9.cell? ⟨gb278, 1, none⟩ = some (.slice A0_1 l0_1.length c0_1) := (blk_cell BK278.out 1).trans rfl; have hc9_278_2 : wq9.cell? ⟨gb278, 2, none⟩ = some (.slice A0_2 l0_2.length c0_2) := (blk_cell BK278.out 2).trans rfl; have hc9_278_3 : wq9.cell? ⟨gb278, 3, none⟩ = some (.slice A0_3 l0_3.length c0_3) := (blk_cell BK278.out 3).trans rfl; go_simp; with_reducible rfl)))); (focus (simp only [Act.put, List.setIfInBounds_toArray, List.set_cons_zero, List.set_cons_succ, i64_w, i32_w]; rfl)))
       refine qb_nil ?_
       intro w118 hb
       replace BK278 := sd_ (blk_below BK278.out hb)
       replace HB := sd_ (below_step HB.out hb)
       clear hb
       (try clear HQ)
       try go_wp2
       go_ret
       exact ⟨an_, bw1_ HB.out GE278.out⟩

end Go.Proofs.Ytipfkicndjddgaa.P
