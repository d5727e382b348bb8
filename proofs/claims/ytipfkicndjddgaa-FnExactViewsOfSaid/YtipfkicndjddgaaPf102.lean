-- Printed by this session's own program (wip/tools/mkprint.py) out of the translation. Not trusted: Lean checks it.
import Derived.Test.YtipfkicndjddgaaP0
import Derived.Test.YtipfkicndjddgaaM4
/-! short words -/
namespace Go.Proofs.Ytipfkicndjddgaa.P
open Go.RowKit Go.Proofs.YtipfkicndjddgaaW.PrintWords Go.Proofs.YtipfkicndjddgaaW.PrintLast Go.Proofs.YtipfkicndjddgaaW.PrintMore
attribute [local go_sem] max2_int min2_int max_two min_two max_three min_three max_four min_four   -- for this text's walks alone
set_option linter.unusedVariables false
set_option linter.unusedSimpArgs false

/-! ### spec_l1Three: function 102 -/
mutual
def spec_l1Three.j0 : Nat → Int → Int → Int → Bool → Int → List Int → List Int → List Bool → Option (Bool)
 | 0, _, _, _, _, _, _, _, _ => none
 | k + 1, x1, x2, x3, x40, x179000, x179001, x179002, x179003 => if x40 = true then (some false) else ((spec_l1Add.f x179000 x179001 x179002 x179003 x2 x3).bind fun t187 => ((spec_l1Mul.f x179000 x179001 x179002 x179003 x1 t187).bind fun t188 => ((spec_l1Mul.f x179000 x179001 x179002 x179003 x1 x2).bind fun t189 => ((spec_l1Mul.f x179000 x179001 x179002 x179003 x1 x3).bind fun t190 => ((spec_l1Add.f x179000 x179001 x179002 x179003 t189 t190).bind fun t191 => (if t188 = t191 then ((spec_l1Add.f x179000 x179001 x179002 x179003 x1 x2).bind fun t192 => ((spec_l1Mul.f x179000 x179001 x179002 x179003 t192 x3).bind fun t193 => ((spec_l1Mul.f x179000 x179001 x179002 x179003 x1 x3).bind fun t194 => ((spec_l1Mul.f x179000 x179001 x179002 x179003 x2 x3).bind fun t195 => ((spec_l1Add.f x179000 x179001 x179002 x179003 t194 t195).bind fun t196 => (spec_l1Three.j1 k x1 x2 x3 (t193 != t196) x179000 x179001 x179002 x179003)))))) else (spec_l1Three.j1 k x1 x2 x3 true x179000 x179001 x179002 x179003)))))))
def spec_l1Three.j1 : Nat → Int → Int → Int → Bool → Int → List Int → List Int → List Bool → Option (Bool)
 | 0, _, _, _, _, _, _, _, _ => none
 | k + 1, x1, x2, x3, x78, x179000, x179001, x179002, x179003 => if x78 = true then (some false) else ((spec_l1Le.f x179000 x179001 x179002 x179003 x1 x2).bind fun t197 => (if t197 = true then ((spec_l1Le.f x179000 x179001 x179002 x179003 x2 x3).bind fun t198 => (if t198 = true then ((spec_l1Le.f x179000 x179001 x179002 x179003 x1 x3).bind fun t199 => (spec_l1Three.j2 k x1 x2 x3 (!t199) x179000 x179001 x179002 x179003)) else (spec_l1Three.j2 k x1 x2 x3 false x179000 x179001 x179002 x179003))) else (some true)))
def spec_l1Three.j2 : Nat → Int → Int → Int → Bool → Int → List Int → List Int → List Bool → Option (Bool)
 | 0, _, _, _, _, _, _, _, _ => none
 | k + 1, x1, x2, x3, x94, x179000, x179001, x179002, x179003 => if x94 = true then (some false) else ((spec_l1Add.f x179000 x179001 x179002 x179003 x1 x3).bind fun t200 => ((spec_l1Add.f x179000 x179001 x179002 x179003 x2 x3).bind fun t201 => ((spec_l1Le.f x179000 x179001 x179002 x179003 t200 t201).bind fun t202 => (if t202 = true then ((spec_l1Mul.f x179000 x179001 x179002 x179003 x1 x3).bind fun t203 => ((spec_l1Mul.f x179000 x179001 x179002 x179003 x2 x3).bind fun t204 => ((spec_l1Le.f x179000 x179001 x179002 x179003 t203 t204).bind fun t205 => (if t205 = true then ((spec_l1Mul.f x179000 x179001 x179002 x179003 x3 x1).bind fun t206 => ((spec_l1Mul.f x179000 x179001 x179002 x179003 x3 x2).bind fun t207 => ((spec_l1Le.f x179000 x179001 x179002 x179003 t206 t207).bind fun t208 => (some t208)))) else (some false))))) else (some false)))))
end
def spec_l1Three.f (k : Nat) (a0_0 : Int) (l0_1 : List Int) (l0_2 : List Int) (l0_3 : List Bool) (a1 : Int) (a2 : Int) (a3 : Int) : Option (Bool) := (spec_l1Add.f a0_0 l0_1 l0_2 l0_3 a1 a2).bind fun t179 => ((spec_l1Add.f a0_0 l0_1 l0_2 l0_3 t179 a3).bind fun t180 => ((spec_l1Add.f a0_0 l0_1 l0_2 l0_3 a2 a3).bind fun t181 => ((spec_l1Add.f a0_0 l0_1 l0_2 l0_3 a1 t181).bind fun t182 => (if t180 = t182 then ((spec_l1Mul.f a0_0 l0_1 l0_2 l0_3 a1 a2).bind fun t183 => ((spec_l1Mul.f a0_0 l0_1 l0_2 l0_3 t183 a3).bind fun t184 => ((spec_l1Mul.f a0_0 l0_1 l0_2 l0_3 a2 a3).bind fun t185 => ((spec_l1Mul.f a0_0 l0_1 l0_2 l0_3 a1 t185).bind fun t186 => (spec_l1Three.j0 k a1 a2 a3 (t184 != t186) a0_0 l0_1 l0_2 l0_3))))) else (spec_l1Three.j0 k a1 a2 a3 true a0_0 l0_1 l0_2 l0_3)))))
set_option maxHeartbeats 8000000 in
set_option maxRecDepth 100000 in
theorem spec_l1Three.calls (k : Nat) (a0_0 : Int) (A0_1 : Option Addr) (c0_1 : Nat) (l0_1 : List Int) (A0_2 : Option Addr) (c0_2 : Nat) (l0_2 : List Int) (A0_3 : Option Addr) (c0_3 : Nat) (l0_3 : List Bool) (a1 : Int) (a2 : Int) (a3 : Int) (r : Bool) (w : World) (hr0_1 : Kd.C (Kd.int .i64) w A0_1 l0_1.length l0_1) (hc0_1 : l0_1.length ≤ c0_1) (hr0_2 : Kd.C (Kd.int .i64) w A0_2 l0_2.length l0_2) (hc0_2 : l0_2.length ≤ c0_2) (hr0_3 : Kd.C Kd.bool w A0_3 l0_3.length l0_3) (hc0_3 : l0_3.length ≤ c0_3) (h : spec_l1Three.f k a0_0 l0_1 l0_2 l0_3 a1 a2 a3 = some r) :
  Calls Try.prog 102 #[.agg #[.int .i64 a0_0, .slice A0_1 l0_1.length c0_1, .slice A0_2 l0_2.length c0_2, .slice A0_3 l0_3.length c0_3], .int .i64 a1, .int .i64 a2, .int .i64 a3] w fun e w' => e = .returned (.bool r) ∧ Below w.heap.size w w' := by
 have hu27 := Try.underlying27
 have HR0_1 := sd_ hr0_1
 have HC0_1 := sd_ hc0_1
 clear hr0_1 hc0_1
 have HR0_2 := sd_ hr0_2
 have HC0_2 := sd_ hc0_2
 clear hr0_2 hc0_2
 have HR0_3 := sd_ hr0_3
 have HC0_3 := sd_ hc0_3
 clear hr0_3 hc0_3
 have HB := sd_ (Below.refl w.heap.size w)
 have H : ((spec_l1Add.f a0_0 l0_1 l0_2 l0_3 a1 a2).bind fun t179 => ((spec_l1Add.f a0_0 l0_1 l0_2 l0_3 t179 a3).bind fun t180 => ((spec_l1Add.f a0_0 l0_1 l0_2 l0_3 a2 a3).bind fun t181 => ((spec_l1Add.f a0_0 l0_1 l0_2 l0_3 a1 t181).bind fun t182 => (if t180 = t182 then ((spec_l1Mul.f a0_0 l0_1 l0_2 l0_3 a1 a2).bind fun t183 => ((spec_l1Mul.f a0_0 l0_1 l0_2 l0_3 t183 a3).bind fun t184 => ((spec_l1Mul.f a0_0 l0_1 l0_2 l0_3 a2 a3).bind fun t185 => ((spec_l1Mul.f a0_0 l0_1 l0_2 l0_3 a1 t185).bind fun t186 => (spec_l1Three.j0 k a1 a2 a3 (t184 != t186) a0_0 l0_1 l0_2 l0_3))))) else (spec_l1Three.j0 k a1 a2 a3 true a0_0 l0_1 l0_2 l0_3)))))) = some r := h
 clear h
 have HC5 := sd_ H
 clear H
 go_enter Try.func102, Try.ntmps102
 go_upto_region 1 with (first | ((with_reducible refine gate_dst (N := 4) rfl ?_); refine bx_ (N := 4) (cs := #[.int .i64 a0_0, .slice A0_1 l0_1.length c0_1, .slice A0_2 l0_2.length c0_2, .slice A0_3 l0_3.length c0_3]) (t := 27) ?_; intro gb178 hg w6 hbox hb; have BK178 := sd_ (hbox); have GW178 := sd_ (gs_ hg (bw0_ HB.out)); have GE178 := sd_ (gs_ hg (bw0_ HB.out)); replace HB := sd_ (below_step (bw0_ HB.out) hb); clear hb hbox hg))
 (try simp only [Act.put, List.setIfInBounds_toArray, List.set_cons_zero, List.set_cons_succ])
 go_cut [40] (fun v40 wc => ∃ (kq : Nat) (x40_4 : Bool), v40 = .bool x40_4 ∧ Aside0 (spec_l1Three.j0 kq a1 a2 a3 x40_4 a0_0 l0_1 l0_2 l0_3 = some r) ∧ Aside0 (kq ≤ k) ∧ Aside0 (wc.heap[gb178]? = some (.cells #[.int .i64 a0_0, (.slice A0_1 l0_1.length c0_1), (.slice A0_2 l0_2.length c0_2), (.slice A0_3 l0_3.length c0_3)] 27 (0, 0))) ∧ Aside0 (Below w.heap.size w wc))
 case first =>
  have H := HC5.out
  clear HC5
  replace H := Option.bind_eq_some_iff.mp H
  obtain ⟨t179, A70, H⟩ := H
  try dsimp only at H
  have A7 := sd_ A70
  clear A70
  replace H := Option.bind_eq_some_iff.mp H
  obtain ⟨t180, A80, H⟩ := H
  try dsimp only at H
  have A8 := sd_ A80
  clear A80
  replace H := Option.bind_eq_some_iff.mp H
  obtain ⟨t181, A90, H⟩ := H
  try dsimp only at H
  have A9 := sd_ A90
  clear A90
  replace H := Option.bind_eq_some_iff.mp H
  obtain ⟨t182, A100, H⟩ := H
  try dsimp only at H
  have A10 := sd_ A100
  clear A100
  by_cases c11 : t180 = t182
  ·rw [if_pos c11] at H
   have c11b0 : (t180 == t182) = true := beq_iff_eq.mpr c11
   have c11b1 : (t180 != t182) = false := bne_eq_false_iff_eq.mpr c11
   clear c11
   (first | rw [c11b0] | (simp only [i64_w, i32_w]; rw [c11b0]) | skip)
   replace H := Option.bind_eq_some_iff.mp H
   obtain ⟨t183, A120, H⟩ := H
   try dsimp only at H
   have A12 := sd_ A120
   clear A120
   replace H := Option.bind_eq_some_iff.mp H
   obtain ⟨t184, A130, H⟩ := H
   try dsimp only at H
   have A13 := sd_ A130
   clear A130
   replace H := Option.bind_eq_some_iff.mp H
   obtain ⟨t185, A140, H⟩ := H
   try dsimp only at H
   have A14 := sd_ A140
   clear A140
   replace H := Option.bind_eq_some_iff.mp H
   obtain ⟨t186, A150, H⟩ := H
   try dsimp only at H
   have A15 := sd_ A150
   clear A150
   have H' := sd_ H
   clear H
   try go_wp2
   refine qb_region (by kernel_rfl) (by kernel_rfl) ?_
   have HQ := fun (wq : World) (hq : Below w6.heap.size w6 wq) => below_step HB.out hq
   repeat ((first | (apply qb_skip; (focus rfl)) | (refine qb_callN 13 rfl ?_; apply qb_call 13 rfl Try.func40 (by kernel_rfl) rfl rfl; (focus rfl); (focus (exact fun wq9 hb9 => qb_b hb9 (spec_l1Add.calls a0_0 _ _ l0_1 _ _ l0_2 _ _ l0_3 a1 a2 t179 _ (Kd.C_below HR0_1.out (HQ _ hb9)) HC0_1.out (Kd.C_below HR0_2.out (HQ _ hb9)) HC0_2.out (Kd.C_below HR0_3.out (HQ _ hb9)) HC0_3.out A7.out))); (focus (rfl))) | (refine qb_callN 15 rfl ?_; apply qb_call 15 rfl Try.func40 (by kernel_rfl) rfl rfl; (focus rfl); (focus (exact fun wq9 hb9 => qb_b hb9 (spec_l1Add.calls a0_0 _ _ l0_1 _ _ l0_2 _ _ l0_3 t179 a3 t180 _ (Kd.C_below HR0_1.out (HQ _ hb9)) HC0_1.out (Kd.C_below HR0_2.out (HQ _ hb9)) HC0_2.out (Kd.C_below HR0_3.out (HQ _ hb9)) HC0_3.out A8.out))); (focus (rfl))) | (refine qb_callN 21 rfl ?_; apply qb_call 21 rfl Try.func40 (by kernel_rfl) rfl rfl; (focus rfl); (focus (exact fun wq9 hb9 => qb_b hb9 (spec_l1Add.calls a0_0 _ _ l0_1 _ _ l0_2 _ _ l0_3 a2 a3 t181 _ (Kd.C_below HR0_1.out (HQ _ hb9)) HC0_1.out (Kd.C_below HR0_2.out (HQ _ hb9)) HC0_2.out (Kd.C_below HR0_3.out (HQ _ hb9)) HC0_3.out A9.out))); (focus (rfl))) | (refine qb_callN 22 rfl ?_; apply qb_call 22 rfl Try.func40 (by kernel_rfl) rfl rfl; (focus rfl); (focus (exact fun wq9 hb9 => qb_b hb9 (spec_l1Add.calls a0_0 _ _ l0_1 _ _ l0_2 _ _ l0_3 a1 t181 t182 _ (Kd.C_below HR0_1.out (HQ _ hb9)) HC0_1.out (Kd.C_below HR0_2.out (HQ _ hb9)) HC0_2.out (Kd.C_below HR0_3.out (HQ _ hb9)) HC0_3.out A10.out))); (focus (rfl))) | (refine qb_callN 29 rfl ?_; apply qb_call 29 rfl Try.func41 (by kernel_rfl) rfl rfl; (focus rfl); (focus (exact fun wq9 hb9 => qb_b hb9 (spec_l1Mul.calls a0_0 _ _ l0_1 _ _ l0_2 _ _ l0_3 a1 a2 t183 _ (Kd.C_below HR0_1.out (HQ _ hb9)) HC0_1.out (Kd.C_below HR0_2.out (HQ _ hb9)) HC0_2.out (Kd.C_below HR0_3.out (HQ _ hb9)) HC0_3.out A12.out))); (focus (rfl))) | (refine qb_callN 31 rfl ?_; apply qb_call 31 rfl Try.func41 (by kernel_rfl) rfl rfl; (focus rfl); (focus (exact fun wq9 hb9 => qb_b hb9 (spec_l1Mul.calls a0_0 _ _ l0_1 _ _ l0_2 _ _ l0_3 t183 a3 t184 _ (Kd.C_below HR0_1.out (HQ _ hb9)) HC0_1.out (Kd.C_below HR0_2.out (HQ _ hb9)) HC0_2.out (Kd.C_below HR0_3.out (HQ _ hb9)) HC0_3.out A13.out))); (focus (rfl))) | (refine qb_callN 37 rfl ?_; apply qb_call 37 rfl Try.func41 (by kernel_rfl) rfl rfl; (focus rfl); (focus (exact fun wq9 hb9 => qb_b hb9 (spec_l1Mul.calls a0_0 _ _ l0_1 _ _ l0_2 _ _ l0_3 a2 a3 t185 _ (Kd.C_below HR0_1.out (HQ _ hb9)) HC0_1.out (Kd.C_below HR0_2.out (HQ _ hb9)) HC0_2.out (Kd.C_below HR0_3.out (HQ _ hb9)) HC0_3.out A14.out))); (focus (rfl))) | (refine qb_callN 38 rfl ?_; apply qb_call 38 rfl Try.func41 (by kernel_rfl) rfl rfl; (focus rfl); (focus (exact fun wq9 hb9 => qb_b hb9 (spec_l1Mul.calls a0_0 _ _ l0_1 _ _ l0_2 _ _ l0_3 a1 t185 t186 _ (Kd.C_below HR0_1.out (HQ _ hb9)) HC0_1.out (Kd.C_below HR0_2.out (HQ _ hb9)) HC0_2.out (Kd.C_below HR0_3.out (HQ _ hb9)) HC0_3.out A15.out))); (focus (rfl))) | (apply qb_val; (focus rfl); (focus (intro wq9 _; go_simp; with_reducible rfl))) | (apply qb_val; (focus rfl); (focus (intro wq9 hb9_; have hb9 : Below w6.heap.size w6 wq9 := hb9_; have BK178 := sd_ (blk_below BK178.out hb9); have hc9_178_0 : wq9.cell? ⟨gb178, 0, none⟩ = some (.int .i64 a0_0) := (blk_cell BK178.out 0).trans rfl; have hc9_178_1 : wq9.cell? ⟨gb178, 1, none⟩ = some (.slice A0_1 l0_1.length c0_1) := (blk_cell BK178.out 1).trans rfl; have hc9_178_2 : wq9.cell? ⟨gb178, 2, none⟩ = some (.slice A0_2 l0_2.length c0_2) := (blk_cell BK178.out 2).trans rfl; have hc9_178_3 : wq9.cell? ⟨gb178, 3, none⟩ = some (.slice A0_3 l0_3.length c0_3) := (blk_cell BK178.out 3).trans rfl; go_simp; with_reducible rfl)))); (focus (simp only [Act.put, List.setIfInBounds_toArray, List.set_cons_zero, List.set_cons_succ, i64_w, i32_w]; rfl)))
   refine qb_nil ?_
   intro w24 hb
   replace BK178 := sd_ (blk_below BK178.out hb)
   replace HB := sd_ (below_step HB.out hb)
   clear hb
   (try clear HQ)
   try go_wp2
   go_meet
   case rel => exact ⟨_, ((t184 != t186)), sm_, H', ⟨by first | omega | exact Nat.le_refl _⟩, ⟨by exact bz_ BK178.out⟩, ⟨bw1_ HB.out GE178.out⟩⟩
  rw [if_neg c11] at H
  have c11b0 : (t180 == t182) = false := beq_eq_false_iff_ne.mpr c11
  have c11b1 : (t180 != t182) = true := bne_iff_ne.mpr c11
  (first | rw [c11b0] | (simp only [i64_w, i32_w]; rw [c11b0]) | skip)
  have H' := sd_ H
  clear H
  try go_wp2
  refine qb_region (by kernel_rfl) (by kernel_rfl) ?_
  have HQ := fun (wq : World) (hq : Below w6.heap.size w6 wq) => below_step HB.out hq
  repeat ((first | (apply qb_skip; (focus rfl)) | (refine qb_callN 13 rfl ?_; apply qb_call 13 rfl Try.func40 (by kernel_rfl) rfl rfl; (focus rfl); (focus (exact fun wq9 hb9 => qb_b hb9 (spec_l1Add.calls a0_0 _ _ l0_1 _ _ l0_2 _ _ l0_3 a1 a2 t179 _ (Kd.C_below HR0_1.out (HQ _ hb9)) HC0_1.out (Kd.C_below HR0_2.out (HQ _ hb9)) HC0_2.out (Kd.C_below HR0_3.out (HQ _ hb9)) HC0_3.out A7.out))); (focus (rfl))) | (refine qb_callN 15 rfl ?_; apply qb_call 15 rfl Try.func40 (by kernel_rfl) rfl rfl; (focus rfl); (focus (exact fun wq9 hb9 => qb_b hb9 (spec_l1Add.calls a0_0 _ _ l0_1 _ _ l0_2 _ _ l0_3 t179 a3 t180 _ (Kd.C_below HR0_1.out (HQ _ hb9)) HC0_1.out (Kd.C_below HR0_2.out (HQ _ hb9)) HC0_2.out (Kd.C_below HR0_3.out (HQ _ hb9)) HC0_3.out A8.out))); (focus (rfl))) | (refine qb_callN 21 rfl ?_; apply qb_call 21 rfl Try.func40 (by kernel_rfl) rfl rfl; (focus rfl); (focus (exact fun wq9 hb9 => qb_b hb9 (spec_l1Add.calls a0_0 _ _ l0_1 _ _ l0_2 _ _ l0_3 a2 a3 t181 _ (Kd.C_below HR0_1.out (HQ _ hb9)) HC0_1.out (Kd.C_below HR0_2.out (HQ _ hb9)) HC0_2.out (Kd.C_below HR0_3.out (HQ _ hb9)) HC0_3.out A9.out))); (focus (rfl))) | (refine qb_callN 22 rfl ?_; apply qb_call 22 rfl Try.func40 (by kernel_rfl) rfl rfl; (focus rfl); (focus (exact fun wq9 hb9 => qb_b hb9 (spec_l1Add.calls a0_0 _ _ l0_1 _ _ l0_2 _ _ l0_3 a1 t181 t182 _ (Kd.C_below HR0_1.out (HQ _ hb9)) HC0_1.out (Kd.C_below HR0_2.out (HQ _ hb9)) HC0_2.out (Kd.C_below HR0_3.out (HQ _ hb9)) HC0_3.out A10.out))); (focus (rfl))) | (apply qb_val; (focus rfl); (focus (intro wq9 _; go_simp; with_reducible rfl))) | (apply qb_val; (focus rfl); (focus (intro wq9 hb9_; have hb9 : Below w6.heap.size w6 wq9 := hb9_; have BK178 := sd_ (blk_below BK178.out hb9); have hc9_178_0 : wq9.cell? ⟨gb178, 0, none⟩ = some (.int .i64 a0_0) := (blk_cell BK178.out 0).trans rfl; have hc9_178_1 : wq9.cell? ⟨gb178, 1, none⟩ = some (.slice A0_1 l0_1.length c0_1) := (blk_cell BK178.out 1).trans rfl; have hc9_178_2 : wq9.cell? ⟨gb178, 2, none⟩ = some (.slice A0_2 l0_2.length c0_2) := (blk_cell BK178.out 2).trans rfl; have hc9_178_3 : wq9.cell? ⟨gb178, 3, none⟩ = some (.slice A0_3 l0_3.length c0_3) := (blk_cell BK178.out 3).trans rfl; go_simp; with_reducible rfl)))); (focus (simp only [Act.put, List.setIfInBounds_toArray, List.set_cons_zero, List.set_cons_succ, i64_w, i32_w]; rfl)))
  refine qb_nil ?_
  intro w29 hb
  replace BK178 := sd_ (blk_below BK178.out hb)
  replace HB := sd_ (below_step HB.out hb)
  clear hb
  (try clear HQ)
  try go_wp2
  go_meet
  case rel => exact ⟨_, (true), sm_, H', ⟨by first | omega | exact Nat.le_refl _⟩, ⟨by exact bz_ BK178.out⟩, ⟨bw1_ HB.out GE178.out⟩⟩
 case rest =>
  clear HC5
  try clear c1
  try clear c10
  obtain ⟨kq, x40_4, rfl, HA, HJ4, BK178, HB⟩ := hcut
  cases kq with
  | zero => exact absurd HA.out (by simp [spec_l1Three.j0])
  | succ kj4 =>
   have H := HA.out
   clear HA
   simp only [spec_l1Three.j0] at H
   by_cases c30 : x40_4 = true
   ·subst c30
    have H1 : (some false) = some r := by rw [if_pos rfl] at H; exact H
    clear H
    have H := H1
    clear H1
    obtain rfl := Option.some.inj H
    go_wp2
    go_ret
    exact ⟨an_, bw1_ HB.out GE178.out⟩
   replace c30 := Bool.eq_false_iff.mpr c30
   subst c30
   have H1 : ((spec_l1Add.f a0_0 l0_1 l0_2 l0_3 a2 a3).bind fun t187 => ((spec_l1Mul.f a0_0 l0_1 l0_2 l0_3 a1 t187).bind fun t188 => ((spec_l1Mul.f a0_0 l0_1 l0_2 l0_3 a1 a2).bind fun t189 => ((spec_l1Mul.f a0_0 l0_1 l0_2 l0_3 a1 a3).bind fun t190 => ((spec_l1Add.f a0_0 l0_1 l0_2 l0_3 t189 t190).bind fun t191 => (if t188 = t191 then ((spec_l1Add.f a0_0 l0_1 l0_2 l0_3 a1 a2).bind fun t192 => ((spec_l1Mul.f a0_0 l0_1 l0_2 l0_3 t192 a3).bind fun t193 => ((spec_l1Mul.f a0_0 l0_1 l0_2 l0_3 a1 a3).bind fun t194 => ((spec_l1Mul.f a0_0 l0_1 l0_2 l0_3 a2 a3).bind fun t195 => ((spec_l1Add.f a0_0 l0_1 l0_2 l0_3 t194 t195).bind fun t196 => (spec_l1Three.j1 kj4 a1 a2 a3 (t193 != t196) a0_0 l0_1 l0_2 l0_3)))))) else (spec_l1Three.j1 kj4 a1 a2 a3 true a0_0 l0_1 l0_2 l0_3))))))) = some r := by rw [if_neg (show ¬ (false = true) by decide)] at H; exact H
   clear H
   have H := H1
   clear H1
   have HC31 := sd_ H
   clear H
   go_upto_region 3 with (fail)
   go_cut [78] (fun v78 wc => ∃ (kq : Nat) (x78_30 : Bool), v78 = .bool x78_30 ∧ Aside0 (spec_l1Three.j1 kq a1 a2 a3 x78_30 a0_0 l0_1 l0_2 l0_3 = some r) ∧ Aside0 (kq ≤ kj4) ∧ Aside0 (wc.heap[gb178]? = some (.cells #[.int .i64 a0_0, (.slice A0_1 l0_1.length c0_1), (.slice A0_2 l0_2.length c0_2), (.slice A0_3 l0_3.length c0_3)] 27 (0, 0))) ∧ Aside0 (Below w.heap.size w wc))
   case first =>
    have H := HC31.out
    clear HC31
    replace H := Option.bind_eq_some_iff.mp H
    obtain ⟨t187, A320, H⟩ := H
    try dsimp only at H
    have A32 := sd_ A320
    clear A320
    replace H := Option.bind_eq_some_iff.mp H
    obtain ⟨t188, A330, H⟩ := H
    try dsimp only at H
    have A33 := sd_ A330
    clear A330
    replace H := Option.bind_eq_some_iff.mp H
    obtain ⟨t189, A340, H⟩ := H
    try dsimp only at H
    have A34 := sd_ A340
    clear A340
    replace H := Option.bind_eq_some_iff.mp H
    obtain ⟨t190, A350, H⟩ := H
    try dsimp only at H
    have A35 := sd_ A350
    clear A350
    replace H := Option.bind_eq_some_iff.mp H
    obtain ⟨t191, A360, H⟩ := H
    try dsimp only at H
    have A36 := sd_ A360
    clear A360
    by_cases c37 : t188 = t191
    ·rw [if_pos c37] at H
     have c37b0 : (t188 == t191) = true := beq_iff_eq.mpr c37
     have c37b1 : (t188 != t191) = false := bne_eq_false_iff_eq.mpr c37
     clear c37
     (first | rw [c37b0] | (simp only [i64_w, i32_w]; rw [c37b0]) | skip)
     replace H := Option.bind_eq_some_iff.mp H
     obtain ⟨t192, A380, H⟩ := H
     try dsimp only at H
     have A38 := sd_ A380
     clear A380
     replace H := Option.bind_eq_some_iff.mp H
     obtain ⟨t193, A390, H⟩ := H
     try dsimp only at H
     have A39 := sd_ A390
     clear A390
     replace H := Option.bind_eq_some_iff.mp H
     obtain ⟨t194, A400, H⟩ := H
     try dsimp only at H
     have A40 := sd_ A400
     clear A400
     replace H := Option.bind_eq_some_iff.mp H
     obtain ⟨t195, A410, H⟩ := H
     try dsimp only at H
     have A41 := sd_ A410
     clear A410
     replace H := Option.bind_eq_some_iff.mp H
     obtain ⟨t196, A420, H⟩ := H
     try dsimp only at H
     have A42 := sd_ A420
     clear A420
     have H' := sd_ H
     clear H
     try go_wp2
     refine qb_region (by kernel_rfl) (by kernel_rfl) ?_
     have HQ := fun (wq : World) (hq : Below wc.heap.size wc wq) => below_step HB.out hq
     repeat ((first | (apply qb_skip; (focus rfl)) | (refine qb_callN 46 rfl ?_; apply qb_call 46 rfl Try.func40 (by kernel_rfl) rfl rfl; (focus rfl); (focus (exact fun wq9 hb9 => qb_b hb9 (spec_l1Add.calls a0_0 _ _ l0_1 _ _ l0_2 _ _ l0_3 a2 a3 t187 _ (Kd.C_below HR0_1.out (HQ _ hb9)) HC0_1.out (Kd.C_below HR0_2.out (HQ _ hb9)) HC0_2.out (Kd.C_below HR0_3.out (HQ _ hb9)) HC0_3.out A32.out))); (focus (rfl))) | (refine qb_callN 47 rfl ?_; apply qb_call 47 rfl Try.func41 (by kernel_rfl) rfl rfl; (focus rfl); (focus (exact fun wq9 hb9 => qb_b hb9 (spec_l1Mul.calls a0_0 _ _ l0_1 _ _ l0_2 _ _ l0_3 a1 t187 t188 _ (Kd.C_below HR0_1.out (HQ _ hb9)) HC0_1.out (Kd.C_below HR0_2.out (HQ _ hb9)) HC0_2.out (Kd.C_below HR0_3.out (HQ _ hb9)) HC0_3.out A33.out))); (focus (rfl))) | (refine qb_callN 52 rfl ?_; apply qb_call 52 rfl Try.func41 (by kernel_rfl) rfl rfl; (focus rfl); (focus (exact fun wq9 hb9 => qb_b hb9 (spec_l1Mul.calls a0_0 _ _ l0_1 _ _ l0_2 _ _ l0_3 a1 a2 t189 _ (Kd.C_below HR0_1.out (HQ _ hb9)) HC0_1.out (Kd.C_below HR0_2.out (HQ _ hb9)) HC0_2.out (Kd.C_below HR0_3.out (HQ _ hb9)) HC0_3.out A34.out))); (focus (rfl))) | (refine qb_callN 56 rfl ?_; apply qb_call 56 rfl Try.func41 (by kernel_rfl) rfl rfl; (focus rfl); (focus (exact fun wq9 hb9 => qb_b hb9 (spec_l1Mul.calls a0_0 _ _ l0_1 _ _ l0_2 _ _ l0_3 a1 a3 t190 _ (Kd.C_below HR0_1.out (HQ _ hb9)) HC0_1.out (Kd.C_below HR0_2.out (HQ _ hb9)) HC0_2.out (Kd.C_below HR0_3.out (HQ _ hb9)) HC0_3.out A35.out))); (focus (rfl))) | (refine qb_callN 57 rfl ?_; apply qb_call 57 rfl Try.func40 (by kernel_rfl) rfl rfl; (focus rfl); (focus (exact fun wq9 hb9 => qb_b hb9 (spec_l1Add.calls a0_0 _ _ l0_1 _ _ l0_2 _ _ l0_3 t189 t190 t191 _ (Kd.C_below HR0_1.out (HQ _ hb9)) HC0_1.out (Kd.C_below HR0_2.out (HQ _ hb9)) HC0_2.out (Kd.C_below HR0_3.out (HQ _ hb9)) HC0_3.out A36.out))); (focus (rfl))) | (refine qb_callN 64 rfl ?_; apply qb_call 64 rfl Try.func40 (by kernel_rfl) rfl rfl; (focus rfl); (focus (exact fun wq9 hb9 => qb_b hb9 (spec_l1Add.calls a0_0 _ _ l0_1 _ _ l0_2 _ _ l0_3 a1 a2 t192 _ (Kd.C_below HR0_1.out (HQ _ hb9)) HC0_1.out (Kd.C_below HR0_2.out (HQ _ hb9)) HC0_2.out (Kd.C_below HR0_3.out (HQ _ hb9)) HC0_3.out A38.out))); (focus (rfl))) | (refine qb_callN 66 rfl ?_; apply qb_call 66 rfl Try.func41 (by kernel_rfl) rfl rfl; (focus rfl); (focus (exact fun wq9 hb9 => qb_b hb9 (spec_l1Mul.calls a0_0 _ _ l0_1 _ _ l0_2 _ _ l0_3 t192 a3 t193 _ (Kd.C_below HR0_1.out (HQ _ hb9)) HC0_1.out (Kd.C_below HR0_2.out (HQ _ hb9)) HC0_2.out (Kd.C_below HR0_3.out (HQ _ hb9)) HC0_3.out A39.out))); (focus (rfl))) | (refine qb_callN 71 rfl ?_; apply qb_call 71 rfl Try.func41 (by kernel_rfl) rfl rfl; (focus rfl); (focus (exact fun wq9 hb9 => qb_b hb9 (spec_l1Mul.calls a0_0 _ _ l0_1 _ _ l0_2 _ _ l0_3 a1 a3 t194 _ (Kd.C_below HR0_1.out (HQ _ hb9)) HC0_1.out (Kd.C_below HR0_2.out (HQ _ hb9)) HC0_2.out (Kd.C_below HR0_3.out (HQ _ hb9)) HC0_3.out A40.out))); (focus (rfl))) | (refine qb_callN 75 rfl ?_; apply qb_call 75 rfl Try.func41 (by kernel_rfl) rfl rfl; (focus rfl); (focus (exact fun wq9 hb9 => qb_b hb9 (spec_l1Mul.calls a0_0 _ _ l0_1 _ _ l0_2 _ _ l0_3 a2 a3 t195 _ (Kd.C_below HR0_1.out (HQ _ hb9)) HC0_1.out (Kd.C_below HR0_2.out (HQ _ hb9)) HC0_2.out (Kd.C_below HR0_3.out (HQ _ hb9)) HC0_3.out A41.out))); (focus (rfl))) | (refine qb_callN 76 rfl ?_; apply qb_call 76 rfl Try.func40 (by kernel_rfl) rfl rfl; (focus rfl); (focus (exact fun wq9 hb9 => qb_b hb9 (spec_l1Add.calls a0_0 _ _ l0_1 _ _ l0_2 _ _ l0_3 t194 t195 t196 _ (Kd.C_below HR0_1.out (HQ _ hb9)) HC0_1.out (Kd.C_below HR0_2.out (HQ _ hb9)) HC0_2.out (Kd.C_below HR0_3.out (HQ _ hb9)) HC0_3.out A42.out))); (focus (rfl))) | (apply qb_val; (focus rfl); (focus (intro wq9 _; go_simp; with_reducible rfl))) | (apply qb_val; (focus rfl); (focus (intro wq9 hb9_; have hb9 : Below wc.heap.size wc wq9 := hb9_; have BK178 := sd_ (blk_below BK178.out hb9); have hc9_178_0 : wq9.cell? ⟨gb178, 0, none⟩ = some (.int .i64 a0_0) := (blk_cell BK178.out 0).trans rfl; have hc9_178_1 : wq9.cell? ⟨gb178, 1, none⟩ = some (.slice A0_1 l0_1.length c0_1) := (blk_cell BK178.out 1).trans rfl; have hc9_178_2 : wq9.cell? ⟨gb178, 2, none⟩ = some (.slice A0_2 l0_2.length c0_2) := (blk_cell BK178.out 2).trans rfl; have hc9_178_3 : wq9.cell? ⟨gb178, 3, none⟩ = some (.slice A0_3 l0_3.length c0_3) := (blk_cell BK178.out 3).trans rfl; go_simp; with_reducible rfl)))); (focus (simp only [Act.put, List.setIfInBounds_toArray, List.set_cons_zero, List.set_cons_succ, i64_w, i32_w]; rfl)))
     refine qb_nil ?_
     intro w53 hb
     replace BK178 := sd_ (blk_below BK178.out hb)
     replace HB := sd_ (below_step HB.out hb)
     clear hb
     (try clear HQ)
     try go_wp2
     go_meet
     case rel => exact ⟨_, ((t193 != t196)), sm_, H', ⟨by have := HJ4.out; first | omega | exact Nat.le_refl _⟩, ⟨by exact bz_ BK178.out⟩, ⟨bw1_ HB.out GE178.out⟩⟩
    rw [if_neg c37] at H
    have c37b0 : (t188 == t191) = false := beq_eq_false_iff_ne.mpr c37
    have c37b1 : (t188 != t191) = true := bne_iff_ne.mpr c37
    (first | rw [c37b0] | (simp only [i64_w, i32_w]; rw [c37b0]) | skip)
    have H' := sd_ H
    clear H
    try go_wp2
    refine qb_region (by kernel_rfl) (by kernel_rfl) ?_
    have HQ := fun (wq : World) (hq : Below wc.heap.size wc wq) => below_step HB.out hq
    repeat ((first | (apply qb_skip; (focus rfl)) | (refine qb_callN 46 rfl ?_; apply qb_call 46 rfl Try.func40 (by kernel_rfl) rfl rfl; (focus rfl); (focus (exact fun wq9 hb9 => qb_b hb9 (spec_l1Add.calls a0_0 _ _ l0_1 _ _ l0_2 _ _ l0_3 a2 a3 t187 _ (Kd.C_below HR0_1.out (HQ _ hb9)) HC0_1.out (Kd.C_below HR0_2.out (HQ _ hb9)) HC0_2.out (Kd.C_below HR0_3.out (HQ _ hb9)) HC0_3.out A32.out))); (focus (rfl))) | (refine qb_callN 47 rfl ?_; apply qb_call 47 rfl Try.func41 (by kernel_rfl) rfl rfl; (focus rfl); (focus (exact fun wq9 hb9 => qb_b hb9 (spec_l1Mul.calls a0_0 _ _ l0_1 _ _ l0_2 _ _ l0_3 a1 t187 t188 _ (Kd.C_below HR0_1.out (HQ _ hb9)) HC0_1.out (Kd.C_below HR0_2.out (HQ _ hb9)) HC0_2.out (Kd.C_below HR0_3.out (HQ _ hb9)) HC0_3.out A33.out))); (focus (rfl))) | (refine qb_callN 52 rfl ?_; apply qb_call 52 rfl Try.func41 (by kernel_rfl) rfl rfl; (focus rfl); (focus (exact fun wq9 hb9 => qb_b hb9 (spec_l1Mul.calls a0_0 _ _ l0_1 _ _ l0_2 _ _ l0_3 a1 a2 t189 _ (Kd.C_below HR0_1.out (HQ _ hb9)) HC0_1.out (Kd.C_below HR0_2.out (HQ _ hb9)) HC0_2.out (Kd.C_below HR0_3.out (HQ _ hb9)) HC0_3.out A34.out))); (focus (rfl))) | (refine qb_callN 56 rfl ?_; apply qb_call 56 rfl Try.func41 (by kernel_rfl) rfl rfl; (focus rfl); (focus (exact fun wq9 hb9 => qb_b hb9 (spec_l1Mul.calls a0_0 _ _ l0_1 _ _ l0_2 _ _ l0_3 a1 a3 t190 _ (Kd.C_below HR0_1.out (HQ _ hb9)) HC0_1.out (Kd.C_below HR0_2.out (HQ _ hb9)) HC0_2.out (Kd.C_below HR0_3.out (HQ _ hb9)) HC0_3.out A35.out))); (focus (rfl))) | (refine qb_callN 57 rfl ?_; apply qb_call 57 rfl Try.func40 (by kernel_rfl) rfl rfl; (focus rfl); (focus (exact fun wq9 hb9 => qb_b hb9 (spec_l1Add.calls a0_0 _ _ l0_1 _ _ l0_2 _ _ l0_3 t189 t190 t191 _ (Kd.C_below HR0_1.out (HQ _ hb9)) HC0_1.out (Kd.C_below HR0_2.out (HQ _ hb9)) HC0_2.out (Kd.C_below HR0_3.out (HQ _ hb9)) HC0_3.out A36.out))); (focus (rfl))) | (apply qb_val; (focus rfl); (focus (intro wq9 _; go_simp; with_reducible rfl))) | (apply qb_val; (focus rfl); (focus (intro wq9 hb9_; have hb9 : Below wc.heap.size wc wq9 := hb9_; have BK178 := sd_ (blk_below BK178.out hb9); have hc9_178_0 : wq9.cell? ⟨gb178, 0, none⟩ = some (.int .i64 a0_0) := (blk_cell BK178.out 0).trans rfl; have hc9_178_1 : wq9.cell? ⟨gb178, 1, none⟩ = some (.slice A0_1 l0_1.length c0_1) := (blk_cell BK178.out 1).trans rfl; have hc9_178_2 : wq9.cell? ⟨gb178, 2, none⟩ = some (.slice A0_2 l0_2.length c0_2) := (blk_cell BK178.out 2).trans rfl; have hc9_178_3 : wq9.cell? ⟨gb178, 3, none⟩ = some (.slice A0_3 l0_3.length c0_3) := (blk_cell BK178.out 3).trans rfl; go_simp; with_reducible rfl)))); (focus (simp only [Act.put, List.setIfInBounds_toArray, List.set_cons_zero, List.set_cons_succ, i64_w, i32_w]; rfl)))
    refine qb_nil ?_
    intro w59 hb
    replace BK178 := sd_ (blk_below BK178.out hb)
    replace HB := sd_ (below_step HB.out hb)
    clear hb
    (try clear HQ)
    try go_wp2
    go_meet
    case rel => exact ⟨_, (true), sm_, H', ⟨by have := HJ4.out; first | omega | exact Nat.le_refl _⟩, ⟨by exact bz_ BK178.out⟩, ⟨bw1_ HB.out GE178.out⟩⟩
   case rest =>
    clear HC31
    try clear c1
    try clear c3
    try clear c10
    try clear c30
    obtain ⟨kq, x78_30, rfl, HA, HJ30, BK178, HB⟩ := hcut
    cases kq with
    | zero => exact absurd HA.out (by simp [spec_l1Three.j1])
    | succ kj30 =>
     have H := HA.out
     clear HA
     simp only [spec_l1Three.j1] at H
     by_cases c60 : x78_30 = true
     ·subst c60
      have H1 : (some false) = some r := by rw [if_pos rfl] at H; exact H
      clear H
      have H := H1
      clear H1
      obtain rfl := Option.some.inj H
      go_wp2
      go_ret
      exact ⟨an_, bw1_ HB.out GE178.out⟩
     replace c60 := Bool.eq_false_iff.mpr c60
     subst c60
     have H1 : ((spec_l1Le.f a0_0 l0_1 l0_2 l0_3 a1 a2).bind fun t197 => (if t197 = true then ((spec_l1Le.f a0_0 l0_1 l0_2 l0_3 a2 a3).bind fun t198 => (if t198 = true then ((spec_l1Le.f a0_0 l0_1 l0_2 l0_3 a1 a3).bind fun t199 => (spec_l1Three.j2 kj30 a1 a2 a3 (!t199) a0_0 l0_1 l0_2 l0_3)) else (spec_l1Three.j2 kj30 a1 a2 a3 false a0_0 l0_1 l0_2 l0_3))) else (some true))) = some r := by rw [if_neg (show ¬ (false = true) by decide)] at H; exact H
     clear H
     have H := H1
     clear H1
     replace H := Option.bind_eq_some_iff.mp H
     obtain ⟨t197, A610, H⟩ := H
     try dsimp only at H
     have A61 := sd_ A610
     clear A610
     by_cases c62 : t197 = true
     ·subst c62
      have H1 : ((spec_l1Le.f a0_0 l0_1 l0_2 l0_3 a2 a3).bind fun t198 => (if t198 = true then ((spec_l1Le.f a0_0 l0_1 l0_2 l0_3 a1 a3).bind fun t199 => (spec_l1Three.j2 kj30 a1 a2 a3 (!t199) a0_0 l0_1 l0_2 l0_3)) else (spec_l1Three.j2 kj30 a1 a2 a3 false a0_0 l0_1 l0_2 l0_3))) = some r := by rw [if_pos rfl] at H; exact H
      clear H
      have H := H1
      clear H1
      have HC63 := sd_ H
      clear H
      obtain ⟨hcz64_0, hcz64_1, hcz64_2, hcz64_3, hfz64_0, hfz64_1, hfz64_2, hfz64_3⟩ := bf4_ BK178.out
      go_upto_region 7 with (first | ((with_reducible refine gate_callee (f := 42) rfl ?_); refine goesL_ (some 82) rfl rfl Try.func42 (by kernel_rfl) rfl #[.agg #[.int .i64 a0_0, .slice A0_1 l0_1.length c0_1, .slice A0_2 l0_2.length c0_2, .slice A0_3 l0_3.length c0_3], .int .i64 a1, .int .i64 a2] rfl la_ ?_; (with_reducible refine (spec_l1Le.calls a0_0 _ _ l0_1 _ _ l0_2 _ _ l0_3 a1 a2 true _ (kc_ HR0_1.out HB.out) HC0_1.out (kc_ HR0_2.out HB.out) HC0_2.out (kc_ HR0_3.out HB.out) HC0_3.out A61.out).mono ?_); rintro e w65 ⟨rfl, hb⟩; refine ⟨_, rfl, ?_⟩; replace BK178 := sd_ (bb_ BK178.out hb); replace HB := sd_ (below_step (bw1_ HB.out GE178.out) hb); (try clear hb)))
      (try simp only [Act.put, List.setIfInBounds_toArray, List.set_cons_zero, List.set_cons_succ])
      go_cut [94] (fun v94 wc => ∃ (kq : Nat) (x94_62 : Bool), v94 = .bool x94_62 ∧ Aside0 (spec_l1Three.j2 kq a1 a2 a3 x94_62 a0_0 l0_1 l0_2 l0_3 = some r) ∧ Aside0 (kq ≤ kj30) ∧ Aside0 (wc.heap[gb178]? = some (.cells #[.int .i64 a0_0, (.slice A0_1 l0_1.length c0_1), (.slice A0_2 l0_2.length c0_2), (.slice A0_3 l0_3.length c0_3)] 27 (0, 0))) ∧ Aside0 (Below w.heap.size w wc))
      case first =>
       have H := HC63.out
       clear HC63
       replace H := Option.bind_eq_some_iff.mp H
       obtain ⟨t198, A660, H⟩ := H
       try dsimp only at H
       have A66 := sd_ A660
       clear A660
       by_cases c67 : t198 = true
       ·subst c67
        have H1 : ((spec_l1Le.f a0_0 l0_1 l0_2 l0_3 a1 a3).bind fun t199 => (spec_l1Three.j2 kj30 a1 a2 a3 (!t199) a0_0 l0_1 l0_2 l0_3)) = some r := by rw [if_pos rfl] at H; exact H
        clear H
        have H := H1
        clear H1
        replace H := Option.bind_eq_some_iff.mp H
        obtain ⟨t199, A680, H⟩ := H
        try dsimp only at H
        have A68 := sd_ A680
        clear A680
        have H' := sd_ H
        clear H
        obtain ⟨hcz69_0, hcz69_1, hcz69_2, hcz69_3, hfz69_0, hfz69_1, hfz69_2, hfz69_3⟩ := bf4_ BK178.out
        go_wp2_with (first | ((with_reducible refine gate_callee (f := 42) rfl ?_); refine goesL_ (some 87) rfl rfl Try.func42 (by kernel_rfl) rfl #[.agg #[.int .i64 a0_0, .slice A0_1 l0_1.length c0_1, .slice A0_2 l0_2.length c0_2, .slice A0_3 l0_3.length c0_3], .int .i64 a2, .int .i64 a3] rfl la_ ?_; (with_reducible refine (spec_l1Le.calls a0_0 _ _ l0_1 _ _ l0_2 _ _ l0_3 a2 a3 true _ (kc_ HR0_1.out HB.out) HC0_1.out (kc_ HR0_2.out HB.out) HC0_2.out (kc_ HR0_3.out HB.out) HC0_3.out A66.out).mono ?_); rintro e w70 ⟨rfl, hb⟩; refine ⟨_, rfl, ?_⟩; replace BK178 := sd_ (bb_ BK178.out hb); replace HB := sd_ (below_step (bw1_ HB.out GE178.out) hb); (try clear hb); obtain ⟨hcz71_0, hcz71_1, hcz71_2, hcz71_3, hfz71_0, hfz71_1, hfz71_2, hfz71_3⟩ := bf4_ BK178.out) | (go_at_call 42; (with_reducible refine (spec_l1Le.calls a0_0 _ _ l0_1 _ _ l0_2 _ _ l0_3 a1 a3 t199 _ (kc_ HR0_1.out HB.out) HC0_1.out (kc_ HR0_2.out HB.out) HC0_2.out (kc_ HR0_3.out HB.out) HC0_3.out A68.out).mono ?_); rintro e w72 ⟨rfl, hb⟩; replace BK178 := sd_ (bb_ BK178.out hb); replace HB := sd_ (below_step (bw1_ HB.out GE178.out) hb); (try clear hb)))
        go_meet
        case rel => exact ⟨_, (!t199), sm_, H', ⟨by have := HJ4.out; have := HJ30.out; first | omega | exact Nat.le_refl _⟩, ⟨by exact bz_ BK178.out⟩, ⟨bw1_ HB.out GE178.out⟩⟩
       replace c67 := Bool.eq_false_iff.mpr c67
       subst c67
       have H1 : (spec_l1Three.j2 kj30 a1 a2 a3 false a0_0 l0_1 l0_2 l0_3) = some r := by rw [if_neg (show ¬ (false = true) by decide)] at H; exact H
       clear H
       have H := H1
       clear H1
       have H' := sd_ H
       clear H
       obtain ⟨hcz73_0, hcz73_1, hcz73_2, hcz73_3, hfz73_0, hfz73_1, hfz73_2, hfz73_3⟩ := bf4_ BK178.out
       go_wp2_with (first | ((with_reducible refine gate_callee (f := 42) rfl ?_); refine goesL_ (some 87) rfl rfl Try.func42 (by kernel_rfl) rfl #[.agg #[.int .i64 a0_0, .slice A0_1 l0_1.length c0_1, .slice A0_2 l0_2.length c0_2, .slice A0_3 l0_3.length c0_3], .int .i64 a2, .int .i64 a3] rfl la_ ?_; (with_reducible refine (spec_l1Le.calls a0_0 _ _ l0_1 _ _ l0_2 _ _ l0_3 a2 a3 false _ (kc_ HR0_1.out HB.out) HC0_1.out (kc_ HR0_2.out HB.out) HC0_2.out (kc_ HR0_3.out HB.out) HC0_3.out A66.out).mono ?_); rintro e w74 ⟨rfl, hb⟩; refine ⟨_, rfl, ?_⟩; replace BK178 := sd_ (bb_ BK178.out hb); replace HB := sd_ (below_step (bw1_ HB.out GE178.out) hb); (try clear hb)))
       go_meet
       case rel => exact ⟨_, (false), sm_, H', ⟨by have := HJ4.out; have := HJ30.out; first | omega | exact Nat.le_refl _⟩, ⟨by exact bz_ BK178.out⟩, ⟨bw1_ HB.out GE178.out⟩⟩
      case rest =>
       clear HC63
       try clear c1
       try clear c3
       try clear c4
       try clear c6
       try clear c10
       try clear c30
       try clear c42
       try clear c60
       try clear c62
       try clear hcz64_0
       try clear hcz64_1
       try clear hcz64_2
       try clear hcz64_3
       try clear hfz64_0
       try clear hfz64_1
       try clear hfz64_2
       try clear hfz64_3
       obtain ⟨kq, x94_62, rfl, HA, HJ62, BK178, HB⟩ := hcut
       cases kq with
       | zero => exact absurd HA.out (by simp [spec_l1Three.j2])
       | succ kj62 =>
        have H := HA.out
        clear HA
        simp only [spec_l1Three.j2] at H
        by_cases c75 : x94_62 = true
        ·subst c75
         have H1 : (some false) = some r := by rw [if_pos rfl] at H; exact H
         clear H
         have H := H1
         clear H1
         obtain rfl := Option.some.inj H
         go_wp2
         go_ret
         exact ⟨an_, bw1_ HB.out GE178.out⟩
        replace c75 := Bool.eq_false_iff.mpr c75
        subst c75
        have H1 : ((spec_l1Add.f a0_0 l0_1 l0_2 l0_3 a1 a3).bind fun t200 => ((spec_l1Add.f a0_0 l0_1 l0_2 l0_3 a2 a3).bind fun t201 => ((spec_l1Le.f a0_0 l0_1 l0_2 l0_3 t200 t201).bind fun t202 => (if t202 = true then ((spec_l1Mul.f a0_0 l0_1 l0_2 l0_3 a1 a3).bind fun t203 => ((spec_l1Mul.f a0_0 l0_1 l0_2 l0_3 a2 a3).bind fun t204 => ((spec_l1Le.f a0_0 l0_1 l0_2 l0_3 t203 t204).bind fun t205 => (if t205 = true then ((spec_l1Mul.f a0_0 l0_1 l0_2 l0_3 a3 a1).bind fun t206 => ((spec_l1Mul.f a0_0 l0_1 l0_2 l0_3 a3 a2).bind fun t207 => ((spec_l1Le.f a0_0 l0_1 l0_2 l0_3 t206 t207).bind fun t208 => (some t208)))) else (some false))))) else (some false))))) = some r := by rw [if_neg (show ¬ (false = true) by decide)] at H; exact H
        clear H
        have H := H1
        clear H1
        replace H := Option.bind_eq_some_iff.mp H
        obtain ⟨t200, A760, H⟩ := H
        try dsimp only at H
        have A76 := sd_ A760
        clear A760
        replace H := Option.bind_eq_some_iff.mp H
        obtain ⟨t201, A770, H⟩ := H
        try dsimp only at H
        have A77 := sd_ A770
        clear A770
        replace H := Option.bind_eq_some_iff.mp H
        obtain ⟨t202, A780, H⟩ := H
        try dsimp only at H
        have A78 := sd_ A780
        clear A780
        by_cases c79 : t202 = true
        ·subst c79
         have H1 : ((spec_l1Mul.f a0_0 l0_1 l0_2 l0_3 a1 a3).bind fun t203 => ((spec_l1Mul.f a0_0 l0_1 l0_2 l0_3 a2 a3).bind fun t204 => ((spec_l1Le.f a0_0 l0_1 l0_2 l0_3 t203 t204).bind fun t205 => (if t205 = true then ((spec_l1Mul.f a0_0 l0_1 l0_2 l0_3 a3 a1).bind fun t206 => ((spec_l1Mul.f a0_0 l0_1 l0_2 l0_3 a3 a2).bind fun t207 => ((spec_l1Le.f a0_0 l0_1 l0_2 l0_3 t206 t207).bind fun t208 => (some t208)))) else (some false))))) = some r := by rw [if_pos rfl] at H; exact H
         clear H
         have H := H1
         clear H1
         replace H := Option.bind_eq_some_iff.mp H
         obtain ⟨t203, A800, H⟩ := H
         try dsimp only at H
         have A80 := sd_ A800
         clear A800
         replace H := Option.bind_eq_some_iff.mp H
         obtain ⟨t204, A810, H⟩ := H
         try dsimp only at H
         have A81 := sd_ A810
         clear A810
         replace H := Option.bind_eq_some_iff.mp H
         obtain ⟨t205, A820, H⟩ := H
         try dsimp only at H
         have A82 := sd_ A820
         clear A820
         by_cases c83 : t205 = true
         ·subst c83
          have H1 : ((spec_l1Mul.f a0_0 l0_1 l0_2 l0_3 a3 a1).bind fun t206 => ((spec_l1Mul.f a0_0 l0_1 l0_2 l0_3 a3 a2).bind fun t207 => ((spec_l1Le.f a0_0 l0_1 l0_2 l0_3 t206 t207).bind fun t208 => (some t208)))) = some r := by rw [if_pos rfl] at H; exact H
          clear H
          have H := H1
          clear H1
          replace H := Option.bind_eq_some_iff.mp H
          obtain ⟨t206, A840, H⟩ := H
          try dsimp only at H
          have A84 := sd_ A840
          clear A840
          replace H := Option.bind_eq_some_iff.mp H
          obtain ⟨t207, A850, H⟩ := H
          try dsimp only at H
          have A85 := sd_ A850
          clear A850
          replace H := Option.bind_eq_some_iff.mp H
          obtain ⟨t208, A860, H⟩ := H
          try dsimp only at H
          have A86 := sd_ A860
          clear A860
          obtain rfl := Option.some.inj H
          try go_wp2
          refine qb_region (by kernel_rfl) (by kernel_rfl) ?_
          have HQ := fun (wq : World) (hq : Below wc.heap.size wc wq) => below_step HB.out hq
          repeat ((first | (apply qb_skip; (focus rfl)) | (refine qb_callN 99 rfl ?_; apply qb_call 99 rfl Try.func40 (by kernel_rfl) rfl rfl; (focus rfl); (focus (exact fun wq9 hb9 => qb_b hb9 (spec_l1Add.calls a0_0 _ _ l0_1 _ _ l0_2 _ _ l0_3 a1 a3 t200 _ (Kd.C_below HR0_1.out (HQ _ hb9)) HC0_1.out (Kd.C_below HR0_2.out (HQ _ hb9)) HC0_2.out (Kd.C_below HR0_3.out (HQ _ hb9)) HC0_3.out A76.out))); (focus (rfl))) | (refine qb_callN 103 rfl ?_; apply qb_call 103 rfl Try.func40 (by kernel_rfl) rfl rfl; (focus rfl); (focus (exact fun wq9 hb9 => qb_b hb9 (spec_l1Add.calls a0_0 _ _ l0_1 _ _ l0_2 _ _ l0_3 a2 a3 t201 _ (Kd.C_below HR0_1.out (HQ _ hb9)) HC0_1.out (Kd.C_below HR0_2.out (HQ _ hb9)) HC0_2.out (Kd.C_below HR0_3.out (HQ _ hb9)) HC0_3.out A77.out))); (focus (rfl))) | (refine qb_callN 104 rfl ?_; apply qb_call 104 rfl Try.func42 (by kernel_rfl) rfl rfl; (focus rfl); (focus (exact fun wq9 hb9 => qb_b hb9 (spec_l1Le.calls a0_0 _ _ l0_1 _ _ l0_2 _ _ l0_3 t200 t201 true _ (Kd.C_below HR0_1.out (HQ _ hb9)) HC0_1.out (Kd.C_below HR0_2.out (HQ _ hb9)) HC0_2.out (Kd.C_below HR0_3.out (HQ _ hb9)) HC0_3.out A78.out))); (focus (rfl))) | (refine qb_callN 110 rfl ?_; apply qb_call 110 rfl Try.func41 (by kernel_rfl) rfl rfl; (focus rfl); (focus (exact fun wq9 hb9 => qb_b hb9 (spec_l1Mul.calls a0_0 _ _ l0_1 _ _ l0_2 _ _ l0_3 a1 a3 t203 _ (Kd.C_below HR0_1.out (HQ _ hb9)) HC0_1.out (Kd.C_below HR0_2.out (HQ _ hb9)) HC0_2.out (Kd.C_below HR0_3.out (HQ _ hb9)) HC0_3.out A80.out))); (focus (rfl))) | (refine qb_callN 114 rfl ?_; apply qb_call 114 rfl Try.func41 (by kernel_rfl) rfl rfl; (focus rfl); (focus (exact fun wq9 hb9 => qb_b hb9 (spec_l1Mul.calls a0_0 _ _ l0_1 _ _ l0_2 _ _ l0_3 a2 a3 t204 _ (Kd.C_below HR0_1.out (HQ _ hb9)) HC0_1.out (Kd.C_below HR0_2.out (HQ _ hb9)) HC0_2.out (Kd.C_below HR0_3.out (HQ _ hb9)) HC0_3.out A81.out))); (focus (rfl))) | (refine qb_callN 115 rfl ?_; apply qb_call 115 rfl Try.func42 (by kernel_rfl) rfl rfl; (focus rfl); (focus (exact fun wq9 hb9 => qb_b hb9 (spec_l1Le.calls a0_0 _ _ l0_1 _ _ l0_2 _ _ l0_3 t203 t204 true _ (Kd.C_below HR0_1.out (HQ _ hb9)) HC0_1.out (Kd.C_below HR0_2.out (HQ _ hb9)) HC0_2.out (Kd.C_below HR0_3.out (HQ _ hb9)) HC0_3.out A82.out))); (focus (rfl))) | (refine qb_callN 122 rfl ?_; apply qb_call 122 rfl Try.func41 (by kernel_rfl) rfl rfl; (focus rfl); (focus (exact fun wq9 hb9 => qb_b hb9 (spec_l1Mul.calls a0_0 _ _ l0_1 _ _ l0_2 _ _ l0_3 a3 a1 t206 _ (Kd.C_below HR0_1.out (HQ _ hb9)) HC0_1.out (Kd.C_below HR0_2.out (HQ _ hb9)) HC0_2.out (Kd.C_below HR0_3.out (HQ _ hb9)) HC0_3.out A84.out))); (focus (rfl))) | (refine qb_callN 126 rfl ?_; apply qb_call 126 rfl Try.func41 (by kernel_rfl) rfl rfl; (focus rfl); (focus (exact fun wq9 hb9 => qb_b hb9 (spec_l1Mul.calls a0_0 _ _ l0_1 _ _ l0_2 _ _ l0_3 a3 a2 t207 _ (Kd.C_below HR0_1.out (HQ _ hb9)) HC0_1.out (Kd.C_below HR0_2.out (HQ _ hb9)) HC0_2.out (Kd.C_below HR0_3.out (HQ _ hb9)) HC0_3.out A85.out))); (focus (rfl))) | (refine qb_callN 127 rfl ?_; apply qb_call 127 rfl Try.func42 (by kernel_rfl) rfl rfl; (focus rfl); (focus (exact fun wq9 hb9 => qb_b hb9 (spec_l1Le.calls a0_0 _ _ l0_1 _ _ l0_2 _ _ l0_3 t206 t207 t208 _ (Kd.C_below HR0_1.out (HQ _ hb9)) HC0_1.out (Kd.C_below HR0_2.out (HQ _ hb9)) HC0_2.out (Kd.C_below HR0_3.out (HQ _ hb9)) HC0_3.out A86.out))); (focus (rfl))) | (apply qb_val; (focus rfl); (focus (intro wq9 _; go_simp; with_reducible rfl))) | (apply qb_val; (focus rfl); (focus (intro wq9 hb9_; have hb9 : Below wc.heap.size wc wq9 := hb9_; have BK178 := sd_ (blk_below BK178.out hb9); have hc9_178_0 : wq9.cell? ⟨gb178, 0, none⟩ = some (.int .i64 a0_0) := (blk_cell BK178.out 0).trans rfl; have hc9_178_1 : wq9.cell? ⟨gb178, 1, none⟩ = some (.slice A0_1 l0_1.length c0_1) := (blk_cell BK178.out 1).trans rfl; have hc9_178_2 : wq9.cell? ⟨gb178, 2, none⟩ = some (.slice A0_2 l0_2.length c0_2) := (blk_cell BK178.out 2).trans rfl; have hc9_178_3 : wq9.cell? ⟨gb178, 3, none⟩ = some (.slice A0_3 l0_3.length c0_3) := (blk_cell BK178.out 3).trans rfl; go_simp; with_reducible rfl)))); (focus (simp only [Act.put, List.setIfInBounds_toArray, List.set_cons_zero, List.set_cons_succ, i64_w, i32_w]; rfl)))
          refine qb_nil ?_
          intro w96 hb
          replace BK178 := sd_ (blk_below BK178.out hb)
          replace HB := sd_ (below_step HB.out hb)
          clear hb
          (try clear HQ)
          try go_wp2
          go_ret
          exact ⟨an_, bw1_ HB.out GE178.out⟩
         replace c83 := Bool.eq_false_iff.mpr c83
         subst c83
         have H1 : (some false) = some r := by rw [if_neg (show ¬ (false = true) by decide)] at H; exact H
         clear H
         have H := H1
         clear H1
         obtain rfl := Option.some.inj H
         try go_wp2
         refine qb_region (by kernel_rfl) (by kernel_rfl) ?_
         have HQ := fun (wq : World) (hq : Below wc.heap.size wc wq) => below_step HB.out hq
         repeat ((first | (apply qb_skip; (focus rfl)) | (refine qb_callN 99 rfl ?_; apply qb_call 99 rfl Try.func40 (by kernel_rfl) rfl rfl; (focus rfl); (focus (exact fun wq9 hb9 => qb_b hb9 (spec_l1Add.calls a0_0 _ _ l0_1 _ _ l0_2 _ _ l0_3 a1 a3 t200 _ (Kd.C_below HR0_1.out (HQ _ hb9)) HC0_1.out (Kd.C_below HR0_2.out (HQ _ hb9)) HC0_2.out (Kd.C_below HR0_3.out (HQ _ hb9)) HC0_3.out A76.out))); (focus (rfl))) | (refine qb_callN 103 rfl ?_; apply qb_call 103 rfl Try.func40 (by kernel_rfl) rfl rfl; (focus rfl); (focus (exact fun wq9 hb9 => qb_b hb9 (spec_l1Add.calls a0_0 _ _ l0_1 _ _ l0_2 _ _ l0_3 a2 a3 t201 _ (Kd.C_below HR0_1.out (HQ _ hb9)) HC0_1.out (Kd.C_below HR0_2.out (HQ _ hb9)) HC0_2.out (Kd.C_below HR0_3.out (HQ _ hb9)) HC0_3.out A77.out))); (focus (rfl))) | (refine qb_callN 104 rfl ?_; apply qb_call 104 rfl Try.func42 (by kernel_rfl) rfl rfl; (focus rfl); (focus (exact fun wq9 hb9 => qb_b hb9 (spec_l1Le.calls a0_0 _ _ l0_1 _ _ l0_2 _ _ l0_3 t200 t201 true _ (Kd.C_below HR0_1.out (HQ _ hb9)) HC0_1.out (Kd.C_below HR0_2.out (HQ _ hb9)) HC0_2.out (Kd.C_below HR0_3.out (HQ _ hb9)) HC0_3.out A78.out))); (focus (rfl))) | (refine qb_callN 110 rfl ?_; apply qb_call 110 rfl Try.func41 (by kernel_rfl) rfl rfl; (focus rfl); (focus (exact fun wq9 hb9 => qb_b hb9 (spec_l1Mul.calls a0_0 _ _ l0_1 _ _ l0_2 _ _ l0_3 a1 a3 t203 _ (Kd.C_below HR0_1.out (HQ _ hb9)) HC0_1.out (Kd.C_below HR0_2.out (HQ _ hb9)) HC0_2.out (Kd.C_below HR0_3.out (HQ _ hb9)) HC0_3.out A80.out))); (focus (rfl))) | (refine qb_callN 114 rfl ?_; apply qb_call 114 rfl Try.func41 (by kernel_rfl) rfl rfl; (focus rfl); (focus (exact fun wq9 hb9 => qb_b hb9 (spec_l1Mul.calls a0_0 _ _ l0_1 _ _ l0_2 _ _ l0_3 a2 a3 t204 _ (Kd.C_below HR0_1.out (HQ _ hb9)) HC0_1.out (Kd.C_below HR0_2.out (HQ _ hb9)) HC0_2.out (Kd.C_below HR0_3.out (HQ _ hb9)) HC0_3.out A81.out))); (focus (rfl))) | (refine qb_callN 115 rfl ?_; apply qb_call 115 rfl Try.func42 (by kernel_rfl) rfl rfl; (focus rfl); (focus (exact fun wq9 hb9 => qb_b hb9 (spec_l1Le.calls a0_0 _ _ l0_1 _ _ l0_2 _ _ l0_3 t203 t204 false _ (Kd.C_below HR0_1.out (HQ _ hb9)) HC0_1.out (Kd.C_below HR0_2.out (HQ _ hb9)) HC0_2.out (Kd.C_below HR0_3.out (HQ _ hb9)) HC0_3.out A82.out))); (focus (rfl))) | (apply qb_val; (focus rfl); (focus (intro wq9 _; go_simp; with_reducible rfl))) | (apply qb_val; (focus rfl); (focus (intro wq9 hb9_; have hb9 : Below wc.heap.size wc wq9 := hb9_; have BK178 := sd_ (blk_below BK178.out hb9); have hc9_178_0 : wq9.cell? ⟨gb178, 0, none⟩ = some (.int .i64 a0_0) := (blk_cell BK178.out 0).trans rfl; have hc9_178_1 : wq9.cell? ⟨gb178, 1, none⟩ = some (.slice A0_1 l0_1.length c0_1) := (blk_cell BK178.out 1).trans rfl; have hc9_178_2 : wq9.cell? ⟨gb178, 2, none⟩ = some (.slice A0_2 l0_2.length c0_2) := (blk_cell BK178.out 2).trans rfl; have hc9_178_3 : wq9.cell? ⟨gb178, 3, none⟩ = some (.slice A0_3 l0_3.length c0_3) := (blk_cell BK178.out 3).trans rfl; go_simp; with_reducible rfl)))); (focus (simp only [Act.put, List.setIfInBounds_toArray, List.set_cons_zero, List.set_cons_succ, i64_w, i32_w]; rfl)))
         refine qb_nil ?_
         intro w103 hb
         replace BK178 := sd_ (blk_below BK178.out hb)
         replace HB := sd_ (below_step HB.out hb)
         clear hb
         (try clear HQ)
         try go_wp2
         go_ret
         exact ⟨an_, bw1_ HB.out GE178.out⟩
        replace c79 := Bool.eq_false_iff.mpr c79
        subst c79
        have H1 : (some false) = some r := by rw [if_neg (show ¬ (false = true) by decide)] at H; exact H
        clear H
        have H := H1
        clear H1
        obtain rfl := Option.some.inj H
        try go_wp2
        refine qb_region (by kernel_rfl) (by kernel_rfl) ?_
        have HQ := fun (wq : World) (hq : Below wc.heap.size wc wq) => below_step HB.out hq
        repeat ((first | (apply qb_skip; (focus rfl)) | (refine qb_callN 99 rfl ?_; apply qb_call 99 rfl Try.func40 (by kernel_rfl) rfl rfl; (focus rfl); (focus (exact fun wq9 hb9 => qb_b hb9 (spec_l1Add.calls a0_0 _ _ l0_1 _ _ l0_2 _ _ l0_3 a1 a3 t200 _ (Kd.C_below HR0_1.out (HQ _ hb9)) HC0_1.out (Kd.C_below HR0_2.out (HQ _ hb9)) HC0_2.out (Kd.C_below HR0_3.out (HQ _ hb9)) HC0_3.out A76.out))); (focus (rfl))) | (refine qb_callN 103 rfl ?_; apply qb_call 103 rfl Try.func40 (by kernel_rfl) rfl rfl; (focus rfl); (focus (exact fun wq9 hb9 => qb_b hb9 (spec_l1Add.calls a0_0 _ _ l0_1 _ _ l0_2 _ _ l0_3 a2 a3 t201 _ (Kd.C_below HR0_1.out (HQ _ hb9)) HC0_1.out (Kd.C_below HR0_2.out (HQ _ hb9)) HC0_2.out (Kd.C_below HR0_3.out (HQ _ hb9)) HC0_3.out A77.out))); (focus (rfl))) | (refine qb_callN 104 rfl ?_; apply qb_call 104 rfl Try.func42 (by kernel_rfl) rfl rfl; (focus rfl); (focus (exact fun wq9 hb9 => qb_b hb9 (spec_l1Le.calls a0_0 _ _ l0_1 _ _ l0_2 _ _ l0_3 t200 t201 false _ (Kd.C_below HR0_1.out (HQ _ hb9)) HC0_1.out (Kd.C_below HR0_2.out (HQ _ hb9)) HC0_2.out (Kd.C_below HR0_3.out (HQ _ hb9)) HC0_3.out A78.out))); (focus (rfl))) | (apply qb_val; (focus rfl); (focus (intro wq9 _; go_simp; with_reducible rfl))) | (apply qb_val; (focus rfl); (focus (intro wq9 hb9_; have hb9 : Below wc.heap.size wc wq9 := hb9_; have BK178 := sd_ (blk_below BK178.out hb9); have hc9_178_0 : wq9.cell? ⟨gb178, 0, none⟩ = some (.int .i64 a0_0) := (blk_cell BK178.out 0).trans rfl; have hc9_178_1 : wq9.cell? ⟨gb178, 1, none⟩ = some (.slice A0_1 l0_1.length c0_1) := (blk_cell BK178.out 1).trans rfl; have hc9_178_2 : wq9.cell? ⟨gb178, 2, none⟩ = some (.slice A0_2 l0_2.length c0_2) := (blk_cell BK178.out 2).trans rfl; have hc9_178_3 : wq9.cell? ⟨gb178, 3, none⟩ = some (.slice A0_3 l0_3.length c0_3) := (blk_cell BK178.out 3).trans rfl; go_simp; with_reducible rfl)))); (focus (simp only [Act.put, List.setIfInBounds_toArray, List.set_cons_zero, List.set_cons_succ, i64_w, i32_w]; rfl)))
        refine qb_nil ?_
        intro w107 hb
        replace BK178 := sd_ (blk_below BK178.out hb)
        replace HB := sd_ (below_step HB.out hb)
        clear hb
        (try clear HQ)
        try go_wp2
        go_ret
        exact ⟨an_, bw1_ HB.out GE178.out⟩
     replace c62 := Bool.eq_false_iff.mpr c62
     subst c62
     have H1 : (some true) = some r := by rw [if_neg (show ¬ (false = true) by decide)] at H; exact H
     clear H
     have H := H1
     clear H1
     obtain rfl := Option.some.inj H
     obtain ⟨hcz108_0, hcz108_1, hcz108_2, hcz108_3, hfz108_0, hfz108_1, hfz108_2, hfz108_3⟩ := bf4_ BK178.out
     go_wp2_with (first | ((with_reducible refine gate_callee (f := 42) rfl ?_); refine goesL_ (some 82) rfl rfl Try.func42 (by kernel_rfl) rfl #[.agg #[.int .i64 a0_0, .slice A0_1 l0_1.length c0_1, .slice A0_2 l0_2.length c0_2, .slice A0_3 l0_3.length c0_3], .int .i64 a1, .int .i64 a2] rfl la_ ?_; (with_reducible refine (spec_l1Le.calls a0_0 _ _ l0_1 _ _ l0_2 _ _ l0_3 a1 a2 false _ (kc_ HR0_1.out HB.out) HC0_1.out (kc_ HR0_2.out HB.out) HC0_2.out (kc_ HR0_3.out HB.out) HC0_3.out A61.out).mono ?_); rintro e w109 ⟨rfl, hb⟩; refine ⟨_, rfl, ?_⟩; replace BK178 := sd_ (bb_ BK178.out hb); replace HB := sd_ (below_step (bw1_ HB.out GE178.out) hb); (try clear hb)))
     go_ret
     exact ⟨an_, bw1_ HB.out GE178.out⟩

end Go.Proofs.Ytipfkicndjddgaa.P
