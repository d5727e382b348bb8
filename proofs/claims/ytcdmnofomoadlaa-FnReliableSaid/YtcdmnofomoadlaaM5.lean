-- Several texts in one (wip/tools/merge2.py).
import Derived.Test.YtcdmnofomoadlaaM1
import Derived.Test.YtcdmnofomoadlaaM4
import Derived.Test.YtcdmnofomoadlaaM2
section
namespace Go.Proofs.Ytcdmnofomoadlaa.P
open Go.RowKit Go.Proofs.YtcdmnofomoadlaaW.PrintWords Go.Proofs.YtcdmnofomoadlaaW.PrintLast Go.Proofs.YtcdmnofomoadlaaW.PrintMore
attribute [local go_sem] max2_int min2_int max_two min_two max_three min_three max_four min_four   -- for this text's walks alone
set_option linter.unusedVariables false
set_option linter.unusedSimpArgs false
/-! ### spec_l1Once: function 99 -/
def spec_l1Once.f (s0_0 : List Int) (s0_1 : Int) (s0_2 : Int) (a1 : Int) : Option (Bool × Int × Int) := (spec_l1Below.f s0_0 s0_1 s0_2 a1).bind fun bt438 => (some ((bt438.1 == 0), bt438.2.1, bt438.2.2))
set_option maxHeartbeats 8000000 in
set_option maxRecDepth 100000 in
theorem spec_l1Once.calls (g : Nat) (s0_0 : List Int) (s0_1 : Int) (s0_2 : Int) (a1 : Int) (r1 : Bool) (r2 : Int) (r3 : Int) (w0 w : World) (hI : IsS96 w0 w g s0_0 s0_1 s0_2) (hB : Below w0.heap.size w0 w) (h : spec_l1Once.f s0_0 s0_1 s0_2 a1 = some (r1, r2, r3)) :
  Calls Try.prog 99 #[.pointer (some ⟨g, 0, none⟩), .int .i64 a1] w fun e w' => e = .returned (.bool r1) ∧ IsS96 w0 w' g s0_0 r2 r3 ∧ Below w0.heap.size w0 w' ∧ KeepBut w w' g none := by
 have HI0 := sd_ hI
 have HK := sd_ (KeepBut.refl w g none)
 have HL := sd_ hB.size
 clear hI
 have HW0 := sd_ hB.size
 have HB := sd_ hB
 clear hB
 have H : ((spec_l1Below.f s0_0 s0_1 s0_2 a1).bind fun bt438 => (some ((bt438.1 == 0), bt438.2.1, bt438.2.2))) = some (r1, r2, r3) := h
 clear h
 replace H := Option.bind_eq_some_iff.mp H
 obtain ⟨⟨t438, t439, t440⟩, A30, H⟩ := H
 try dsimp only at H
 have A3 := sd_ A30
 clear A30
 simp only [Option.some.injEq, Prod.mk.injEq] at H
 obtain ⟨rfl, rfl, rfl⟩ := H
 go_enter Try.func99, Try.ntmps99
 go_wp2_with (first | ((with_reducible refine gate_callee (f := 112) rfl ?_); refine goesL_ (some 7) rfl rfl Try.func112 (by kernel_rfl) rfl #[.pointer (some ⟨g, 0, none⟩), .int .i64 a1] rfl la_ ?_; (with_reducible refine (spec_l1Below.calls g s0_0 s0_1 s0_2 a1 t438 t439 t440 w0 _ ?side1 ?side2 A3.out).mono ?_); (case side1 => repeat (first | (with_reducible first | exact HI0.out | apply IsS96.alloc | apply IsS96.drewN | apply IsS96.drew | apply IsS96.set_1 | apply IsS96.set_2) | exact HI0.out)); (case side2 => repeat (first | (with_reducible first | exact HB.out | apply below_alloc | apply pw_below_drewN | apply below_drew1 | refine below_set ?_ (IsS96.ge HI0.out)) | exact HB.out)); rintro e w4 ⟨rfl, hi, hb, hk⟩; refine ⟨_, rfl, ?_⟩; replace HK := sd_ (KeepBut.trans (by repeat (first | (with_reducible first | exact HK.out | apply KeepBut.set_ | apply keep_drewN | apply keep_drew | apply keep_alloc) | exact HK.out)) hk (.inl rfl)); replace HB := sd_ (hb); replace HI0 := sd_ (hi); (try clear hb); (try clear hk); (try clear hi)))
 go_ret
 exact ⟨an_, by repeat (first | (with_reducible first | exact HI0.out | apply IsS96.alloc | apply IsS96.drewN | apply IsS96.drew | apply IsS96.set_1 | apply IsS96.set_2) | exact HI0.out), by repeat (first | (with_reducible first | exact HB.out | apply below_alloc | apply pw_below_drewN | apply below_drew1 | refine below_set ?_ (IsS96.ge HI0.out)) | exact HB.out), by repeat (first | (with_reducible first | exact HK.out | apply KeepBut.set_ | apply keep_drewN | apply keep_drew | apply keep_alloc) | exact HK.out)⟩


/-! ### spec_l1Three: function 104 -/
mutual
def spec_l1Three.j0 : Nat → Int → Int → Int → Bool → Int → List Int → List Int → List Bool → Option (Bool)
 | 0, _, _, _, _, _, _, _, _ => none
 | k + 1, x1, x2, x3, x40, x174000, x174001, x174002, x174003 => if x40 = true then (some false) else ((spec_l1Add.f x174000 x174001 x174002 x174003 x2 x3).bind fun t182 => ((spec_l1Mul.f x174000 x174001 x174002 x174003 x1 t182).bind fun t183 => ((spec_l1Mul.f x174000 x174001 x174002 x174003 x1 x2).bind fun t184 => ((spec_l1Mul.f x174000 x174001 x174002 x174003 x1 x3).bind fun t185 => ((spec_l1Add.f x174000 x174001 x174002 x174003 t184 t185).bind fun t186 => (if t183 = t186 then ((spec_l1Add.f x174000 x174001 x174002 x174003 x1 x2).bind fun t187 => ((spec_l1Mul.f x174000 x174001 x174002 x174003 t187 x3).bind fun t188 => ((spec_l1Mul.f x174000 x174001 x174002 x174003 x1 x3).bind fun t189 => ((spec_l1Mul.f x174000 x174001 x174002 x174003 x2 x3).bind fun t190 => ((spec_l1Add.f x174000 x174001 x174002 x174003 t189 t190).bind fun t191 => (spec_l1Three.j1 k x1 x2 x3 (t188 != t191) x174000 x174001 x174002 x174003)))))) else (spec_l1Three.j1 k x1 x2 x3 true x174000 x174001 x174002 x174003)))))))
def spec_l1Three.j1 : Nat → Int → Int → Int → Bool → Int → List Int → List Int → List Bool → Option (Bool)
 | 0, _, _, _, _, _, _, _, _ => none
 | k + 1, x1, x2, x3, x78, x174000, x174001, x174002, x174003 => if x78 = true then (some false) else ((spec_l1Le.f x174000 x174001 x174002 x174003 x1 x2).bind fun t192 => (if t192 = true then ((spec_l1Le.f x174000 x174001 x174002 x174003 x2 x3).bind fun t193 => (if t193 = true then ((spec_l1Le.f x174000 x174001 x174002 x174003 x1 x3).bind fun t194 => (spec_l1Three.j2 k x1 x2 x3 (!t194) x174000 x174001 x174002 x174003)) else (spec_l1Three.j2 k x1 x2 x3 false x174000 x174001 x174002 x174003))) else (some true)))
def spec_l1Three.j2 : Nat → Int → Int → Int → Bool → Int → List Int → List Int → List Bool → Option (Bool)
 | 0, _, _, _, _, _, _, _, _ => none
 | k + 1, x1, x2, x3, x94, x174000, x174001, x174002, x174003 => if x94 = true then (some false) else ((spec_l1Add.f x174000 x174001 x174002 x174003 x1 x3).bind fun t195 => ((spec_l1Add.f x174000 x174001 x174002 x174003 x2 x3).bind fun t196 => ((spec_l1Le.f x174000 x174001 x174002 x174003 t195 t196).bind fun t197 => (if t197 = true then ((spec_l1Mul.f x174000 x174001 x174002 x174003 x1 x3).bind fun t198 => ((spec_l1Mul.f x174000 x174001 x174002 x174003 x2 x3).bind fun t199 => ((spec_l1Le.f x174000 x174001 x174002 x174003 t198 t199).bind fun t200 => (if t200 = true then ((spec_l1Mul.f x174000 x174001 x174002 x174003 x3 x1).bind fun t201 => ((spec_l1Mul.f x174000 x174001 x174002 x174003 x3 x2).bind fun t202 => ((spec_l1Le.f x174000 x174001 x174002 x174003 t201 t202).bind fun t203 => (some t203)))) else (some false))))) else (some false)))))
end
def spec_l1Three.f (k : Nat) (a0_0 : Int) (l0_1 : List Int) (l0_2 : List Int) (l0_3 : List Bool) (a1 : Int) (a2 : Int) (a3 : Int) : Option (Bool) := (spec_l1Add.f a0_0 l0_1 l0_2 l0_3 a1 a2).bind fun t174 => ((spec_l1Add.f a0_0 l0_1 l0_2 l0_3 t174 a3).bind fun t175 => ((spec_l1Add.f a0_0 l0_1 l0_2 l0_3 a2 a3).bind fun t176 => ((spec_l1Add.f a0_0 l0_1 l0_2 l0_3 a1 t176).bind fun t177 => (if t175 = t177 then ((spec_l1Mul.f a0_0 l0_1 l0_2 l0_3 a1 a2).bind fun t178 => ((spec_l1Mul.f a0_0 l0_1 l0_2 l0_3 t178 a3).bind fun t179 => ((spec_l1Mul.f a0_0 l0_1 l0_2 l0_3 a2 a3).bind fun t180 => ((spec_l1Mul.f a0_0 l0_1 l0_2 l0_3 a1 t180).bind fun t181 => (spec_l1Three.j0 k a1 a2 a3 (t179 != t181) a0_0 l0_1 l0_2 l0_3))))) else (spec_l1Three.j0 k a1 a2 a3 true a0_0 l0_1 l0_2 l0_3)))))
set_option maxHeartbeats 8000000 in
set_option maxRecDepth 100000 in
theorem spec_l1Three.calls (k : Nat) (a0_0 : Int) (A0_1 : Option Addr) (c0_1 : Nat) (l0_1 : List Int) (A0_2 : Option Addr) (c0_2 : Nat) (l0_2 : List Int) (A0_3 : Option Addr) (c0_3 : Nat) (l0_3 : List Bool) (a1 : Int) (a2 : Int) (a3 : Int) (r : Bool) (w : World) (hr0_1 : Kd.C (Kd.int .i64) w A0_1 l0_1.length l0_1) (hc0_1 : l0_1.length ≤ c0_1) (hr0_2 : Kd.C (Kd.int .i64) w A0_2 l0_2.length l0_2) (hc0_2 : l0_2.length ≤ c0_2) (hr0_3 : Kd.C Kd.bool w A0_3 l0_3.length l0_3) (hc0_3 : l0_3.length ≤ c0_3) (h : spec_l1Three.f k a0_0 l0_1 l0_2 l0_3 a1 a2 a3 = some r) :
  Calls Try.prog 104 #[.agg #[.int .i64 a0_0, .slice A0_1 l0_1.length c0_1, .slice A0_2 l0_2.length c0_2, .slice A0_3 l0_3.length c0_3], .int .i64 a1, .int .i64 a2, .int .i64 a3] w fun e w' => e = .returned (.bool r) ∧ Below w.heap.size w w' := by
 have hu27 := Try.underlying27
 have HR0_1 := sd_ hr0_1
 have HC0_1 := sd_ hc0_1
 clear hr0_1 hc0_1
 have HR0_2 := sd_ hr0_2
 have HC0_2 := sd_ hc0_2
 clear hr0_2 hc0_2
 have HR0_3 := sd_ hr0_3
 have HC0_3 := sd_ hc0_3
 clear hr0_3 hc0_3
 have HB := sd_ (Below.refl w.heap.size w)
 have H : ((spec_l1Add.f a0_0 l0_1 l0_2 l0_3 a1 a2).bind fun t174 => ((spec_l1Add.f a0_0 l0_1 l0_2 l0_3 t174 a3).bind fun t175 => ((spec_l1Add.f a0_0 l0_1 l0_2 l0_3 a2 a3).bind fun t176 => ((spec_l1Add.f a0_0 l0_1 l0_2 l0_3 a1 t176).bind fun t177 => (if t175 = t177 then ((spec_l1Mul.f a0_0 l0_1 l0_2 l0_3 a1 a2).bind fun t178 => ((spec_l1Mul.f a0_0 l0_1 l0_2 l0_3 t178 a3).bind fun t179 => ((spec_l1Mul.f a0_0 l0_1 l0_2 l0_3 a2 a3).bind fun t180 => ((spec_l1Mul.f a0_0 l0_1 l0_2 l0_3 a1 t180).bind fun t181 => (spec_l1Three.j0 k a1 a2 a3 (t179 != t181) a0_0 l0_1 l0_2 l0_3))))) else (spec_l1Three.j0 k a1 a2 a3 true a0_0 l0_1 l0_2 l0_3)))))) = some r := h
 clear h
 have HC5 := sd_ H
 clear H
 go_enter Try.func104, Try.ntmps104
 go_upto_region 1 with (first | ((with_reducible refine gate_dst (N := 4) rfl ?_); refine bx_ (N := 4) (cs := #[.int .i64 a0_0, .slice A0_1 l0_1.length c0_1, .slice A0_2 l0_2.length c0_2, .slice A0_3 l0_3.length c0_3]) (t := 27) ?_; intro gb173 hg w6 hbox hb; have BK173 := sd_ (hbox); have GW173 := sd_ (gs_ hg (bw0_ HB.out)); have GE173 := sd_ (gs_ hg (bw0_ HB.out)); replace HB := sd_ (below_step (bw0_ HB.out) hb); clear hb hbox hg))
 (try simp only [Act.put, List.setIfInBounds_toArray, List.set_cons_zero, List.set_cons_succ])
 go_cut [40] (fun v40 wc => ∃ (kq : Nat) (x40_4 : Bool), v40 = .bool x40_4 ∧ Aside0 (spec_l1Three.j0 kq a1 a2 a3 x40_4 a0_0 l0_1 l0_2 l0_3 = some r) ∧ Aside0 (kq ≤ k) ∧ Aside0 (wc.heap[gb173]? = some (.cells #[.int .i64 a0_0, (.slice A0_1 l0_1.length c0_1), (.slice A0_2 l0_2.length c0_2), (.slice A0_3 l0_3.length c0_3)] 27 (0, 0))) ∧ Aside0 (Below w.heap.size w wc))
 case first =>
  have H := HC5.out
  clear HC5
  replace H := Option.bind_eq_some_iff.mp H
  obtain ⟨t174, A70, H⟩ := H
  try dsimp only at H
  have A7 := sd_ A70
  clear A70
  replace H := Option.bind_eq_some_iff.mp H
  obtain ⟨t175, A80, H⟩ := H
  try dsimp only at H
  have A8 := sd_ A80
  clear A80
  replace H := Option.bind_eq_some_iff.mp H
  obtain ⟨t176, A90, H⟩ := H
  try dsimp only at H
  have A9 := sd_ A90
  clear A90
  replace H := Option.bind_eq_some_iff.mp H
  obtain ⟨t177, A100, H⟩ := H
  try dsimp only at H
  have A10 := sd_ A100
  clear A100
  by_cases c11 : t175 = t177
  ·rw [if_pos c11] at H
   have c11b0 : (t175 == t177) = true := beq_iff_eq.mpr c11
   have c11b1 : (t175 != t177) = false := bne_eq_false_iff_eq.mpr c11
   clear c11
   (first | rw [c11b0] | (simp only [i64_w, i32_w]; rw [c11b0]) | skip)
   replace H := Option.bind_eq_some_iff.mp H
   obtain ⟨t178, A120, H⟩ := H
   try dsimp only at H
   have A12 := sd_ A120
   clear A120
   replace H := Option.bind_eq_some_iff.mp H
   obtain ⟨t179, A130, H⟩ := H
   try dsimp only at H
   have A13 := sd_ A130
   clear A130
   replace H := Option.bind_eq_some_iff.mp H
   obtain ⟨t180, A140, H⟩ := H
   try dsimp only at H
   have A14 := sd_ A140
   clear A140
   replace H := Option.bind_eq_some_iff.mp H
   obtain ⟨t181, A150, H⟩ := H
   try dsimp only at H
   have A15 := sd_ A150
   clear A150
   have H' := sd_ H
   clear H
   try go_wp2
   refine qb_region (by kernel_rfl) (by kernel_rfl) ?_
   have HQ := fun (wq : World) (hq : Below w6.heap.size w6 wq) => below_step HB.out hq
   repeat ((first | (apply qb_skip; (focus rfl)) | (refine qb_callN 13 rfl ?_; apply qb_call 13 rfl Try.func88 (by kernel_rfl) rfl rfl; (focus rfl); (focus (exact fun wq9 hb9 => qb_b hb9 (spec_l1Add.calls a0_0 _ _ l0_1 _ _ l0_2 _ _ l0_3 a1 a2 t174 _ (Kd.C_below HR0_1.out (HQ _ hb9)) HC0_1.out (Kd.C_below HR0_2.out (HQ _ hb9)) HC0_2.out (Kd.C_below HR0_3.out (HQ _ hb9)) HC0_3.out A7.out))); (focus (rfl))) | (refine qb_callN 15 rfl ?_; apply qb_call 15 rfl Try.func88 (by kernel_rfl) rfl rfl; (focus rfl); (focus (exact fun wq9 hb9 => qb_b hb9 (spec_l1Add.calls a0_0 _ _ l0_1 _ _ l0_2 _ _ l0_3 t174 a3 t175 _ (Kd.C_below HR0_1.out (HQ _ hb9)) HC0_1.out (Kd.C_below HR0_2.out (HQ _ hb9)) HC0_2.out (Kd.C_below HR0_3.out (HQ _ hb9)) HC0_3.out A8.out))); (focus (rfl))) | (refine qb_callN 21 rfl ?_; apply qb_call 21 rfl Try.func88 (by kernel_rfl) rfl rfl; (focus rfl); (focus (exact fun wq9 hb9 => qb_b hb9 (spec_l1Add.calls a0_0 _ _ l0_1 _ _ l0_2 _ _ l0_3 a2 a3 t176 _ (Kd.C_below HR0_1.out (HQ _ hb9)) HC0_1.out (Kd.C_below HR0_2.out (HQ _ hb9)) HC0_2.out (Kd.C_below HR0_3.out (HQ _ hb9)) HC0_3.out A9.out))); (focus (rfl))) | (refine qb_callN 22 rfl ?_; apply qb_call 22 rfl Try.func88 (by kernel_rfl) rfl rfl; (focus rfl); (focus (exact fun wq9 hb9 => qb_b hb9 (spec_l1Add.calls a0_0 _ _ l0_1 _ _ l0_2 _ _ l0_3 a1 t176 t177 _ (Kd.C_below HR0_1.out (HQ _ hb9)) HC0_1.out (Kd.C_below HR0_2.out (HQ _ hb9)) HC0_2.out (Kd.C_below HR0_3.out (HQ _ hb9)) HC0_3.out A10.out))); (focus (rfl))) | (refine qb_callN 29 rfl ?_; apply qb_call 29 rfl Try.func89 (by kernel_rfl) rfl rfl; (focus rfl); (focus (exact fun wq9 hb9 => qb_b hb9 (spec_l1Mul.calls a0_0 _ _ l0_1 _ _ l0_2 _ _ l0_3 a1 a2 t178 _ (Kd.C_below HR0_1.out (HQ _ hb9)) HC0_1.out (Kd.C_below HR0_2.out (HQ _ hb9)) HC0_2.out (Kd.C_below HR0_3.out (HQ _ hb9)) HC0_3.out A12.out))); (focus (rfl))) | (refine qb_callN 31 rfl ?_; apply qb_call 31 rfl Try.func89 (by kernel_rfl) rfl rfl; (focus rfl); (focus (exact fun wq9 hb9 => qb_b hb9 (spec_l1Mul.calls a0_0 _ _ l0_1 _ _ l0_2 _ _ l0_3 t178 a3 t179 _ (Kd.C_below HR0_1.out (HQ _ hb9)) HC0_1.out (Kd.C_below HR0_2.out (HQ _ hb9)) HC0_2.out (Kd.C_below HR0_3.out (HQ _ hb9)) HC0_3.out A13.out))); (focus (rfl))) | (refine qb_callN 37 rfl ?_; apply qb_call 37 rfl Try.func89 (by kernel_rfl) rfl rfl; (focus rfl); (focus (exact fun wq9 hb9 => qb_b hb9 (spec_l1Mul.calls a0_0 _ _ l0_1 _ _ l0_2 _ _ l0_3 a2 a3 t180 _ (Kd.C_below HR0_1.out (HQ _ hb9)) HC0_1.out (Kd.C_below HR0_2.out (HQ _ hb9)) HC0_2.out (Kd.C_below HR0_3.out (HQ _ hb9)) HC0_3.out A14.out))); (focus (rfl))) | (refine qb_callN 38 rfl ?_; apply qb_call 38 rfl Try.func89 (by kernel_rfl) rfl rfl; (focus rfl); (focus (exact fun wq9 hb9 => qb_b hb9 (spec_l1Mul.calls a0_0 _ _ l0_1 _ _ l0_2 _ _ l0_3 a1 t180 t181 _ (Kd.C_below HR0_1.out (HQ _ hb9)) HC0_1.out (Kd.C_below HR0_2.out (HQ _ hb9)) HC0_2.out (Kd.C_below HR0_3.out (HQ _ hb9)) HC0_3.out A15.out))); (focus (rfl))) | (apply qb_val; (focus rfl); (focus (intro wq9 _; go_simp; with_reducible rfl))) | (apply qb_val; (focus rfl); (focus (intro wq9 hb9_; have hb9 : Below w6.heap.size w6 wq9 := hb9_; have BK173 := sd_ (blk_below BK173.out hb9); have hc9_173_0 : wq9.cell? ⟨gb173, 0, none⟩ = some (.int .i64 a0_0) := (blk_cell BK173.out 0).trans rfl; have hc9_173_1 : wq9.cell? ⟨gb173, 1, none⟩ = some (.slice A0_1 l0_1.length c0_1) := (blk_cell BK173.out 1).trans rfl; have hc9_173_2 : wq9.cell? ⟨gb173, 2, none⟩ = some (.slice A0_2 l0_2.length c0_2) := (blk_cell BK173.out 2).trans rfl; have hc9_173_3 : wq9.cell? ⟨gb173, 3, none⟩ = some (.slice A0_3 l0_3.length c0_3) := (blk_cell BK173.out 3).trans rfl; go_simp; with_reducible rfl)))); (focus (simp only [Act.put, List.setIfInBounds_toArray, List.set_cons_zero, List.set_cons_succ, i64_w, i32_w]; rfl)))
   refine qb_nil ?_
   intro w24 hb
   replace BK173 := sd_ (blk_below BK173.out hb)
   replace HB := sd_ (below_step HB.out hb)
   clear hb
   (try clear HQ)
   try go_wp2
   go_meet
   case rel => exact ⟨_, ((t179 != t181)), sm_, H', ⟨by first | omega | exact Nat.le_refl _⟩, ⟨by exact bz_ BK173.out⟩, ⟨bw1_ HB.out GE173.out⟩⟩
  rw [if_neg c11] at H
  have c11b0 : (t175 == t177) = false := beq_eq_false_iff_ne.mpr c11
  have c11b1 : (t175 != t177) = true := bne_iff_ne.mpr c11
  (first | rw [c11b0] | (simp only [i64_w, i32_w]; rw [c11b0]) | skip)
  have H' := sd_ H
  clear H
  try go_wp2
  refine qb_region (by kernel_rfl) (by kernel_rfl) ?_
  have HQ := fun (wq : World) (hq : Below w6.heap.size w6 wq) => below_step HB.out hq
  repeat ((first | (apply qb_skip; (focus rfl)) | (refine qb_callN 13 rfl ?_; apply qb_call 13 rfl Try.func88 (by kernel_rfl) rfl rfl; (focus rfl); (focus (exact fun wq9 hb9 => qb_b hb9 (spec_l1Add.calls a0_0 _ _ l0_1 _ _ l0_2 _ _ l0_3 a1 a2 t174 _ (Kd.C_below HR0_1.out (HQ _ hb9)) HC0_1.out (Kd.C_below HR0_2.out (HQ _ hb9)) HC0_2.out (Kd.C_below HR0_3.out (HQ _ hb9)) HC0_3.out A7.out))); (focus (rfl))) | (refine qb_callN 15 rfl ?_; apply qb_call 15 rfl Try.func88 (by kernel_rfl) rfl rfl; (focus rfl); (focus (exact fun wq9 hb9 => qb_b hb9 (spec_l1Add.calls a0_0 _ _ l0_1 _ _ l0_2 _ _ l0_3 t174 a3 t175 _ (Kd.C_below HR0_1.out (HQ _ hb9)) HC0_1.out (Kd.C_below HR0_2.out (HQ _ hb9)) HC0_2.out (Kd.C_below HR0_3.out (HQ _ hb9)) HC0_3.out A8.out))); (focus (rfl))) | (refine qb_callN 21 rfl ?_; apply qb_call 21 rfl Try.func88 (by kernel_rfl) rfl rfl; (focus rfl); (focus (exact fun wq9 hb9 => qb_b hb9 (spec_l1Add.calls a0_0 _ _ l0_1 _ _ l0_2 _ _ l0_3 a2 a3 t176 _ (Kd.C_below HR0_1.out (HQ _ hb9)) HC0_1.out (Kd.C_below HR0_2.out (HQ _ hb9)) HC0_2.out (Kd.C_below HR0_3.out (HQ _ hb9)) HC0_3.out A9.out))); (focus (rfl))) | (refine qb_callN 22 rfl ?_; apply qb_call 22 rfl Try.func88 (by kernel_rfl) rfl rfl; (focus rfl); (focus (exact fun wq9 hb9 => qb_b hb9 (spec_l1Add.calls a0_0 _ _ l0_1 _ _ l0_2 _ _ l0_3 a1 t176 t177 _ (Kd.C_below HR0_1.out (HQ _ hb9)) HC0_1.out (Kd.C_below HR0_2.out (HQ _ hb9)) HC0_2.out (Kd.C_below HR0_3.out (HQ _ hb9)) HC0_3.out A10.out))); (focus (rfl))) | (apply qb_val; (focus rfl); (focus (intro wq9 _; go_simp; with_reducible rfl))) | (apply qb_val; (focus rfl); (focus (intro wq9 hb9_; have hb9 : Below w6.heap.size w6 wq9 := hb9_; have BK173 := sd_ (blk_below BK173.out hb9); have hc9_173_0 : wq9.cell? ⟨gb173, 0, none⟩ = some (.int .i64 a0_0) := (blk_cell BK173.out 0).trans rfl; have hc9_173_1 : wq9.cell? ⟨gb173, 1, none⟩ = some (.slice A0_1 l0_1.length c0_1) := (blk_cell BK173.out 1).trans rfl; have hc9_173_2 : wq9.cell? ⟨gb173, 2, none⟩ = some (.slice A0_2 l0_2.length c0_2) := (blk_cell BK173.out 2).trans rfl; have hc9_173_3 : wq9.cell? ⟨gb173, 3, none⟩ = some (.slice A0_3 l0_3.length c0_3) := (blk_cell BK173.out 3).trans rfl; go_simp; with_reducible rfl)))); (focus (simp only [Act.put, List.setIfInBounds_toArray, List.set_cons_zero, List.set_cons_succ, i64_w, i32_w]; rfl)))
  refine qb_nil ?_
  intro w29 hb
  replace BK173 := sd_ (blk_below BK173.out hb)
  replace HB := sd_ (below_step HB.out hb)
  clear hb
  (try clear HQ)
  try go_wp2
  go_meet
  case rel => exact ⟨_, (true), sm_, H', ⟨by first | omega | exact Nat.le_refl _⟩, ⟨by exact bz_ BK173.out⟩, ⟨bw1_ HB.out GE173.out⟩⟩
 case rest =>
  clear HC5
  try clear c1
  try clear c10
  obtain ⟨kq, x40_4, rfl, HA, HJ4, BK173, HB⟩ := hcut
  cases kq with
  | zero => exact absurd HA.out (by simp [spec_l1Three.j0])
  | succ kj4 =>
   have H := HA.out
   clear HA
   simp only [spec_l1Three.j0] at H
   by_cases c30 : x40_4 = true
   ·subst c30
    have H1 : (some false) = some r := by rw [if_pos rfl] at H; exact H
    clear H
    have H := H1
    clear H1
    obtain rfl := Option.some.inj H
    go_wp2
    go_ret
    exact ⟨an_, bw1_ HB.out GE173.out⟩
   replace c30 := Bool.eq_false_iff.mpr c30
   subst c30
   have H1 : ((spec_l1Add.f a0_0 l0_1 l0_2 l0_3 a2 a3).bind fun t182 => ((spec_l1Mul.f a0_0 l0_1 l0_2 l0_3 a1 t182).bind fun t183 => ((spec_l1Mul.f a0_0 l0_1 l0_2 l0_3 a1 a2).bind fun t184 => ((spec_l1Mul.f a0_0 l0_1 l0_2 l0_3 a1 a3).bind fun t185 => ((spec_l1Add.f a0_0 l0_1 l0_2 l0_3 t184 t185).bind fun t186 => (if t183 = t186 then ((spec_l1Add.f a0_0 l0_1 l0_2 l0_3 a1 a2).bind fun t187 => ((spec_l1Mul.f a0_0 l0_1 l0_2 l0_3 t187 a3).bind fun t188 => ((spec_l1Mul.f a0_0 l0_1 l0_2 l0_3 a1 a3).bind fun t189 => ((spec_l1Mul.f a0_0 l0_1 l0_2 l0_3 a2 a3).bind fun t190 => ((spec_l1Add.f a0_0 l0_1 l0_2 l0_3 t189 t190).bind fun t191 => (spec_l1Three.j1 kj4 a1 a2 a3 (t188 != t191) a0_0 l0_1 l0_2 l0_3)))))) else (spec_l1Three.j1 kj4 a1 a2 a3 true a0_0 l0_1 l0_2 l0_3))))))) = some r := by rw [if_neg (show ¬ (false = true) by decide)] at H; exact H
   clear H
   have H := H1
   clear H1
   have HC31 := sd_ H
   clear H
   go_upto_region 3 with (fail)
   go_cut [78] (fun v78 wc => ∃ (kq : Nat) (x78_30 : Bool), v78 = .bool x78_30 ∧ Aside0 (spec_l1Three.j1 kq a1 a2 a3 x78_30 a0_0 l0_1 l0_2 l0_3 = some r) ∧ Aside0 (kq ≤ kj4) ∧ Aside0 (wc.heap[gb173]? = some (.cells #[.int .i64 a0_0, (.slice A0_1 l0_1.length c0_1), (.slice A0_2 l0_2.length c0_2), (.slice A0_3 l0_3.length c0_3)] 27 (0, 0))) ∧ Aside0 (Below w.heap.size w wc))
   case first =>
    have H := HC31.out
    clear HC31
    replace H := Option.bind_eq_some_iff.mp H
    obtain ⟨t182, A320, H⟩ := H
    try dsimp only at H
    have A32 := sd_ A320
    clear A320
    replace H := Option.bind_eq_some_iff.mp H
    obtain ⟨t183, A330, H⟩ := H
    try dsimp only at H
    have A33 := sd_ A330
    clear A330
    replace H := Option.bind_eq_some_iff.mp H
    obtain ⟨t184, A340, H⟩ := H
    try dsimp only at H
    have A34 := sd_ A340
    clear A340
    replace H := Option.bind_eq_some_iff.mp H
    obtain ⟨t185, A350, H⟩ := H
    try dsimp only at H
    have A35 := sd_ A350
    clear A350
    replace H := Option.bind_eq_some_iff.mp H
    obtain ⟨t186, A360, H⟩ := H
    try dsimp only at H
    have A36 := sd_ A360
    clear A360
    by_cases c37 : t183 = t186
    ·rw [if_pos c37] at H
     have c37b0 : (t183 == t186) = true := beq_iff_eq.mpr c37
     have c37b1 : (t183 != t186) = false := bne_eq_false_iff_eq.mpr c37
     clear c37
     (first | rw [c37b0] | (simp only [i64_w, i32_w]; rw [c37b0]) | skip)
     replace H := Option.bind_eq_some_iff.mp H
     obtain ⟨t187, A380, H⟩ := H
     try dsimp only at H
     have A38 := sd_ A380
     clear A380
     replace H := Option.bind_eq_some_iff.mp H
     obtain ⟨t188, A390, H⟩ := H
     try dsimp only at H
     have A39 := sd_ A390
     clear A390
     replace H := Option.bind_eq_some_iff.mp H
     obtain ⟨t189, A400, H⟩ := H
     try dsimp only at H
     have A40 := sd_ A400
     clear A400
     replace H := Option.bind_eq_some_iff.mp H
     obtain ⟨t190, A410, H⟩ := H
     try dsimp only at H
     have A41 := sd_ A410
     clear A410
     replace H := Option.bind_eq_some_iff.mp H
     obtain ⟨t191, A420, H⟩ := H
     try dsimp only at H
     have A42 := sd_ A420
     clear A420
     have H' := sd_ H
     clear H
     try go_wp2
     refine qb_region (by kernel_rfl) (by kernel_rfl) ?_
     have HQ := fun (wq : World) (hq : Below wc.heap.size wc wq) => below_step HB.out hq
     repeat ((first | (apply qb_skip; (focus rfl)) | (refine qb_callN 46 rfl ?_; apply qb_call 46 rfl Try.func88 (by kernel_rfl) rfl rfl; (focus rfl); (focus (exact fun wq9 hb9 => qb_b hb9 (spec_l1Add.calls a0_0 _ _ l0_1 _ _ l0_2 _ _ l0_3 a2 a3 t182 _ (Kd.C_below HR0_1.out (HQ _ hb9)) HC0_1.out (Kd.C_below HR0_2.out (HQ _ hb9)) HC0_2.out (Kd.C_below HR0_3.out (HQ _ hb9)) HC0_3.out A32.out))); (focus (rfl))) | (refine qb_callN 47 rfl ?_; apply qb_call 47 rfl Try.func89 (by kernel_rfl) rfl rfl; (focus rfl); (focus (exact fun wq9 hb9 => qb_b hb9 (spec_l1Mul.calls a0_0 _ _ l0_1 _ _ l0_2 _ _ l0_3 a1 t182 t183 _ (Kd.C_below HR0_1.out (HQ _ hb9)) HC0_1.out (Kd.C_below HR0_2.out (HQ _ hb9)) HC0_2.out (Kd.C_below HR0_3.out (HQ _ hb9)) HC0_3.out A33.out))); (focus (rfl))) | (refine qb_callN 52 rfl ?_; apply qb_call 52 rfl Try.func89 (by kernel_rfl) rfl rfl; (focus rfl); (focus (exact fun wq9 hb9 => qb_b hb9 (spec_l1Mul.calls a0_0 _ _ l0_1 _ _ l0_2 _ _ l0_3 a1 a2 t184 _ (Kd.C_below HR0_1.out (HQ _ hb9)) HC0_1.out (Kd.C_below HR0_2.out (HQ _ hb9)) HC0_2.out (Kd.C_below HR0_3.out (HQ _ hb9)) HC0_3.out A34.out))); (focus (rfl))) | (refine qb_callN 56 rfl ?_; apply qb_call 56 rfl Try.func89 (by kernel_rfl) rfl rfl; (focus rfl); (focus (exact fun wq9 hb9 => qb_b hb9 (spec_l1Mul.calls a0_0 _ _ l0_1 _ _ l0_2 _ _ l0_3 a1 a3 t185 _ (Kd.C_below HR0_1.out (HQ _ hb9)) HC0_1.out (Kd.C_below HR0_2.out (HQ _ hb9)) HC0_2.out (Kd.C_below HR0_3.out (HQ _ hb9)) HC0_3.out A35.out))); (focus (rfl))) | (refine qb_callN 57 rfl ?_; apply qb_call 57 rfl Try.func88 (by kernel_rfl) rfl rfl; (focus rfl); (focus (exact fun wq9 hb9 => qb_b hb9 (spec_l1Add.calls a0_0 _ _ l0_1 _ _ l0_2 _ _ l0_3 t184 t185 t186 _ (Kd.C_below HR0_1.out (HQ _ hb9)) HC0_1.out (Kd.C_below HR0_2.out (HQ _ hb9)) HC0_2.out (Kd.C_below HR0_3.out (HQ _ hb9)) HC0_3.out A36.out))); (focus (rfl))) | (refine qb_callN 64 rfl ?_; apply qb_call 64 rfl Try.func88 (by kernel_rfl) rfl rfl; (focus rfl); (focus (exact fun wq9 hb9 => qb_b hb9 (spec_l1Add.calls a0_0 _ _ l0_1 _ _ l0_2 _ _ l0_3 a1 a2 t187 _ (Kd.C_below HR0_1.out (HQ _ hb9)) HC0_1.out (Kd.C_below HR0_2.out (HQ _ hb9)) HC0_2.out (Kd.C_below HR0_3.out (HQ _ hb9)) HC0_3.out A38.out))); (focus (rfl))) | (refine qb_callN 66 rfl ?_; apply qb_call 66 rfl Try.func89 (by kernel_rfl) rfl rfl; (focus rfl); (focus (exact fun wq9 hb9 => qb_b hb9 (spec_l1Mul.calls a0_0 _ _ l0_1 _ _ l0_2 _ _ l0_3 t187 a3 t188 _ (Kd.C_below HR0_1.out (HQ _ hb9)) HC0_1.out (Kd.C_below HR0_2.out (HQ _ hb9)) HC0_2.out (Kd.C_below HR0_3.out (HQ _ hb9)) HC0_3.out A39.out))); (focus (rfl))) | (refine qb_callN 71 rfl ?_; apply qb_call 71 rfl Try.func89 (by kernel_rfl) rfl rfl; (focus rfl); (focus (exact fun wq9 hb9 => qb_b hb9 (spec_l1Mul.calls a0_0 _ _ l0_1 _ _ l0_2 _ _ l0_3 a1 a3 t189 _ (Kd.C_below HR0_1.out (HQ _ hb9)) HC0_1.out (Kd.C_below HR0_2.out (HQ _ hb9)) HC0_2.out (Kd.C_below HR0_3.out (HQ _ hb9)) HC0_3.out A40.out))); (focus (rfl))) | (refine qb_callN 75 rfl ?_; apply qb_call 75 rfl Try.func89 (by kernel_rfl) rfl rfl; (focus rfl); (focus (exact fun wq9 hb9 => qb_b hb9 (spec_l1Mul.calls a0_0 _ _ l0_1 _ _ l0_2 _ _ l0_3 a2 a3 t190 _ (Kd.C_below HR0_1.out (HQ _ hb9)) HC0_1.out (Kd.C_below HR0_2.out (HQ _ hb9)) HC0_2.out (Kd.C_below HR0_3.out (HQ _ hb9)) HC0_3.out A41.out))); (focus (rfl))) | (refine qb_callN 76 rfl ?_; apply qb_call 76 rfl Try.func88 (by kernel_rfl) rfl rfl; (focus rfl); (focus (exact fun wq9 hb9 => qb_b hb9 (spec_l1Add.calls a0_0 _ _ l0_1 _ _ l0_2 _ _ l0_3 t189 t190 t191 _ (Kd.C_below HR0_1.out (HQ _ hb9)) HC0_1.out (Kd.C_below HR0_2.out (HQ _ hb9)) HC0_2.out (Kd.C_below HR0_3.out (HQ _ hb9)) HC0_3.out A42.out))); (focus (rfl))) | (apply qb_val; (focus rfl); (focus (intro wq9 _; go_simp; with_reducible rfl))) | (apply qb_val; (focus rfl); (focus (intro wq9 hb9_; have hb9 : Below wc.heap.size wc wq9 := hb9_; have BK173 := sd_ (blk_below BK173.out hb9); have hc9_173_0 : wq9.cell? ⟨gb173, 0, none⟩ = some (.int .i64 a0_0) := (blk_cell BK173.out 0).trans rfl; have hc9_173_1 : wq9.cell? ⟨gb173, 1, none⟩ = some (.slice A0_1 l0_1.length c0_1) := (blk_cell BK173.out 1).trans rfl; have hc9_173_2 : wq9.cell? ⟨gb173, 2, none⟩ = some (.slice A0_2 l0_2.length c0_2) := (blk_cell BK173.out 2).trans rfl; have hc9_173_3 : wq9.cell? ⟨gb173, 3, none⟩ = some (.slice A0_3 l0_3.length c0_3) := (blk_cell BK173.out 3).trans rfl; go_simp; with_reducible rfl)))); (focus (simp only [Act.put, List.setIfInBounds_toArray, List.set_cons_zero, List.set_cons_succ, i64_w, i32_w]; rfl)))
     refine qb_nil ?_
     intro w53 hb
     replace BK173 := sd_ (blk_below BK173.out hb)
     replace HB := sd_ (below_step HB.out hb)
     clear hb
     (try clear HQ)
     try go_wp2
     go_meet
     case rel => exact ⟨_, ((t188 != t191)), sm_, H', ⟨by have := HJ4.out; first | omega | exact Nat.le_refl _⟩, ⟨by exact bz_ BK173.out⟩, ⟨bw1_ HB.out GE173.out⟩⟩
    rw [if_neg c37] at H
    have c37b0 : (t183 == t186) = false := beq_eq_false_iff_ne.mpr c37
    have c37b1 : (t183 != t186) = true := bne_iff_ne.mpr c37
    (first | rw [c37b0] | (simp only [i64_w, i32_w]; rw [c37b0]) | skip)
    have H' := sd_ H
    clear H
    try go_wp2
    refine qb_region (by kernel_rfl) (by kernel_rfl) ?_
    have HQ := fun (wq : World) (hq : Below wc.heap.size wc wq) => below_step HB.out hq
    repeat ((first | (apply qb_skip; (focus rfl)) | (refine qb_callN 46 rfl ?_; apply qb_call 46 rfl Try.func88 (by kernel_rfl) rfl rfl; (focus rfl); (focus (exact fun wq9 hb9 => qb_b hb9 (spec_l1Add.calls a0_0 _ _ l0_1 _ _ l0_2 _ _ l0_3 a2 a3 t182 _ (Kd.C_below HR0_1.out (HQ _ hb9)) HC0_1.out (Kd.C_below HR0_2.out (HQ _ hb9)) HC0_2.out (Kd.C_below HR0_3.out (HQ _ hb9)) HC0_3.out A32.out))); (focus (rfl))) | (refine qb_callN 47 rfl ?_; apply qb_call 47 rfl Try.func89 (by kernel_rfl) rfl rfl; (focus rfl); (focus (exact fun wq9 hb9 => qb_b hb9 (spec_l1Mul.calls a0_0 _ _ l0_1 _ _ l0_2 _ _ l0_3 a1 t182 t183 _ (Kd.C_below HR0_1.out (HQ _ hb9)) HC0_1.out (Kd.C_below HR0_2.out (HQ _ hb9)) HC0_2.out (Kd.C_below HR0_3.out (HQ _ hb9)) HC0_3.out A33.out))); (focus (rfl))) | (refine qb_callN 52 rfl ?_; apply qb_call 52 rfl Try.func89 (by kernel_rfl) rfl rfl; (focus rfl); (focus (exact fun wq9 hb9 => qb_b hb9 (spec_l1Mul.calls a0_0 _ _ l0_1 _ _ l0_2 _ _ l0_3 a1 a2 t184 _ (Kd.C_below HR0_1.out (HQ _ hb9)) HC0_1.out (Kd.C_below HR0_2.out (HQ _ hb9)) HC0_2.out (Kd.C_below HR0_3.out (HQ _ hb9)) HC0_3.out A34.out))); (focus (rfl))) | (refine qb_callN 56 rfl ?_; apply qb_call 56 rfl Try.func89 (by kernel_rfl) rfl rfl; (focus rfl); (focus (exact fun wq9 hb9 => qb_b hb9 (spec_l1Mul.calls a0_0 _ _ l0_1 _ _ l0_2 _ _ l0_3 a1 a3 t185 _ (Kd.C_below HR0_1.out (HQ _ hb9)) HC0_1.out (Kd.C_below HR0_2.out (HQ _ hb9)) HC0_2.out (Kd.C_below HR0_3.out (HQ _ hb9)) HC0_3.out A35.out))); (focus (rfl))) | (refine qb_callN 57 rfl ?_; apply qb_call 57 rfl Try.func88 (by kernel_rfl) rfl rfl; (focus rfl); (focus (exact fun wq9 hb9 => qb_b hb9 (spec_l1Add.calls a0_0 _ _ l0_1 _ _ l0_2 _ _ l0_3 t184 t185 t186 _ (Kd.C_below HR0_1.out (HQ _ hb9)) HC0_1.out (Kd.C_below HR0_2.out (HQ _ hb9)) HC0_2.out (Kd.C_below HR0_3.out (HQ _ hb9)) HC0_3.out A36.out))); (focus (rfl))) | (apply qb_val; (focus rfl); (focus (intro wq9 _; go_simp; with_reducible rfl))) | (apply qb_val; (focus rfl); (focus (intro wq9 hb9_; have hb9 : Below wc.heap.size wc wq9 := hb9_; have BK173 := sd_ (blk_below BK173.out hb9); have hc9_173_0 : wq9.cell? ⟨gb173, 0, none⟩ = some (.int .i64 a0_0) := (blk_cell BK173.out 0).trans rfl; have hc9_173_1 : wq9.cell? ⟨gb173, 1, none⟩ = some (.slice A0_1 l0_1.length c0_1) := (blk_cell BK173.out 1).trans rfl; have hc9_173_2 : wq9.cell? ⟨gb173, 2, none⟩ = some (.slice A0_2 l0_2.length c0_2) := (blk_cell BK173.out 2).trans rfl; have hc9_173_3 : wq9.cell? ⟨gb173, 3, none⟩ = some (.slice A0_3 l0_3.length c0_3) := (blk_cell BK173.out 3).trans rfl; go_simp; with_reducible rfl)))); (focus (simp only [Act.put, List.setIfInBounds_toArray, List.set_cons_zero, List.set_cons_succ, i64_w, i32_w]; rfl)))
    refine qb_nil ?_
    intro w59 hb
    replace BK173 := sd_ (blk_below BK173.out hb)
    replace HB := sd_ (below_step HB.out hb)
    clear hb
    (try clear HQ)
    try go_wp2
    go_meet
    case rel => exact ⟨_, (true), sm_, H', ⟨by have := HJ4.out; first | omega | exact Nat.le_refl _⟩, ⟨by exact bz_ BK173.out⟩, ⟨bw1_ HB.out GE173.out⟩⟩
   case rest =>
    clear HC31
    try clear c1
    try clear c3
    try clear c10
    try clear c30
    obtain ⟨kq, x78_30, rfl, HA, HJ30, BK173, HB⟩ := hcut
    cases kq with
    | zero => exact absurd HA.out (by simp [spec_l1Three.j1])
    | succ kj30 =>
     have H := HA.out
     clear HA
     simp only [spec_l1Three.j1] at H
     by_cases c60 : x78_30 = true
     ·subst c60
      have H1 : (some false) = some r := by rw [if_pos rfl] at H; exact H
      clear H
      have H := H1
      clear H1
      obtain rfl := Option.some.inj H
      go_wp2
      go_ret
      exact ⟨an_, bw1_ HB.out GE173.out⟩
     replace c60 := Bool.eq_false_iff.mpr c60
     subst c60
     have H1 : ((spec_l1Le.f a0_0 l0_1 l0_2 l0_3 a1 a2).bind fun t192 => (if t192 = true then ((spec_l1Le.f a0_0 l0_1 l0_2 l0_3 a2 a3).bind fun t193 => (if t193 = true then ((spec_l1Le.f a0_0 l0_1 l0_2 l0_3 a1 a3).bind fun t194 => (spec_l1Three.j2 kj30 a1 a2 a3 (!t194) a0_0 l0_1 l0_2 l0_3)) else (spec_l1Three.j2 kj30 a1 a2 a3 false a0_0 l0_1 l0_2 l0_3))) else (some true))) = some r := by rw [if_neg (show ¬ (false = true) by decide)] at H; exact H
     clear H
     have H := H1
     clear H1
     replace H := Option.bind_eq_some_iff.mp H
     obtain ⟨t192, A610, H⟩ := H
     try dsimp only at H
     have A61 := sd_ A610
     clear A610
     by_cases c62 : t192 = true
     ·subst c62
      have H1 : ((spec_l1Le.f a0_0 l0_1 l0_2 l0_3 a2 a3).bind fun t193 => (if t193 = true then ((spec_l1Le.f a0_0 l0_1 l0_2 l0_3 a1 a3).bind fun t194 => (spec_l1Three.j2 kj30 a1 a2 a3 (!t194) a0_0 l0_1 l0_2 l0_3)) else (spec_l1Three.j2 kj30 a1 a2 a3 false a0_0 l0_1 l0_2 l0_3))) = some r := by rw [if_pos rfl] at H; exact H
      clear H
      have H := H1
      clear H1
      have HC63 := sd_ H
      clear H
      obtain ⟨hcz64_0, hcz64_1, hcz64_2, hcz64_3, hfz64_0, hfz64_1, hfz64_2, hfz64_3⟩ := bf4_ BK173.out
      go_upto_region 7 with (first | ((with_reducible refine gate_callee (f := 90) rfl ?_); refine goesL_ (some 82) rfl rfl Try.func90 (by kernel_rfl) rfl #[.agg #[.int .i64 a0_0, .slice A0_1 l0_1.length c0_1, .slice A0_2 l0_2.length c0_2, .slice A0_3 l0_3.length c0_3], .int .i64 a1, .int .i64 a2] rfl la_ ?_; (with_reducible refine (spec_l1Le.calls a0_0 _ _ l0_1 _ _ l0_2 _ _ l0_3 a1 a2 true _ (kc_ HR0_1.out HB.out) HC0_1.out (kc_ HR0_2.out HB.out) HC0_2.out (kc_ HR0_3.out HB.out) HC0_3.out A61.out).mono ?_); rintro e w65 ⟨rfl, hb⟩; refine ⟨_, rfl, ?_⟩; replace BK173 := sd_ (bb_ BK173.out hb); replace HB := sd_ (below_step (bw1_ HB.out GE173.out) hb); (try clear hb)))
      (try simp only [Act.put, List.setIfInBounds_toArray, List.set_cons_zero, List.set_cons_succ])
      go_cut [94] (fun v94 wc => ∃ (kq : Nat) (x94_62 : Bool), v94 = .bool x94_62 ∧ Aside0 (spec_l1Three.j2 kq a1 a2 a3 x94_62 a0_0 l0_1 l0_2 l0_3 = some r) ∧ Aside0 (kq ≤ kj30) ∧ Aside0 (wc.heap[gb173]? = some (.cells #[.int .i64 a0_0, (.slice A0_1 l0_1.length c0_1), (.slice A0_2 l0_2.length c0_2), (.slice A0_3 l0_3.length c0_3)] 27 (0, 0))) ∧ Aside0 (Below w.heap.size w wc))
      case first =>
       have H := HC63.out
       clear HC63
       replace H := Option.bind_eq_some_iff.mp H
       obtain ⟨t193, A660, H⟩ := H
       try dsimp only at H
       have A66 := sd_ A660
       clear A660
       by_cases c67 : t193 = true
       ·subst c67
        have H1 : ((spec_l1Le.f a0_0 l0_1 l0_2 l0_3 a1 a3).bind fun t194 => (spec_l1Three.j2 kj30 a1 a2 a3 (!t194) a0_0 l0_1 l0_2 l0_3)) = some r := by rw [if_pos rfl] at H; exact H
        clear H
        have H := H1
        clear H1
        replace H := Option.bind_eq_some_iff.mp H
        obtain ⟨t194, A680, H⟩ := H
        try dsimp only at H
        have A68 := sd_ A680
        clear A680
        have H' := sd_ H
        clear H
        obtain ⟨hcz69_0, hcz69_1, hcz69_2, hcz69_3, hfz69_0, hfz69_1, hfz69_2, hfz69_3⟩ := bf4_ BK173.out
        go_wp2_with (first | ((with_reducible refine gate_callee (f := 90) rfl ?_); refine goesL_ (some 87) rfl rfl Try.func90 (by kernel_rfl) rfl #[.agg #[.int .i64 a0_0, .slice A0_1 l0_1.length c0_1, .slice A0_2 l0_2.length c0_2, .slice A0_3 l0_3.length c0_3], .int .i64 a2, .int .i64 a3] rfl la_ ?_; (with_reducible refine (spec_l1Le.calls a0_0 _ _ l0_1 _ _ l0_2 _ _ l0_3 a2 a3 true _ (kc_ HR0_1.out HB.out) HC0_1.out (kc_ HR0_2.out HB.out) HC0_2.out (kc_ HR0_3.out HB.out) HC0_3.out A66.out).mono ?_); rintro e w70 ⟨rfl, hb⟩; refine ⟨_, rfl, ?_⟩; replace BK173 := sd_ (bb_ BK173.out hb); replace HB := sd_ (below_step (bw1_ HB.out GE173.out) hb); (try clear hb); obtain ⟨hcz71_0, hcz71_1, hcz71_2, hcz71_3, hfz71_0, hfz71_1, hfz71_2, hfz71_3⟩ := bf4_ BK173.out) | (go_at_call 90; (with_reducible refine (spec_l1Le.calls a0_0 _ _ l0_1 _ _ l0_2 _ _ l0_3 a1 a3 t194 _ (kc_ HR0_1.out HB.out) HC0_1.out (kc_ HR0_2.out HB.out) HC0_2.out (kc_ HR0_3.out HB.out) HC0_3.out A68.out).mono ?_); rintro e w72 ⟨rfl, hb⟩; replace BK173 := sd_ (bb_ BK173.out hb); replace HB := sd_ (below_step (bw1_ HB.out GE173.out) hb); (try clear hb)))
        go_meet
        case rel => exact ⟨_, (!t194), sm_, H', ⟨by have := HJ4.out; have := HJ30.out; first | omega | exact Nat.le_refl _⟩, ⟨by exact bz_ BK173.out⟩, ⟨bw1_ HB.out GE173.out⟩⟩
       replace c67 := Bool.eq_false_iff.mpr c67
       subst c67
       have H1 : (spec_l1Three.j2 kj30 a1 a2 a3 false a0_0 l0_1 l0_2 l0_3) = some r := by rw [if_neg (show ¬ (false = true) by decide)] at H; exact H
       clear H
       have H := H1
       clear H1
       have H' := sd_ H
       clear H
       obtain ⟨hcz73_0, hcz73_1, hcz73_2, hcz73_3, hfz73_0, hfz73_1, hfz73_2, hfz73_3⟩ := bf4_ BK173.out
       go_wp2_with (first | ((with_reducible refine gate_callee (f := 90) rfl ?_); refine goesL_ (some 87) rfl rfl Try.func90 (by kernel_rfl) rfl #[.agg #[.int .i64 a0_0, .slice A0_1 l0_1.length c0_1, .slice A0_2 l0_2.length c0_2, .slice A0_3 l0_3.length c0_3], .int .i64 a2, .int .i64 a3] rfl la_ ?_; (with_reducible refine (spec_l1Le.calls a0_0 _ _ l0_1 _ _ l0_2 _ _ l0_3 a2 a3 false _ (kc_ HR0_1.out HB.out) HC0_1.out (kc_ HR0_2.out HB.out) HC0_2.out (kc_ HR0_3.out HB.out) HC0_3.out A66.out).mono ?_); rintro e w74 ⟨rfl, hb⟩; refine ⟨_, rfl, ?_⟩; replace BK173 := sd_ (bb_ BK173.out hb); replace HB := sd_ (below_step (bw1_ HB.out GE173.out) hb); (try clear hb)))
       go_meet
       case rel => exact ⟨_, (false), sm_, H', ⟨by have := HJ4.out; have := HJ30.out; first | omega | exact Nat.le_refl _⟩, ⟨by exact bz_ BK173.out⟩, ⟨bw1_ HB.out GE173.out⟩⟩
      case rest =>
       clear HC63
       try clear c1
       try clear c3
       try clear c6
       try clear c9
       try clear c10
       try clear c30
       try clear c60
       try clear c62
       try clear hcz64_0
       try clear hcz64_1
       try clear hcz64_2
       try clear hcz64_3
       try clear hfz64_0
       try clear hfz64_1
       try clear hfz64_2
       try clear hfz64_3
       obtain ⟨kq, x94_62, rfl, HA, HJ62, BK173, HB⟩ := hcut
       cases kq with
       | zero => exact absurd HA.out (by simp [spec_l1Three.j2])
       | succ kj62 =>
        have H := HA.out
        clear HA
        simp only [spec_l1Three.j2] at H
        by_cases c75 : x94_62 = true
        ·subst c75
         have H1 : (some false) = some r := by rw [if_pos rfl] at H; exact H
         clear H
         have H := H1
         clear H1
         obtain rfl := Option.some.inj H
         go_wp2
         go_ret
         exact ⟨an_, bw1_ HB.out GE173.out⟩
        replace c75 := Bool.eq_false_iff.mpr c75
        subst c75
        have H1 : ((spec_l1Add.f a0_0 l0_1 l0_2 l0_3 a1 a3).bind fun t195 => ((spec_l1Add.f a0_0 l0_1 l0_2 l0_3 a2 a3).bind fun t196 => ((spec_l1Le.f a0_0 l0_1 l0_2 l0_3 t195 t196).bind fun t197 => (if t197 = true then ((spec_l1Mul.f a0_0 l0_1 l0_2 l0_3 a1 a3).bind fun t198 => ((spec_l1Mul.f a0_0 l0_1 l0_2 l0_3 a2 a3).bind fun t199 => ((spec_l1Le.f a0_0 l0_1 l0_2 l0_3 t198 t199).bind fun t200 => (if t200 = true then ((spec_l1Mul.f a0_0 l0_1 l0_2 l0_3 a3 a1).bind fun t201 => ((spec_l1Mul.f a0_0 l0_1 l0_2 l0_3 a3 a2).bind fun t202 => ((spec_l1Le.f a0_0 l0_1 l0_2 l0_3 t201 t202).bind fun t203 => (some t203)))) else (some false))))) else (some false))))) = some r := by rw [if_neg (show ¬ (false = true) by decide)] at H; exact H
        clear H
        have H := H1
        clear H1
        replace H := Option.bind_eq_some_iff.mp H
        obtain ⟨t195, A760, H⟩ := H
        try dsimp only at H
        have A76 := sd_ A760
        clear A760
        replace H := Option.bind_eq_some_iff.mp H
        obtain ⟨t196, A770, H⟩ := H
        try dsimp only at H
        have A77 := sd_ A770
        clear A770
        replace H := Option.bind_eq_some_iff.mp H
        obtain ⟨t197, A780, H⟩ := H
        try dsimp only at H
        have A78 := sd_ A780
        clear A780
        by_cases c79 : t197 = true
        ·subst c79
         have H1 : ((spec_l1Mul.f a0_0 l0_1 l0_2 l0_3 a1 a3).bind fun t198 => ((spec_l1Mul.f a0_0 l0_1 l0_2 l0_3 a2 a3).bind fun t199 => ((spec_l1Le.f a0_0 l0_1 l0_2 l0_3 t198 t199).bind fun t200 => (if t200 = true then ((spec_l1Mul.f a0_0 l0_1 l0_2 l0_3 a3 a1).bind fun t201 => ((spec_l1Mul.f a0_0 l0_1 l0_2 l0_3 a3 a2).bind fun t202 => ((spec_l1Le.f a0_0 l0_1 l0_2 l0_3 t201 t202).bind fun t203 => (some t203)))) else (some false))))) = some r := by rw [if_pos rfl] at H; exact H
         clear H
         have H := H1
         clear H1
         replace H := Option.bind_eq_some_iff.mp H
         obtain ⟨t198, A800, H⟩ := H
         try dsimp only at H
         have A80 := sd_ A800
         clear A800
         replace H := Option.bind_eq_some_iff.mp H
         obtain ⟨t199, A810, H⟩ := H
         try dsimp only at H
         have A81 := sd_ A810
         clear A810
         replace H := Option.bind_eq_some_iff.mp H
         obtain ⟨t200, A820, H⟩ := H
         try dsimp only at H
         have A82 := sd_ A820
         clear A820
         by_cases c83 : t200 = true
         ·subst c83
          have H1 : ((spec_l1Mul.f a0_0 l0_1 l0_2 l0_3 a3 a1).bind fun t201 => ((spec_l1Mul.f a0_0 l0_1 l0_2 l0_3 a3 a2).bind fun t202 => ((spec_l1Le.f a0_0 l0_1 l0_2 l0_3 t201 t202).bind fun t203 => (some t203)))) = some r := by rw [if_pos rfl] at H; exact H
          clear H
          have H := H1
          clear H1
          replace H := Option.bind_eq_some_iff.mp H
          obtain ⟨t201, A840, H⟩ := H
          try dsimp only at H
          have A84 := sd_ A840
          clear A840
          replace H := Option.bind_eq_some_iff.mp H
          obtain ⟨t202, A850, H⟩ := H
          try dsimp only at H
          have A85 := sd_ A850
          clear A850
          replace H := Option.bind_eq_some_iff.mp H
          obtain ⟨t203, A860, H⟩ := H
          try dsimp only at H
          have A86 := sd_ A860
          clear A860
          obtain rfl := Option.some.inj H
          try go_wp2
          refine qb_region (by kernel_rfl) (by kernel_rfl) ?_
          have HQ := fun (wq : World) (hq : Below wc.heap.size wc wq) => below_step HB.out hq
          repeat ((first | (apply qb_skip; (focus rfl)) | (refine qb_callN 99 rfl ?_; apply qb_call 99 rfl Try.func88 (by kernel_rfl) rfl rfl; (focus rfl); (focus (exact fun wq9 hb9 => qb_b hb9 (spec_l1Add.calls a0_0 _ _ l0_1 _ _ l0_2 _ _ l0_3 a1 a3 t195 _ (Kd.C_below HR0_1.out (HQ _ hb9)) HC0_1.out (Kd.C_below HR0_2.out (HQ _ hb9)) HC0_2.out (Kd.C_below HR0_3.out (HQ _ hb9)) HC0_3.out A76.out))); (focus (rfl))) | (refine qb_callN 103 rfl ?_; apply qb_call 103 rfl Try.func88 (by kernel_rfl) rfl rfl; (focus rfl); (focus (exact fun wq9 hb9 => qb_b hb9 (spec_l1Add.calls a0_0 _ _ l0_1 _ _ l0_2 _ _ l0_3 a2 a3 t196 _ (Kd.C_below HR0_1.out (HQ _ hb9)) HC0_1.out (Kd.C_below HR0_2.out (HQ _ hb9)) HC0_2.out (Kd.C_below HR0_3.out (HQ _ hb9)) HC0_3.out A77.out))); (focus (rfl))) | (refine qb_callN 104 rfl ?_; apply qb_call 104 rfl Try.func90 (by kernel_rfl) rfl rfl; (focus rfl); (focus (exact fun wq9 hb9 => qb_b hb9 (spec_l1Le.calls a0_0 _ _ l0_1 _ _ l0_2 _ _ l0_3 t195 t196 true _ (Kd.C_below HR0_1.out (HQ _ hb9)) HC0_1.out (Kd.C_below HR0_2.out (HQ _ hb9)) HC0_2.out (Kd.C_below HR0_3.out (HQ _ hb9)) HC0_3.out A78.out))); (focus (rfl))) | (refine qb_callN 110 rfl ?_; apply qb_call 110 rfl Try.func89 (by kernel_rfl) rfl rfl; (focus rfl); (focus (exact fun wq9 hb9 => qb_b hb9 (spec_l1Mul.calls a0_0 _ _ l0_1 _ _ l0_2 _ _ l0_3 a1 a3 t198 _ (Kd.C_below HR0_1.out (HQ _ hb9)) HC0_1.out (Kd.C_below HR0_2.out (HQ _ hb9)) HC0_2.out (Kd.C_below HR0_3.out (HQ _ hb9)) HC0_3.out A80.out))); (focus (rfl))) | (refine qb_callN 114 rfl ?_; apply qb_call 114 rfl Try.func89 (by kernel_rfl) rfl rfl; (focus rfl); (focus (exact fun wq9 hb9 => qb_b hb9 (spec_l1Mul.calls a0_0 _ _ l0_1 _ _ l0_2 _ _ l0_3 a2 a3 t199 _ (Kd.C_below HR0_1.out (HQ _ hb9)) HC0_1.out (Kd.C_below HR0_2.out (HQ _ hb9)) HC0_2.out (Kd.C_below HR0_3.out (HQ _ hb9)) HC0_3.out A81.out))); (focus (rfl))) | (refine qb_callN 115 rfl ?_; apply qb_call 115 rfl Try.func90 (by kernel_rfl) rfl rfl; (focus rfl); (focus (exact fun wq9 hb9 => qb_b hb9 (spec_l1Le.calls a0_0 _ _ l0_1 _ _ l0_2 _ _ l0_3 t198 t199 true _ (Kd.C_below HR0_1.out (HQ _ hb9)) HC0_1.out (Kd.C_below HR0_2.out (HQ _ hb9)) HC0_2.out (Kd.C_below HR0_3.out (HQ _ hb9)) HC0_3.out A82.out))); (focus (rfl))) | (refine qb_callN 122 rfl ?_; apply qb_call 122 rfl Try.func89 (by kernel_rfl) rfl rfl; (focus rfl); (focus (exact fun wq9 hb9 => qb_b hb9 (spec_l1Mul.calls a0_0 _ _ l0_1 _ _ l0_2 _ _ l0_3 a3 a1 t201 _ (Kd.C_below HR0_1.out (HQ _ hb9)) HC0_1.out (Kd.C_below HR0_2.out (HQ _ hb9)) HC0_2.out (Kd.C_below HR0_3.out (HQ _ hb9)) HC0_3.out A84.out))); (focus (rfl))) | (refine qb_callN 126 rfl ?_; apply qb_call 126 rfl Try.func89 (by kernel_rfl) rfl rfl; (focus rfl); (focus (exact fun wq9 hb9 => qb_b hb9 (spec_l1Mul.calls a0_0 _ _ l0_1 _ _ l0_2 _ _ l0_3 a3 a2 t202 _ (Kd.C_below HR0_1.out (HQ _ hb9)) HC0_1.out (Kd.C_below HR0_2.out (HQ _ hb9)) HC0_2.out (Kd.C_below HR0_3.out (HQ _ hb9)) HC0_3.out A85.out))); (focus (rfl))) | (refine qb_callN 127 rfl ?_; apply qb_call 127 rfl Try.func90 (by kernel_rfl) rfl rfl; (focus rfl); (focus (exact fun wq9 hb9 => qb_b hb9 (spec_l1Le.calls a0_0 _ _ l0_1 _ _ l0_2 _ _ l0_3 t201 t202 t203 _ (Kd.C_below HR0_1.out (HQ _ hb9)) HC0_1.out (Kd.C_below HR0_2.out (HQ _ hb9)) HC0_2.out (Kd.C_below HR0_3.out (HQ _ hb9)) HC0_3.out A86.out))); (focus (rfl))) | (apply qb_val; (focus rfl); (focus (intro wq9 _; go_simp; with_reducible rfl))) | (apply qb_val; (focus rfl); (focus (intro wq9 hb9_; have hb9 : Below wc.heap.size wc wq9 := hb9_; have BK173 := sd_ (blk_below BK173.out hb9); have hc9_173_0 : wq9.cell? ⟨gb173, 0, none⟩ = some (.int .i64 a0_0) := (blk_cell BK173.out 0).trans rfl; have hc9_173_1 : wq9.cell? ⟨gb173, 1, none⟩ = some (.slice A0_1 l0_1.length c0_1) := (blk_cell BK173.out 1).trans rfl; have hc9_173_2 : wq9.cell? ⟨gb173, 2, none⟩ = some (.slice A0_2 l0_2.length c0_2) := (blk_cell BK173.out 2).trans rfl; have hc9_173_3 : wq9.cell? ⟨gb173, 3, none⟩ = some (.slice A0_3 l0_3.length c0_3) := (blk_cell BK173.out 3).trans rfl; go_simp; with_reducible rfl)))); (focus (simp only [Act.put, List.setIfInBounds_toArray, List.set_cons_zero, List.set_cons_succ, i64_w, i32_w]; rfl)))
          refine qb_nil ?_
          intro w96 hb
          replace BK173 := sd_ (blk_below BK173.out hb)
          replace HB := sd_ (below_step HB.out hb)
          clear hb
          (try clear HQ)
          try go_wp2
          go_ret
          exact ⟨an_, bw1_ HB.out GE173.out⟩
         replace c83 := Bool.eq_false_iff.mpr c83
         subst c83
         have H1 : (some false) = some r := by rw [if_neg (show ¬ (false = true) by decide)] at H; exact H
         clear H
         have H := H1
         clear H1
         obtain rfl := Option.some.inj H
         try go_wp2
         refine qb_region (by kernel_rfl) (by kernel_rfl) ?_
         have HQ := fun (wq : World) (hq : Below wc.heap.size wc wq) => below_step HB.out hq
         repeat ((first | (apply qb_skip; (focus rfl)) | (refine qb_callN 99 rfl ?_; apply qb_call 99 rfl Try.func88 (by kernel_rfl) rfl rfl; (focus rfl); (focus (exact fun wq9 hb9 => qb_b hb9 (spec_l1Add.calls a0_0 _ _ l0_1 _ _ l0_2 _ _ l0_3 a1 a3 t195 _ (Kd.C_below HR0_1.out (HQ _ hb9)) HC0_1.out (Kd.C_below HR0_2.out (HQ _ hb9)) HC0_2.out (Kd.C_below HR0_3.out (HQ _ hb9)) HC0_3.out A76.out))); (focus (rfl))) | (refine qb_callN 103 rfl ?_; apply qb_call 103 rfl Try.func88 (by kernel_rfl) rfl rfl; (focus rfl); (focus (exact fun wq9 hb9 => qb_b hb9 (spec_l1Add.calls a0_0 _ _ l0_1 _ _ l0_2 _ _ l0_3 a2 a3 t196 _ (Kd.C_below HR0_1.out (HQ _ hb9)) HC0_1.out (Kd.C_below HR0_2.out (HQ _ hb9)) HC0_2.out (Kd.C_below HR0_3.out (HQ _ hb9)) HC0_3.out A77.out))); (focus (rfl))) | (refine qb_callN 104 rfl ?_; apply qb_call 104 rfl Try.func90 (by kernel_rfl) rfl rfl; (focus rfl); (focus (exact fun wq9 hb9 => qb_b hb9 (spec_l1Le.calls a0_0 _ _ l0_1 _ _ l0_2 _ _ l0_3 t195 t196 true _ (Kd.C_below HR0_1.out (HQ _ hb9)) HC0_1.out (Kd.C_below HR0_2.out (HQ _ hb9)) HC0_2.out (Kd.C_below HR0_3.out (HQ _ hb9)) HC0_3.out A78.out))); (focus (rfl))) | (refine qb_callN 110 rfl ?_; apply qb_call 110 rfl Try.func89 (by kernel_rfl) rfl rfl; (focus rfl); (focus (exact fun wq9 hb9 => qb_b hb9 (spec_l1Mul.calls a0_0 _ _ l0_1 _ _ l0_2 _ _ l0_3 a1 a3 t198 _ (Kd.C_below HR0_1.out (HQ _ hb9)) HC0_1.out (Kd.C_below HR0_2.out (HQ _ hb9)) HC0_2.out (Kd.C_below HR0_3.out (HQ _ hb9)) HC0_3.out A80.out))); (focus (rfl))) | (refine qb_callN 114 rfl ?_; apply qb_call 114 rfl Try.func89 (by kernel_rfl) rfl rfl; (focus rfl); (focus (exact fun wq9 hb9 => qb_b hb9 (spec_l1Mul.calls a0_0 _ _ l0_1 _ _ l0_2 _ _ l0_3 a2 a3 t199 _ (Kd.C_below HR0_1.out (HQ _ hb9)) HC0_1.out (Kd.C_below HR0_2.out (HQ _ hb9)) HC0_2.out (Kd.C_below HR0_3.out (HQ _ hb9)) HC0_3.out A81.out))); (focus (rfl))) | (refine qb_callN 115 rfl ?_; apply qb_call 115 rfl Try.func90 (by kernel_rfl) rfl rfl; (focus rfl); (focus (exact fun wq9 hb9 => qb_b hb9 (spec_l1Le.calls a0_0 _ _ l0_1 _ _ l0_2 _ _ l0_3 t198 t199 false _ (Kd.C_below HR0_1.out (HQ _ hb9)) HC0_1.out (Kd.C_below HR0_2.out (HQ _ hb9)) HC0_2.out (Kd.C_below HR0_3.out (HQ _ hb9)) HC0_3.out A82.out))); (focus (rfl))) | (apply qb_val; (focus rfl); (focus (intro wq9 _; go_simp; with_reducible rfl))) | (apply qb_val; (focus rfl); (focus (intro wq9 hb9_; have hb9 : Below wc.heap.size wc wq9 := hb9_; have BK173 := sd_ (blk_below BK173.out hb9); have hc9_173_0 : wq9.cell? ⟨gb173, 0, none⟩ = some (.int .i64 a0_0) := (blk_cell BK173.out 0).trans rfl; have hc9_173_1 : wq9.cell? ⟨gb173, 1, none⟩ = some (.slice A0_1 l0_1.length c0_1) := (blk_cell BK173.out 1).trans rfl; have hc9_173_2 : wq9.cell? ⟨gb173, 2, none⟩ = some (.slice A0_2 l0_2.length c0_2) := (blk_cell BK173.out 2).trans rfl; have hc9_173_3 : wq9.cell? ⟨gb173, 3, none⟩ = some (.slice A0_3 l0_3.length c0_3) := (blk_cell BK173.out 3).trans rfl; go_simp; with_reducible rfl)))); (focus (simp only [Act.put, List.setIfInBounds_toArray, List.set_cons_zero, List.set_cons_succ, i64_w, i32_w]; rfl)))
         refine qb_nil ?_
         intro w103 hb
         replace BK173 := sd_ (blk_below BK173.out hb)
         replace HB := sd_ (below_step HB.out hb)
         clear hb
         (try clear HQ)
         try go_wp2
         go_ret
         exact ⟨an_, bw1_ HB.out GE173.out⟩
        replace c79 := Bool.eq_false_iff.mpr c79
        subst c79
        have H1 : (some false) = some r := by rw [if_neg (show ¬ (false = true) by decide)] at H; exact H
        clear H
        have H := H1
        clear H1
        obtain rfl := Option.some.inj H
        try go_wp2
        refine qb_region (by kernel_rfl) (by kernel_rfl) ?_
        have HQ := fun (wq : World) (hq : Below wc.heap.size wc wq) => below_step HB.out hq
        repeat ((first | (apply qb_skip; (focus rfl)) | (refine qb_callN 99 rfl ?_; apply qb_call 99 rfl Try.func88 (by kernel_rfl) rfl rfl; (focus rfl); (focus (exact fun wq9 hb9 => qb_b hb9 (spec_l1Add.calls a0_0 _ _ l0_1 _ _ l0_2 _ _ l0_3 a1 a3 t195 _ (Kd.C_below HR0_1.out (HQ _ hb9)) HC0_1.out (Kd.C_below HR0_2.out (HQ _ hb9)) HC0_2.out (Kd.C_below HR0_3.out (HQ _ hb9)) HC0_3.out A76.out))); (focus (rfl))) | (refine qb_callN 103 rfl ?_; apply qb_call 103 rfl Try.func88 (by kernel_rfl) rfl rfl; (focus rfl); (focus (exact fun wq9 hb9 => qb_b hb9 (spec_l1Add.calls a0_0 _ _ l0_1 _ _ l0_2 _ _ l0_3 a2 a3 t196 _ (Kd.C_below HR0_1.out (HQ _ hb9)) HC0_1.out (Kd.C_below HR0_2.out (HQ _ hb9)) HC0_2.out (Kd.C_below HR0_3.out (HQ _ hb9)) HC0_3.out A77.out))); (focus (rfl))) | (refine qb_callN 104 rfl ?_; apply qb_call 104 rfl Try.func90 (by kernel_rfl) rfl rfl; (focus rfl); (focus (exact fun wq9 hb9 => qb_b hb9 (spec_l1Le.calls a0_0 _ _ l0_1 _ _ l0_2 _ _ l0_3 t195 t196 false _ (Kd.C_below HR0_1.out (HQ _ hb9)) HC0_1.out (Kd.C_below HR0_2.out (HQ _ hb9)) HC0_2.out (Kd.C_below HR0_3.out (HQ _ hb9)) HC0_3.out A78.out))); (focus (rfl))) | (apply qb_val; (focus rfl); (focus (intro wq9 _; go_simp; with_reducible rfl))) | (apply qb_val; (focus rfl); (focus (intro wq9 hb9_; have hb9 : Below wc.heap.size wc wq9 := hb9_; have BK173 := sd_ (blk_below BK173.out hb9); have hc9_173_0 : wq9.cell? ⟨gb173, 0, none⟩ = some (.int .i64 a0_0) := (blk_cell BK173.out 0).trans rfl; have hc9_173_1 : wq9.cell? ⟨gb173, 1, none⟩ = some (.slice A0_1 l0_1.length c0_1) := (blk_cell BK173.out 1).trans rfl; have hc9_173_2 : wq9.cell? ⟨gb173, 2, none⟩ = some (.slice A0_2 l0_2.length c0_2) := (blk_cell BK173.out 2).trans rfl; have hc9_173_3 : wq9.cell? ⟨gb173, 3, none⟩ = some (.slice A0_3 l0_3.length c0_3) := (blk_cell BK173.out 3).trans rfl; go_simp; with_reducible rfl)))); (focus (simp only [Act.put, List.setIfInBounds_toArray, List.set_cons_zero, List.set_cons_succ, i64_w, i32_w]; rfl)))
        refine qb_nil ?_
        intro w107 hb
        replace BK173 := sd_ (blk_below BK173.out hb)
        replace HB := sd_ (below_step HB.out hb)
        clear hb
        (try clear HQ)
        try go_wp2
        go_ret
        exact ⟨an_, bw1_ HB.out GE173.out⟩
     replace c62 := Bool.eq_false_iff.mpr c62
     subst c62
     have H1 : (some true) = some r := by rw [if_neg (show ¬ (false = true) by decide)] at H; exact H
     clear H
     have H := H1
     clear H1
     obtain rfl := Option.some.inj H
     obtain ⟨hcz108_0, hcz108_1, hcz108_2, hcz108_3, hfz108_0, hfz108_1, hfz108_2, hfz108_3⟩ := bf4_ BK173.out
     go_wp2_with (first | ((with_reducible refine gate_callee (f := 90) rfl ?_); refine goesL_ (some 82) rfl rfl Try.func90 (by kernel_rfl) rfl #[.agg #[.int .i64 a0_0, .slice A0_1 l0_1.length c0_1, .slice A0_2 l0_2.length c0_2, .slice A0_3 l0_3.length c0_3], .int .i64 a1, .int .i64 a2] rfl la_ ?_; (with_reducible refine (spec_l1Le.calls a0_0 _ _ l0_1 _ _ l0_2 _ _ l0_3 a1 a2 false _ (kc_ HR0_1.out HB.out) HC0_1.out (kc_ HR0_2.out HB.out) HC0_2.out (kc_ HR0_3.out HB.out) HC0_3.out A61.out).mono ?_); rintro e w109 ⟨rfl, hb⟩; refine ⟨_, rfl, ?_⟩; replace BK173 := sd_ (bb_ BK173.out hb); replace HB := sd_ (below_step (bw1_ HB.out GE173.out) hb); (try clear hb)))
     go_ret
     exact ⟨an_, bw1_ HB.out GE173.out⟩


/-! ### spec_l1Max: function 132 -/
def spec_l1Max.f (a0 : Int) (a1 : Int) : Option (Int) := if a0 > a1 then (some a0) else (some a1)
set_option maxHeartbeats 8000000 in
set_option maxRecDepth 100000 in
theorem spec_l1Max.calls (a0 : Int) (a1 : Int) (r : Int) (w : World) (h : spec_l1Max.f a0 a1 = some r) :
  Calls Try.prog 132 #[.int .i64 a0, .int .i64 a1] w fun e w' => e = .returned (.int .i64 r) ∧ Drawn0 w w' := by
 have H : (if a0 > a1 then (some a0) else (some a1)) = some r := h
 clear h
 by_cases c3 : a0 > a1
 ·rw [if_pos c3] at H
  have c3b0 : decide (a1 < a0) = true := decide_eq_true c3
  clear c3
  obtain rfl := Option.some.inj H
  go_enter Try.func132, Try.ntmps132
  go_wp2
  go_ret
  exact ⟨by first | rfl | (simp; done) | (simp [*]; done), by repeat (first | exact Drawn0.refl _ | apply Drawn0.step)⟩
 rw [if_neg c3] at H
 have c3b0 : decide (a1 < a0) = false := decide_eq_false c3
 clear c3
 obtain rfl := Option.some.inj H
 go_enter Try.func132, Try.ntmps132
 go_wp2
 go_ret
 exact ⟨by first | rfl | (simp; done) | (simp [*]; done), by repeat (first | exact Drawn0.refl _ | apply Drawn0.step)⟩

end Go.Proofs.Ytcdmnofomoadlaa.P
end
