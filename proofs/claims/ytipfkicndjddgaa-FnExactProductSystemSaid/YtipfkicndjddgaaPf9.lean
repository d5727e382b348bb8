-- Printed by this session's own program (wip/tools/mkprint.py) out of the translation. Not trusted: Lean checks it.
import Derived.Test.YtipfkicndjddgaaM1
import Derived.Test.YtipfkicndjddgaaM8
import Derived.Test.YtipfkicndjddgaaM2
import Derived.Test.YtipfkicndjddgaaM3
/-! short words -/
namespace Go.Proofs.Ytipfkicndjddgaa.P
open Go.RowKit Go.Proofs.YtipfkicndjddgaaW.PrintWords Go.Proofs.YtipfkicndjddgaaW.PrintLast Go.Proofs.YtipfkicndjddgaaW.PrintMore
attribute [local go_sem] max2_int min2_int max_two min_two max_three min_three max_four min_four   -- for this text's walks alone
set_option linter.unusedVariables false
set_option linter.unusedSimpArgs false

/-! ### spec_ProductSystem: function 9 -/
mutual
def spec_ProductSystem.l0 : Nat → Int → Int → Int → List Int → List Int → List Bool → Int → List Int → List Int → List Bool → Int → List Int → List Int → List Bool → Option (Int × List Int × List Int × List Bool × Bool)
 | 0, _, _, _, _, _, _, _, _, _, _, _, _, _, _ => none
 | k + 1, x6, x8, x179000, x179001, x179002, x179003, x180000, x180001, x180002, x180003, x183000, x183001, x183002, x183003 => if x8 < x183000 then (spec_ProductSystem.l1 k x6 x8 0 x179000 x179001 x179002 x179003 x180000 x180001 x180002 x180003 x183000 x183001 x183002 x183003) else (some (x183000, x183001, x183002, x183003, true))
def spec_ProductSystem.l1 : Nat → Int → Int → Int → Int → List Int → List Int → List Bool → Int → List Int → List Int → List Bool → Int → List Int → List Int → List Bool → Option (Int × List Int × List Int × List Bool × Bool)
 | 0, _, _, _, _, _, _, _, _, _, _, _, _, _, _, _ => none
 | k + 1, x6, x8, x9, x179000, x179001, x179002, x179003, x180000, x180001, x180002, x180003, x183000, x183001, x183002, x183003 => if x9 < x183000 then ((spec_l1First.f x6 x8).bind fun t183 => ((spec_l1Second.f x6 x8).bind fun t184 => ((spec_l1First.f x6 x9).bind fun t185 => ((spec_l1Second.f x6 x9).bind fun t186 => ((spec_l1Add.f x179000 x179001 x179002 x179003 t183 t185).bind fun t187 => ((spec_l1Add.f x180000 x180001 x180002 x180003 t184 t186).bind fun t188 => ((spec_l1Pair.f x6 t187 t188).bind fun t189 => (if x183001.length < 17592186044416 then ((some (x183001 ++ [t189] : List Int)).bind fun y190 => ((spec_l1Mul.f x179000 x179001 x179002 x179003 t183 t185).bind fun t193 => ((spec_l1Mul.f x180000 x180001 x180002 x180003 t184 t186).bind fun t194 => ((spec_l1Pair.f x6 t193 t194).bind fun t195 => (if x183002.length < 17592186044416 then ((some (x183002 ++ [t195] : List Int)).bind fun y196 => ((spec_l1Le.f x179000 x179001 x179002 x179003 t183 t185).bind fun t199 => (if t199 = true then ((spec_l1Le.f x180000 x180001 x180002 x180003 t184 t186).bind fun t200 => (if x183003.length < 140737488355328 then (spec_ProductSystem.l1 k x6 x8 (wrap64 (x9 + 1)) x179000 x179001 x179002 x179003 x180000 x180001 x180002 x180003 x183000 y190 y196 (x183003 ++ [t200])) else (none))) else (if x183003.length < 140737488355328 then (spec_ProductSystem.l1 k x6 x8 (wrap64 (x9 + 1)) x179000 x179001 x179002 x179003 x180000 x180001 x180002 x180003 x183000 y190 y196 (x183003 ++ [false])) else (none))))) else (none)))))) else (none))))))))) else (spec_ProductSystem.l0 k x6 (wrap64 (x8 + 1)) x179000 x179001 x179002 x179003 x180000 x180001 x180002 x180003 x183000 x183001 x183002 x183003)
end
def spec_ProductSystem.f (k : Nat) (a0_0 : Int) (l0_1 : List Int) (l0_2 : List Int) (l0_3 : List Bool) (a1_0 : Int) (l1_1 : List Int) (l1_2 : List Int) (l1_3 : List Bool) : Option (Int × List Int × List Int × List Bool × Bool) := (spec_l1Product.f k a0_0 l0_1 l0_2 l0_3 a1_0 l1_1 l1_2 l1_3).bind fun t181 => (if t181 = true then (spec_ProductSystem.l0 k a1_0 0 a0_0 l0_1 l0_2 l0_3 a1_0 l1_1 l1_2 l1_3 (wrap64 (a0_0 * a1_0)) ([] : List Int) ([] : List Int) ([] : List Bool)) else (some (0, ([] : List Int), ([] : List Int), ([] : List Bool), false)))
def spec_ProductSystem.T15 : Bool × List (List Nat × List Nat) := (true, [([], []), ([0], [0]), ([], []), ([], []), ([], []), ([], []), ([3, 4, 5], [3, 4, 5]), ([], []), ([], []), ([], []), ([7, 8, 9, 6], [7, 8, 9]), ([2, 6, 10, 10], [2, 6, 10]), ([11], [11]), ([1, 12, 11], [1, 12]), ([0, 1, 2, 3, 4, 5, 6, 7, 8, 9, 10, 11, 12, 13], []), ([14, 13, 13, 0, 1, 2, 3, 4, 5, 6, 7, 8, 9, 10, 11, 12, 13], [13, 14])])
def spec_ProductSystem.B15 : List Nat := [0, 1, 0, 0, 0, 0, 56, 0, 0, 0, 1016, 2044, 4092, 8191, 16383, 32767]
theorem spec_ProductSystem.tab15 : rtab .any (opsOf Try.f9 15) = spec_ProductSystem.T15 := by kernel_rfl
theorem spec_ProductSystem.bits15 : waitsOk spec_ProductSystem.T15.2 spec_ProductSystem.B15 = true := by kernel_rfl
def spec_ProductSystem.T16 : Bool × List (List Nat × List Nat) := (true, [([], []), ([0], [0]), ([], []), ([], []), ([], []), ([], []), ([3, 4, 5], [3, 4, 5]), ([], []), ([], []), ([], []), ([7, 8, 9, 6], [7, 8, 9]), ([2, 6, 10, 10], [2, 6, 10]), ([11], [11]), ([1, 12, 11], [1, 12]), ([0, 1, 2, 3, 4, 5, 6, 7, 8, 9, 10, 11, 12, 13], []), ([14, 13, 13, 0, 1, 2, 3, 4, 5, 6, 7, 8, 9, 10, 11, 12, 13], [13, 14])])
def spec_ProductSystem.B16 : List Nat := [0, 1, 0, 0, 0, 0, 56, 0, 0, 0, 1016, 2044, 4092, 8191, 16383, 32767]
theorem spec_ProductSystem.tab16 : rtab .any (opsOf Try.f9 16) = spec_ProductSystem.T16 := by kernel_rfl
theorem spec_ProductSystem.bits16 : waitsOk spec_ProductSystem.T16.2 spec_ProductSystem.B16 = true := by kernel_rfl
def spec_ProductSystem.T17 : Bool × List (List Nat × List Nat) := (true, [([], []), ([0], [0]), ([], []), ([], []), ([], []), ([2, 3, 4], [2, 3, 4]), ([5, 5], [5]), ([6], [6]), ([6], [6]), ([6], [6]), ([7, 8, 9, 6, 6], [6, 7, 8, 9]), ([6, 10], [6, 10]), ([11], [11]), ([1, 12, 10], [1, 12]), ([0, 1, 2, 3, 4, 5, 6, 7, 8, 9, 10, 11, 12, 13], []), ([14, 13, 13, 0, 1, 2, 3, 4, 5, 6, 7, 8, 9, 10, 11, 12, 13], [13, 14])])
def spec_ProductSystem.B17 : List Nat := [0, 1, 0, 0, 0, 28, 60, 124, 124, 124, 1020, 2044, 4092, 8191, 16383, 32767]
theorem spec_ProductSystem.tab17 : rtab .any (opsOf Try.f9 17) = spec_ProductSystem.T17 := by kernel_rfl
theorem spec_ProductSystem.bits17 : waitsOk spec_ProductSystem.T17.2 spec_ProductSystem.B17 = true := by kernel_rfl
set_option maxHeartbeats 8000000 in
set_option maxRecDepth 100000 in
theorem spec_ProductSystem.calls (k : Nat) (a0_0 : Int) (A0_1 : Option Addr) (c0_1 : Nat) (l0_1 : List Int) (A0_2 : Option Addr) (c0_2 : Nat) (l0_2 : List Int) (A0_3 : Option Addr) (c0_3 : Nat) (l0_3 : List Bool) (a1_0 : Int) (A1_1 : Option Addr) (c1_1 : Nat) (l1_1 : List Int) (A1_2 : Option Addr) (c1_2 : Nat) (l1_2 : List Int) (A1_3 : Option Addr) (c1_3 : Nat) (l1_3 : List Bool) (r1 : Int) (r2 : List Int) (r3 : List Int) (r4 : List Bool) (r5 : Bool) (w : World) (hr0_1 : Kd.C (Kd.int .i64) w A0_1 l0_1.length l0_1) (hc0_1 : l0_1.length ≤ c0_1) (hr0_2 : Kd.C (Kd.int .i64) w A0_2 l0_2.length l0_2) (hc0_2 : l0_2.length ≤ c0_2) (hr0_3 : Kd.C Kd.bool w A0_3 l0_3.length l0_3) (hc0_3 : l0_3.length ≤ c0_3) (hr1_1 : Kd.C (Kd.int .i64) w A1_1 l1_1.length l1_1) (hc1_1 : l1_1.length ≤ c1_1) (hr1_2 : Kd.C (Kd.int .i64) w A1_2 l1_2.length l1_2) (hc1_2 : l1_2.length ≤ c1_2) (hr1_3 : Kd.C Kd.bool w A1_3 l1_3.length l1_3) (hc1_3 : l1_3.length ≤ c1_3) (h : spec_ProductSystem.f k a0_0 l0_1 l0_2 l0_3 a1_0 l1_1 l1_2 l1_3 = some (r1, r2, r3, r4, r5)) :
  Calls Try.prog 9 #[.agg #[.int .i64 a0_0, .slice A0_1 l0_1.length c0_1, .slice A0_2 l0_2.length c0_2, .slice A0_3 l0_3.length c0_3], .agg #[.int .i64 a1_0, .slice A1_1 l1_1.length c1_1, .slice A1_2 l1_2.length c1_2, .slice A1_3 l1_3.length c1_3]] w fun e w' => ∃ v1_ v2_ v3_ : Value, e = .returned (.tuple #[.agg #[.int .i64 r1, v1_, v2_, v3_], .bool r5]) ∧ Kd.R (Kd.int .i64) 3 w' w.heap.size (fun k_ => some k_ ≠ (v2_ : Value).ownBlock) v1_ r2 ∧ Kd.R (Kd.int .i64) 3 w' w.heap.size (fun k_ => some k_ ≠ (v1_ : Value).ownBlock) v2_ r3 ∧ Kd.R Kd.bool 4 w' w.heap.size (fun _ => True) v3_ r4 ∧ Below w.heap.size w w' := by
 have hu27 := Try.underlying27
 have HR0_1 := sd_ hr0_1
 have HC0_1 := sd_ hc0_1
 clear hr0_1 hc0_1
 have HR0_2 := sd_ hr0_2
 have HC0_2 := sd_ hc0_2
 clear hr0_2 hc0_2
 have HR0_3 := sd_ hr0_3
 have HC0_3 := sd_ hc0_3
 clear hr0_3 hc0_3
 have HR1_1 := sd_ hr1_1
 have HC1_1 := sd_ hc1_1
 clear hr1_1 hc1_1
 have HR1_2 := sd_ hr1_2
 have HC1_2 := sd_ hc1_2
 clear hr1_2 hc1_2
 have HR1_3 := sd_ hr1_3
 have HC1_3 := sd_ hc1_3
 clear hr1_3 hc1_3
 have HB := sd_ (Below.refl w.heap.size w)
 have H : ((spec_l1Product.f k a0_0 l0_1 l0_2 l0_3 a1_0 l1_1 l1_2 l1_3).bind fun t181 => (if t181 = true then (spec_ProductSystem.l0 k a1_0 0 a0_0 l0_1 l0_2 l0_3 a1_0 l1_1 l1_2 l1_3 (wrap64 (a0_0 * a1_0)) ([] : List Int) ([] : List Int) ([] : List Bool)) else (some (0, ([] : List Int), ([] : List Int), ([] : List Bool), false)))) = some (r1, r2, r3, r4, r5) := h
 clear h
 replace H := Option.bind_eq_some_iff.mp H
 obtain ⟨t181, A30, H⟩ := H
 try dsimp only at H
 have A3 := sd_ A30
 clear A30
 by_cases c4 : t181 = true
 ·subst c4
  have H1 : (spec_ProductSystem.l0 k a1_0 0 a0_0 l0_1 l0_2 l0_3 a1_0 l1_1 l1_2 l1_3 (wrap64 (a0_0 * a1_0)) ([] : List Int) ([] : List Int) ([] : List Bool)) = some (r1, r2, r3, r4, r5) := by rw [if_pos rfl] at H; exact H
  clear H
  have H := H1
  clear H1
  have H' := sd_ H
  clear H
  go_enter Try.func9, Try.ntmps9
  go_wp2_with (first | ((with_reducible refine gate_dst (N := 2) rfl ?_); refine bx_ (N := 2) (cs := #[.int .i64 a0_0, .slice A0_1 l0_1.length c0_1, .slice A0_2 l0_2.length c0_2, .slice A0_3 l0_3.length c0_3]) (t := 27) ?_; intro gb178 hg w5 hbox hb; have BK178 := sd_ (hbox); have GW178 := sd_ (gs_ hg (bw0_ HB.out)); have GE178 := sd_ (gs_ hg (bw0_ HB.out)); replace HB := sd_ (below_step (bw0_ HB.out) hb); clear hb hbox hg) | ((with_reducible refine gate_dst (N := 3) rfl ?_); refine bx_ (N := 3) (cs := #[.int .i64 a1_0, .slice A1_1 l1_1.length c1_1, .slice A1_2 l1_2.length c1_2, .slice A1_3 l1_3.length c1_3]) (t := 27) ?_; intro gb179 hg w6 hbox hb; have BK179 := sd_ (hbox); have GW179 := sd_ (gs_ hg (bw1_ HB.out GE178.out)); have GE179 := sd_ (gs_ hg (bw1_ HB.out GE178.out)); replace HB := sd_ (below_step (bw1_ HB.out GE178.out) hb); have NB178_179 := sd_ (nl_ hg (bl_ BK178.out)); have NB179_178 := sd_ (ng_ hg (bl_ BK178.out)); replace BK178 := sd_ (bb_ BK178.out hb); clear hb hbox hg) | ((with_reducible refine gate_dst (N := 4) rfl ?_); refine bx_ (N := 4) (cs := #[.int .i64 0, .slice none 0 0, .slice none 0 0, .slice none 0 0]) (t := 27) ?_; intro gb180 hg w7 hbox hb; have BK180 := sd_ (hbox); have GW180 := sd_ (gs_ hg (bw2_ HB.out GE178.out GE179.out)); have GE180 := sd_ (gs_ hg (bw2_ HB.out GE178.out GE179.out)); replace HB := sd_ (below_step (bw2_ HB.out GE178.out GE179.out) hb); have NB178_180 := sd_ (nl_ hg (bl_ BK178.out)); have NB180_178 := sd_ (ng_ hg (bl_ BK178.out)); replace BK178 := sd_ (bb_ BK178.out hb); have NB179_180 := sd_ (nl_ hg (bl_ BK179.out)); have NB180_179 := sd_ (ng_ hg (bl_ BK179.out)); replace BK179 := sd_ (bb_ BK179.out hb); clear hb hbox hg; have hnb8 := NB178_179.out; have hnc8 := NB179_178.out; have hnb9 := NB178_180.out; have hnc9 := NB180_178.out; obtain ⟨hcz10_0, hcz10_1, hcz10_2, hcz10_3, hfz10_0, hfz10_1, hfz10_2, hfz10_3⟩ := bf4_ BK178.out; have hnb11 := NB179_180.out; have hnc11 := NB180_179.out; obtain ⟨hcz12_0, hcz12_1, hcz12_2, hcz12_3, hfz12_0, hfz12_1, hfz12_2, hfz12_3⟩ := bf4_ BK179.out) | ((with_reducible refine gate_callee (f := 36) rfl ?_); refine goesL_ (some 16) rfl rfl Try.func36 (by kernel_rfl) rfl #[.agg #[.int .i64 a0_0, .slice A0_1 l0_1.length c0_1, .slice A0_2 l0_2.length c0_2, .slice A0_3 l0_3.length c0_3], .agg #[.int .i64 a1_0, .slice A1_1 l1_1.length c1_1, .slice A1_2 l1_2.length c1_2, .slice A1_3 l1_3.length c1_3]] rfl la_ ?_; (with_reducible refine (spec_l1Product.calls k a0_0 _ _ l0_1 _ _ l0_2 _ _ l0_3 a1_0 _ _ l1_1 _ _ l1_2 _ _ l1_3 true _ (kc_ HR0_1.out HB.out) HC0_1.out (kc_ HR0_2.out HB.out) HC0_2.out (kc_ HR0_3.out HB.out) HC0_3.out (kc_ HR1_1.out HB.out) HC1_1.out (kc_ HR1_2.out HB.out) HC1_2.out (kc_ HR1_3.out HB.out) HC1_3.out A3.out).mono ?_); rintro e w13 ⟨rfl, hb⟩; refine ⟨_, rfl, ?_⟩; replace BK178 := sd_ (bb_ BK178.out hb); replace BK179 := sd_ (bb_ BK179.out hb); replace BK180 := sd_ (bb_ BK180.out hb); replace HB := sd_ (below_step (bw3_ HB.out GE178.out GE179.out GE180.out) hb); (try clear hb); obtain ⟨hcz14_0, hcz14_1, hcz14_2, hcz14_3, hfz14_0, hfz14_1, hfz14_2, hfz14_3⟩ := bf4_ BK179.out; obtain ⟨hcz15_0, hcz15_1, hcz15_2, hcz15_3, hfz15_0, hfz15_1, hfz15_2, hfz15_3⟩ := bf4_ BK178.out) | ((with_reducible refine gate_dst (N := 7) rfl ?_); refine bx_ (N := 7) (cs := #[.int .i64 0, .slice none 0 0, .slice none 0 0, .slice none 0 0]) (t := 27) ?_; intro gb182 hg w16 hbox hb; have BK182 := sd_ (hbox); have GW182 := sd_ (gs_ hg (bw3_ HB.out GE178.out GE179.out GE180.out)); have GE182 := sd_ (gs_ hg (bw3_ HB.out GE178.out GE179.out GE180.out)); replace HB := sd_ (below_step (bw3_ HB.out GE178.out GE179.out GE180.out) hb); have NB178_182 := sd_ (nl_ hg (bl_ BK178.out)); have NB182_178 := sd_ (ng_ hg (bl_ BK178.out)); replace BK178 := sd_ (bb_ BK178.out hb); have NB179_182 := sd_ (nl_ hg (bl_ BK179.out)); have NB182_179 := sd_ (ng_ hg (bl_ BK179.out)); replace BK179 := sd_ (bb_ BK179.out hb); have NB180_182 := sd_ (nl_ hg (bl_ BK180.out)); have NB182_180 := sd_ (ng_ hg (bl_ BK180.out)); replace BK180 := sd_ (bb_ BK180.out hb); clear hb hbox hg; have hnb17 := NB182_178.out; have hnc17 := NB178_182.out; have hnb18 := NB182_179.out; have hnc18 := NB179_182.out; have hnb19 := NB182_180.out; have hnc19 := NB180_182.out; obtain ⟨hcz20_0, hcz20_1, hcz20_2, hcz20_3, hfz20_0, hfz20_1, hfz20_2, hfz20_3⟩ := bf4_ BK182.out))
  go_loopg [8] k (fun kq v8 w' => ∃ (x8_1 : Int) (x183001_1 : List Int) (x183002_1 : List Int) (x183003_1 : List Bool) (u183001 : Value) (u183002 : Value) (u183003 : Value), v8 = .int .i64 x8_1 ∧ Aside0 (spec_ProductSystem.l0 kq a1_0 x8_1 a0_0 l0_1 l0_2 l0_3 a1_0 l1_1 l1_2 l1_3 (wrap64 (a0_0 * a1_0)) x183001_1 x183002_1 x183003_1 = some (r1, r2, r3, r4, r5)) ∧ Aside0 (kq ≤ k) ∧ Aside0 (Kd.R (Kd.int .i64) 3 w' w.heap.size (fun k_ => some k_ ≠ (u183002 : Value).ownBlock) u183001 x183001_1) ∧ Aside0 (Kd.R (Kd.int .i64) 3 w' w.heap.size (fun k_ => some k_ ≠ (u183001 : Value).ownBlock) u183002 x183002_1) ∧ Aside0 (Kd.R Kd.bool 4 w' w.heap.size (fun _ => True) u183003 x183003_1) ∧ Aside0 (w'.heap[gb178]? = some (.cells #[.int .i64 a0_0, (.slice A0_1 l0_1.length c0_1), (.slice A0_2 l0_2.length c0_2), (.slice A0_3 l0_3.length c0_3)] 27 (0, 0))) ∧ Aside0 (w'.heap[gb179]? = some (.cells #[.int .i64 a1_0, (.slice A1_1 l1_1.length c1_1), (.slice A1_2 l1_2.length c1_2), (.slice A1_3 l1_3.length c1_3)] 27 (0, 0))) ∧ Aside0 (w'.heap[gb180]? = some (.cells #[.int .i64 0, (.slice none 0 0), (.slice none 0 0), (.slice none 0 0)] 27 (0, 0))) ∧ Aside0 (w'.heap[gb182]? = some (.cells #[.int .i64 (wrap64 (a0_0 * a1_0)), u183001, u183002, u183003] 27 (0, 0))) ∧ Aside0 (Below w.heap.size w w'))
  case atStart => exact ⟨(0), (([] : List Int)), (([] : List Int)), (([] : List Bool)), (.slice none 0 0), (.slice none 0 0), (.slice none 0 0), sm_, H', ⟨Nat.le_refl _⟩, ⟨by first | exact Kd.R_nil _ _ _ _ _ | exact Kd.N_nil _ _ _ _ _ | exact Kd.V_nil _ _ _ _ _ | exact Kd.Q_nil _ _ _ _ _ | exact Kd.S_nil _ _ _ _ _⟩, ⟨by first | exact Kd.R_nil _ _ _ _ _ | exact Kd.N_nil _ _ _ _ _ | exact Kd.V_nil _ _ _ _ _ | exact Kd.Q_nil _ _ _ _ _ | exact Kd.S_nil _ _ _ _ _⟩, ⟨by first | exact Kd.R_nil _ _ _ _ _ | exact Kd.N_nil _ _ _ _ _ | exact Kd.V_nil _ _ _ _ _ | exact Kd.Q_nil _ _ _ _ _ | exact Kd.S_nil _ _ _ _ _⟩, ⟨by (with_reducible repeat (first | refine blk_drewN ?_ _ | refine blk_drew ?_ | refine blk_alloc ?_ _)); refine blk_far ?_ NB178_182.out _; (with_reducible repeat (first | refine blk_drewN ?_ _ | refine blk_drew ?_ | refine blk_alloc ?_ _)); refine blk_far ?_ NB178_182.out _; (with_reducible repeat (first | refine blk_drewN ?_ _ | refine blk_drew ?_ | refine blk_alloc ?_ _)); refine blk_far ?_ NB178_182.out _; (with_reducible repeat (first | refine blk_drewN ?_ _ | refine blk_drew ?_ | refine blk_alloc ?_ _)); refine blk_far ?_ NB178_182.out _; (with_reducible repeat (first | refine blk_drewN ?_ _ | refine blk_drew ?_ | refine blk_alloc ?_ _)); exact BK178.out⟩, ⟨by (with_reducible repeat (first | refine blk_drewN ?_ _ | refine blk_drew ?_ | refine blk_alloc ?_ _)); refine blk_far ?_ NB179_182.out _; (with_reducible repeat (first | refine blk_drewN ?_ _ | refine blk_drew ?_ | refine blk_alloc ?_ _)); refine blk_far ?_ NB179_182.out _; (with_reducible repeat (first | refine blk_drewN ?_ _ | refine blk_drew ?_ | refine blk_alloc ?_ _)); refine blk_far ?_ NB179_182.out _; (with_reducible repeat (first | refine blk_drewN ?_ _ | refine blk_drew ?_ | refine blk_alloc ?_ _)); refine blk_far ?_ NB179_182.out _; (with_reducible repeat (first | refine blk_drewN ?_ _ | refine blk_drew ?_ | refine blk_alloc ?_ _)); exact BK179.out⟩, ⟨by (with_reducible repeat (first | refine blk_drewN ?_ _ | refine blk_drew ?_ | refine blk_alloc ?_ _)); refine blk_far ?_ NB180_182.out _; (with_reducible repeat (first | refine blk_drewN ?_ _ | refine blk_drew ?_ | refine blk_alloc ?_ _)); refine blk_far ?_ NB180_182.out _; (with_reducible repeat (first | refine blk_drewN ?_ _ | refine blk_drew ?_ | refine blk_alloc ?_ _)); refine blk_far ?_ NB180_182.out _; (with_reducible repeat (first | refine blk_drewN ?_ _ | refine blk_drew ?_ | refine blk_alloc ?_ _)); refine blk_far ?_ NB180_182.out _; (with_reducible repeat (first | refine blk_drewN ?_ _ | refine blk_drew ?_ | refine blk_alloc ?_ _)); exact BK180.out⟩, ⟨by (with_reducible repeat (first | refine blk_drewN ?_ _ | refine blk_drew ?_ | refine blk_alloc ?_ _)); refine blk_put (cs := #[.int .i64 (wrap64 (a0_0 * a1_0)), .slice none 0 0, .slice none 0 0, .slice none 0 0]) ?_ 3 _ rfl; (with_reducible repeat (first | refine blk_drewN ?_ _ | refine blk_drew ?_ | refine blk_alloc ?_ _)); refine blk_put (cs := #[.int .i64 (wrap64 (a0_0 * a1_0)), .slice none 0 0, .slice none 0 0, .slice none 0 0]) ?_ 2 _ rfl; (with_reducible repeat (first | refine blk_drewN ?_ _ | refine blk_drew ?_ | refine blk_alloc ?_ _)); refine blk_put (cs := #[.int .i64 (wrap64 (a0_0 * a1_0)), .slice none 0 0, .slice none 0 0, .slice none 0 0]) ?_ 1 _ rfl; (with_reducible repeat (first | refine blk_drewN ?_ _ | refine blk_drew ?_ | refine blk_alloc ?_ _)); refine blk_put (cs := #[.int .i64 0, .slice none 0 0, .slice none 0 0, .slice none 0 0]) ?_ 0 _ rfl; exact bz_ BK182.out⟩, ⟨bw4_ HB.out GE178.out GE179.out GE180.out GE182.out⟩⟩
  case round =>
   clear H'
   try clear c1
   try clear p2
   try clear c3
   try clear c4
   try clear p6
   try clear c8
   try clear c9
   try clear c11
   try clear c17
   try clear c18
   try clear c19
   try clear hcz10_0
   try clear hcz10_1
   try clear hcz10_2
   try clear hcz10_3
   try clear hcz12_0
   try clear hcz12_1
   try clear hcz12_2
   try clear hcz12_3
   try clear hcz14_0
   try clear hcz14_1
   try clear hcz14_2
   try clear hcz14_3
   try clear hcz15_0
   try clear hcz15_1
   try clear hcz15_2
   try clear hcz15_3
   try clear hcz20_0
   try clear hcz20_1
   try clear hcz20_2
   try clear hcz20_3
   try clear hfz10_0
   try clear hfz10_1
   try clear hfz10_2
   try clear hfz10_3
   try clear hfz12_0
   try clear hfz12_1
   try clear hfz12_2
   try clear hfz12_3
   try clear hfz14_0
   try clear hfz14_1
   try clear hfz14_2
   try clear hfz14_3
   try clear hfz15_0
   try clear hfz15_1
   try clear hfz15_2
   try clear hfz15_3
   try clear hfz20_0
   try clear hfz20_1
   try clear hfz20_2
   try clear hfz20_3
   obtain ⟨x8_1, x183001_1, x183002_1, x183003_1, u183001, u183002, u183003, rfl, HA, HK1, HO_183001, HO_183002, HO_183003, BK178, BK179, BK180, BK182, HB⟩ := hrel
   cases gk with
   | zero => exact absurd HA.out (by simp [spec_ProductSystem.l0])
   | succ k1 =>
    have H := HA.out
    clear HA
    simp only [spec_ProductSystem.l0] at H
    by_cases c21 : x8_1 < (wrap64 (a0_0 * a1_0))
    ·rw [if_pos c21] at H
     have c21b0 : decide (x8_1 < (wrap64 (a0_0 * a1_0))) = true := decide_eq_true c21
     clear c21
     have H' := sd_ H
     clear H
     have hnb22 := NB182_178.out
     have hnc22 := NB178_182.out
     have hnb23 := NB182_179.out
     have hnc23 := NB179_182.out
     have hnb24 := NB182_180.out
     have hnc24 := NB180_182.out
     obtain ⟨hcz25_0, hcz25_1, hcz25_2, hcz25_3, hfz25_0, hfz25_1, hfz25_2, hfz25_3⟩ := bf4_ BK182.out
     go_wp2
     go_loopg [9] k1 (fun kq v9 w' => ∃ (x9_2 : Int) (x183001_2 : List Int) (x183002_2 : List Int) (x183003_2 : List Bool) (u183001 : Value) (u183002 : Value) (u183003 : Value), v9 = .int .i64 x9_2 ∧ Aside0 (spec_ProductSystem.l1 kq a1_0 x8_1 x9_2 a0_0 l0_1 l0_2 l0_3 a1_0 l1_1 l1_2 l1_3 (wrap64 (a0_0 * a1_0)) x183001_2 x183002_2 x183003_2 = some (r1, r2, r3, r4, r5)) ∧ Aside0 (kq ≤ k1) ∧ Aside0 (Kd.R (Kd.int .i64) 3 w' w.heap.size (fun k_ => some k_ ≠ (u183002 : Value).ownBlock) u183001 x183001_2) ∧ Aside0 (Kd.R (Kd.int .i64) 3 w' w.heap.size (fun k_ => some k_ ≠ (u183001 : Value).ownBlock) u183002 x183002_2) ∧ Aside0 (Kd.R Kd.bool 4 w' w.heap.size (fun _ => True) u183003 x183003_2) ∧ Aside0 (w'.heap[gb178]? = some (.cells #[.int .i64 a0_0, (.slice A0_1 l0_1.length c0_1), (.slice A0_2 l0_2.length c0_2), (.slice A0_3 l0_3.length c0_3)] 27 (0, 0))) ∧ Aside0 (w'.heap[gb179]? = some (.cells #[.int .i64 a1_0, (.slice A1_1 l1_1.length c1_1), (.slice A1_2 l1_2.length c1_2), (.slice A1_3 l1_3.length c1_3)] 27 (0, 0))) ∧ Aside0 (w'.heap[gb180]? = some (.cells #[.int .i64 0, (.slice none 0 0), (.slice none 0 0), (.slice none 0 0)] 27 (0, 0))) ∧ Aside0 (w'.heap[gb182]? = some (.cells #[.int .i64 (wrap64 (a0_0 * a1_0)), u183001, u183002, u183003] 27 (0, 0))) ∧ Aside0 (Below w.heap.size w w'))
     case atStart => exact ⟨(0), (x183001_1), (x183002_1), (x183003_1), (u183001), (u183002), (u183003), sm_, H', ⟨Nat.le_refl _⟩, ⟨by (with_reducible repeat (first | apply Kd.R_alloc | apply Kd.R_drewN | apply Kd.R_drew)); exact HO_183001.out⟩, ⟨by (with_reducible repeat (first | apply Kd.R_alloc | apply Kd.R_drewN | apply Kd.R_drew)); exact HO_183002.out⟩, ⟨by (with_reducible repeat (first | apply Kd.R_alloc | apply Kd.R_drewN | apply Kd.R_drew)); exact HO_183003.out⟩, ⟨by exact bz_ BK178.out⟩, ⟨by exact bz_ BK179.out⟩, ⟨by exact bz_ BK180.out⟩, ⟨by exact bz_ BK182.out⟩, ⟨bw4_ HB.out GE178.out GE179.out GE180.out GE182.out⟩⟩
     case round =>
      clear H'
      try clear c1
      try clear c2
      try clear p2
      try clear c3
      try clear c4
      try clear p6
      try clear c8
      try clear c9
      try clear c11
      try clear c17
      try clear c18
      try clear c19
      try clear c21
      try clear c21b0
      try clear c22
      try clear c23
      try clear c24
      try clear hcz10_0
      try clear hcz10_1
      try clear hcz10_2
      try clear hcz10_3
      try clear hcz12_0
      try clear hcz12_1
      try clear hcz12_2
      try clear hcz12_3
      try clear hcz14_0
      try clear hcz14_1
      try clear hcz14_2
      try clear hcz14_3
      try clear hcz15_0
      try clear hcz15_1
      try clear hcz15_2
      try clear hcz15_3
      try clear hcz20_0
      try clear hcz20_1
      try clear hcz20_2
      try clear hcz20_3
      try clear hcz25_0
      try clear hcz25_1
      try clear hcz25_2
      try clear hcz25_3
      try clear hfz10_0
      try clear hfz10_1
      try clear hfz10_2
      try clear hfz10_3
      try clear hfz12_0
      try clear hfz12_1
      try clear hfz12_2
      try clear hfz12_3
      try clear hfz14_0
      try clear hfz14_1
      try clear hfz14_2
      try clear hfz14_3
      try clear hfz15_0
      try clear hfz15_1
      try clear hfz15_2
      try clear hfz15_3
      try clear hfz20_0
      try clear hfz20_1
      try clear hfz20_2
      try clear hfz20_3
      try clear hfz25_0
      try clear hfz25_1
      try clear hfz25_2
      try clear hfz25_3
      try clear p2
      try clear p6
      obtain ⟨x9_2, x183001_2, x183002_2, x183003_2, u183001, u183002, u183003, rfl, HA, HK2, HO_183001, HO_183002, HO_183003, BK178, BK179, BK180, BK182, HB⟩ := hrel
      cases gk with
      | zero => exact absurd HA.out (by simp [spec_ProductSystem.l1])
      | succ k2 =>
       have H := HA.out
       clear HA
       simp only [spec_ProductSystem.l1] at H
       by_cases c26 : x9_2 < (wrap64 (a0_0 * a1_0))
       ·rw [if_pos c26] at H
        have c26b0 : decide (x9_2 < (wrap64 (a0_0 * a1_0))) = true := decide_eq_true c26
        clear c26
        replace H := Option.bind_eq_some_iff.mp H
        obtain ⟨t183, A270, H⟩ := H
        try dsimp only at H
        have A27 := sd_ A270
        clear A270
        replace H := Option.bind_eq_some_iff.mp H
        obtain ⟨t184, A280, H⟩ := H
        try dsimp only at H
        have A28 := sd_ A280
        clear A280
        replace H := Option.bind_eq_some_iff.mp H
        obtain ⟨t185, A290, H⟩ := H
        try dsimp only at H
        have A29 := sd_ A290
        clear A290
        replace H := Option.bind_eq_some_iff.mp H
        obtain ⟨t186, A300, H⟩ := H
        try dsimp only at H
        have A30 := sd_ A300
        clear A300
        replace H := Option.bind_eq_some_iff.mp H
        obtain ⟨t187, A310, H⟩ := H
        try dsimp only at H
        have A31 := sd_ A310
        clear A310
        replace H := Option.bind_eq_some_iff.mp H
        obtain ⟨t188, A320, H⟩ := H
        try dsimp only at H
        have A32 := sd_ A320
        clear A320
        replace H := Option.bind_eq_some_iff.mp H
        obtain ⟨t189, A330, H⟩ := H
        try dsimp only at H
        have A33 := sd_ A330
        clear A330
        by_cases c34 : x183001_2.length < 17592186044416
        ·rw [if_pos c34] at H
         have LMc34 := sd_ c34
         clear c34
         obtain ⟨y190, hy190⟩ : ∃ y_ : List Int, y_ = (x183001_2 ++ [t189]) := ⟨_, rfl⟩
         replace H : ((spec_l1Mul.f a0_0 l0_1 l0_2 l0_3 t183 t185).bind fun t193 => ((spec_l1Mul.f a1_0 l1_1 l1_2 l1_3 t184 t186).bind fun t194 => ((spec_l1Pair.f a1_0 t193 t194).bind fun t195 => (if x183002_2.length < 17592186044416 then ((some (x183002_2 ++ [t195] : List Int)).bind fun y196 => ((spec_l1Le.f a0_0 l0_1 l0_2 l0_3 t183 t185).bind fun t199 => (if t199 = true then ((spec_l1Le.f a1_0 l1_1 l1_2 l1_3 t184 t186).bind fun t200 => (if x183003_2.length < 140737488355328 then (spec_ProductSystem.l1 k2 a1_0 x8_1 (wrap64 (x9_2 + 1)) a0_0 l0_1 l0_2 l0_3 a1_0 l1_1 l1_2 l1_3 (wrap64 (a0_0 * a1_0)) y190 y196 (x183003_2 ++ [t200])) else (none))) else (if x183003_2.length < 140737488355328 then (spec_ProductSystem.l1 k2 a1_0 x8_1 (wrap64 (x9_2 + 1)) a0_0 l0_1 l0_2 l0_3 a1_0 l1_1 l1_2 l1_3 (wrap64 (a0_0 * a1_0)) y190 y196 (x183003_2 ++ [false])) else (none))))) else (none))))) = some (r1, r2, r3, r4, r5) := by first | (rw [hy190]; with_reducible exact H) | (have H2_ := (Option.bind_some _ _).symm.trans H; rw [hy190]; with_reducible exact H2_) | (have H2_ := (Option.bind_some _ _).symm.trans H; with_reducible exact H2_) | with_reducible exact H | (rw [hy190]; exact H) | exact H
         have Ny190 := sd_ hy190
         clear hy190
         replace H := Option.bind_eq_some_iff.mp H
         obtain ⟨t193, A350, H⟩ := H
         try dsimp only at H
         have A35 := sd_ A350
         clear A350
         replace H := Option.bind_eq_some_iff.mp H
         obtain ⟨t194, A360, H⟩ := H
         try dsimp only at H
         have A36 := sd_ A360
         clear A360
         replace H := Option.bind_eq_some_iff.mp H
         obtain ⟨t195, A370, H⟩ := H
         try dsimp only at H
         have A37 := sd_ A370
         clear A370
         by_cases c38 : x183002_2.length < 17592186044416
         ·rw [if_pos c38] at H
          have LMc38 := sd_ c38
          clear c38
          obtain ⟨y196, hy196⟩ : ∃ y_ : List Int, y_ = (x183002_2 ++ [t195]) := ⟨_, rfl⟩
          replace H : ((spec_l1Le.f a0_0 l0_1 l0_2 l0_3 t183 t185).bind fun t199 => (if t199 = true then ((spec_l1Le.f a1_0 l1_1 l1_2 l1_3 t184 t186).bind fun t200 => (if x183003_2.length < 140737488355328 then (spec_ProductSystem.l1 k2 a1_0 x8_1 (wrap64 (x9_2 + 1)) a0_0 l0_1 l0_2 l0_3 a1_0 l1_1 l1_2 l1_3 (wrap64 (a0_0 * a1_0)) y190 y196 (x183003_2 ++ [t200])) else (none))) else (if x183003_2.length < 140737488355328 then (spec_ProductSystem.l1 k2 a1_0 x8_1 (wrap64 (x9_2 + 1)) a0_0 l0_1 l0_2 l0_3 a1_0 l1_1 l1_2 l1_3 (wrap64 (a0_0 * a1_0)) y190 y196 (x183003_2 ++ [false])) else (none)))) = some (r1, r2, r3, r4, r5) := by first | (rw [hy196]; with_reducible exact H) | (have H2_ := (Option.bind_some _ _).symm.trans H; rw [hy196]; with_reducible exact H2_) | (have H2_ := (Option.bind_some _ _).symm.trans H; with_reducible exact H2_) | with_reducible exact H | (rw [hy196]; exact H) | exact H
          have Ny196 := sd_ hy196
          clear hy196
          replace H := Option.bind_eq_some_iff.mp H
          obtain ⟨t199, A390, H⟩ := H
          try dsimp only at H
          have A39 := sd_ A390
          clear A390
          by_cases c40 : t199 = true
          ·subst c40
           have H1 : ((spec_l1Le.f a1_0 l1_1 l1_2 l1_3 t184 t186).bind fun t200 => (if x183003_2.length < 140737488355328 then (spec_ProductSystem.l1 k2 a1_0 x8_1 (wrap64 (x9_2 + 1)) a0_0 l0_1 l0_2 l0_3 a1_0 l1_1 l1_2 l1_3 (wrap64 (a0_0 * a1_0)) y190 y196 (x183003_2 ++ [t200])) else (none))) = some (r1, r2, r3, r4, r5) := by rw [if_pos rfl] at H; exact H
           clear H
           have H := H1
           clear H1
           replace H := Option.bind_eq_some_iff.mp H
           obtain ⟨t200, A410, H⟩ := H
           try dsimp only at H
           have A41 := sd_ A410
           clear A410
           by_cases c42 : x183003_2.length < 140737488355328
           ·rw [if_pos c42] at H
            have LMc42 := sd_ c42
            clear c42
            obtain ⟨y201, hy201⟩ : ∃ y_ : List Bool, y_ = (x183003_2 ++ [t200]) := ⟨_, rfl⟩
            replace H : (spec_ProductSystem.l1 k2 a1_0 x8_1 (wrap64 (x9_2 + 1)) a0_0 l0_1 l0_2 l0_3 a1_0 l1_1 l1_2 l1_3 (wrap64 (a0_0 * a1_0)) y190 y196 y201) = some (r1, r2, r3, r4, r5) := by first | (rw [hy201]; with_reducible exact H) | (have H2_ := (Option.bind_some _ _).symm.trans H; rw [hy201]; with_reducible exact H2_) | (have H2_ := (Option.bind_some _ _).symm.trans H; with_reducible exact H2_) | with_reducible exact H | (rw [hy201]; exact H) | exact H
            have Ny201 := sd_ hy201
            clear hy201
            have H' := sd_ H
            clear H
            have hnb43 := NB182_178.out
            have hnc43 := NB178_182.out
            have hnb44 := NB182_179.out
            have hnc44 := NB179_182.out
            have hnb45 := NB182_180.out
            have hnc45 := NB180_182.out
            obtain ⟨hcz46_0, hcz46_1, hcz46_2, hcz46_3, hfz46_0, hfz46_1, hfz46_2, hfz46_3⟩ := bf4_ BK182.out
            try go_wp2_with (first | ((with_reducible refine gate_callee (f := 37) rfl ?_); refine goesL_ (some 40) rfl rfl Try.func37 (by kernel_rfl) rfl #[.int .i64 a1_0, .int .i64 x8_1] rfl la_ ?_; (with_reducible refine (spec_l1First.calls a1_0 x8_1 t183 _ A27.out).mono ?_); rintro e w' ⟨rfl, ⟨nd, rfl⟩⟩; refine ⟨_, rfl, ?_⟩; (try (rw [drewN_self wr]; generalize hq_ : World.drewN wr _ = wr; have n0_ : Aside0 (Kd.R (Kd.int .i64) 3 wr w.heap.size (fun k_ => some k_ ≠ (u183002 : Value).ownBlock) u183001 x183001_2) := ⟨by rw [← hq_]; exact (ro_ HO_183001.out)⟩; have n1_ : Aside0 (Kd.R (Kd.int .i64) 3 wr w.heap.size (fun k_ => some k_ ≠ (u183001 : Value).ownBlock) u183002 x183002_2) := ⟨by rw [← hq_]; exact (ro_ HO_183002.out)⟩; have n2_ : Aside0 (Kd.R Kd.bool 4 wr w.heap.size (fun _ => True) u183003 x183003_2) := ⟨by rw [← hq_]; exact (ro_ HO_183003.out)⟩; have n3_ : Aside0 (wr.heap[gb178]? = some (.cells #[.int .i64 a0_0, .slice A0_1 l0_1.length c0_1, .slice A0_2 l0_2.length c0_2, .slice A0_3 l0_3.length c0_3] 27 (0, 0))) := ⟨by rw [← hq_]; exact (bz_ BK178.out)⟩; have n4_ : Aside0 (wr.heap[gb179]? = some (.cells #[.int .i64 a1_0, .slice A1_1 l1_1.length c1_1, .slice A1_2 l1_2.length c1_2, .slice A1_3 l1_3.length c1_3] 27 (0, 0))) := ⟨by rw [← hq_]; exact (bz_ BK179.out)⟩; have n5_ : Aside0 (wr.heap[gb180]? = some (.cells #[.int .i64 0, .slice none 0 0, .slice none 0 0, .slice none 0 0] 27 (0, 0))) := ⟨by rw [← hq_]; exact (bz_ BK180.out)⟩; have n6_ : Aside0 (wr.heap[gb182]? = some (.cells #[.int .i64 (wrap64 (a0_0 * a1_0)), u183001, u183002, u183003] 27 (0, 0))) := ⟨by rw [← hq_]; exact (bz_ BK182.out)⟩; have n7_ : Aside0 (Below w.heap.size w wr) := ⟨by rw [← hq_]; exact (bw4_ HB.out GE178.out GE179.out GE180.out GE182.out)⟩; clear HO_183001 HO_183002 HO_183003 BK178 BK179 BK180 BK182 HB hq_; have HO_183001 := n0_; have HO_183002 := n1_; have HO_183003 := n2_; have BK178 := n3_; have BK179 := n4_; have BK180 := n5_; have BK182 := n6_; have HB := n7_; clear n0_ n1_ n2_ n3_ n4_ n5_ n6_ n7_))) | ((with_reducible refine gate_callee (f := 38) rfl ?_); refine goesL_ (some 43) rfl rfl Try.func38 (by kernel_rfl) rfl #[.int .i64 a1_0, .int .i64 x8_1] rfl la_ ?_; (with_reducible refine (spec_l1Second.calls a1_0 x8_1 t184 _ A28.out).mono ?_); rintro e w' ⟨rfl, ⟨nd, rfl⟩⟩; refine ⟨_, rfl, ?_⟩; (try (rw [drewN_self wr]; generalize hq_ : World.drewN wr _ = wr; have n0_ : Aside0 (Kd.R (Kd.int .i64) 3 wr w.heap.size (fun k_ => some k_ ≠ (u183002 : Value).ownBlock) u183001 x183001_2) := ⟨by rw [← hq_]; exact (ro_ HO_183001.out)⟩; have n1_ : Aside0 (Kd.R (Kd.int .i64) 3 wr w.heap.size (fun k_ => some k_ ≠ (u183001 : Value).ownBlock) u183002 x183002_2) := ⟨by rw [← hq_]; exact (ro_ HO_183002.out)⟩; have n2_ : Aside0 (Kd.R Kd.bool 4 wr w.heap.size (fun _ => True) u183003 x183003_2) := ⟨by rw [← hq_]; exact (ro_ HO_183003.out)⟩; have n3_ : Aside0 (wr.heap[gb178]? = some (.cells #[.int .i64 a0_0, .slice A0_1 l0_1.length c0_1, .slice A0_2 l0_2.length c0_2, .slice A0_3 l0_3.length c0_3] 27 (0, 0))) := ⟨by rw [← hq_]; exact (bz_ BK178.out)⟩; have n4_ : Aside0 (wr.heap[gb179]? = some (.cells #[.int .i64 a1_0, .slice A1_1 l1_1.length c1_1, .slice A1_2 l1_2.length c1_2, .slice A1_3 l1_3.length c1_3] 27 (0, 0))) := ⟨by rw [← hq_]; exact (bz_ BK179.out)⟩; have n5_ : Aside0 (wr.heap[gb180]? = some (.cells #[.int .i64 0, .slice none 0 0, .slice none 0 0, .slice none 0 0] 27 (0, 0))) := ⟨by rw [← hq_]; exact (bz_ BK180.out)⟩; have n6_ : Aside0 (wr.heap[gb182]? = some (.cells #[.int .i64 (wrap64 (a0_0 * a1_0)), u183001, u183002, u183003] 27 (0, 0))) := ⟨by rw [← hq_]; exact (bz_ BK182.out)⟩; have n7_ : Aside0 (Below w.heap.size w wr) := ⟨by rw [← hq_]; exact (bw4_ HB.out GE178.out GE179.out GE180.out GE182.out)⟩; clear HO_183001 HO_183002 HO_183003 BK178 BK179 BK180 BK182 HB hq_; have HO_183001 := n0_; have HO_183002 := n1_; have HO_183003 := n2_; have BK178 := n3_; have BK179 := n4_; have BK180 := n5_; have BK182 := n6_; have HB := n7_; clear n0_ n1_ n2_ n3_ n4_ n5_ n6_ n7_))) | ((with_reducible refine gate_callee (f := 37) rfl ?_); refine goesL_ (some 46) rfl rfl Try.func37 (by kernel_rfl) rfl #[.int .i64 a1_0, .int .i64 x9_2] rfl la_ ?_; (with_reducible refine (spec_l1First.calls a1_0 x9_2 t185 _ A29.out).mono ?_); rintro e w' ⟨rfl, ⟨nd, rfl⟩⟩; refine ⟨_, rfl, ?_⟩; (try (rw [drewN_self wr]; generalize hq_ : World.drewN wr _ = wr; have n0_ : Aside0 (Kd.R (Kd.int .i64) 3 wr w.heap.size (fun k_ => some k_ ≠ (u183002 : Value).ownBlock) u183001 x183001_2) := ⟨by rw [← hq_]; exact (ro_ HO_183001.out)⟩; have n1_ : Aside0 (Kd.R (Kd.int .i64) 3 wr w.heap.size (fun k_ => some k_ ≠ (u183001 : Value).ownBlock) u183002 x183002_2) := ⟨by rw [← hq_]; exact (ro_ HO_183002.out)⟩; have n2_ : Aside0 (Kd.R Kd.bool 4 wr w.heap.size (fun _ => True) u183003 x183003_2) := ⟨by rw [← hq_]; exact (ro_ HO_183003.out)⟩; have n3_ : Aside0 (wr.heap[gb178]? = some (.cells #[.int .i64 a0_0, .slice A0_1 l0_1.length c0_1, .slice A0_2 l0_2.length c0_2, .slice A0_3 l0_3.length c0_3] 27 (0, 0))) := ⟨by rw [← hq_]; exact (bz_ BK178.out)⟩; have n4_ : Aside0 (wr.heap[gb179]? = some (.cells #[.int .i64 a1_0, .slice A1_1 l1_1.length c1_1, .slice A1_2 l1_2.length c1_2, .slice A1_3 l1_3.length c1_3] 27 (0, 0))) := ⟨by rw [← hq_]; exact (bz_ BK179.out)⟩; have n5_ : Aside0 (wr.heap[gb180]? = some (.cells #[.int .i64 0, .slice none 0 0, .slice none 0 0, .slice none 0 0] 27 (0, 0))) := ⟨by rw [← hq_]; exact (bz_ BK180.out)⟩; have n6_ : Aside0 (wr.heap[gb182]? = some (.cells #[.int .i64 (wrap64 (a0_0 * a1_0)), u183001, u183002, u183003] 27 (0, 0))) := ⟨by rw [← hq_]; exact (bz_ BK182.out)⟩; have n7_ : Aside0 (Below w.heap.size w wr) := ⟨by rw [← hq_]; exact (bw4_ HB.out GE178.out GE179.out GE180.out GE182.out)⟩; clear HO_183001 HO_183002 HO_183003 BK178 BK179 BK180 BK182 HB hq_; have HO_183001 := n0_; have HO_183002 := n1_; have HO_183003 := n2_; have BK178 := n3_; have BK179 := n4_; have BK180 := n5_; have BK182 := n6_; have HB := n7_; clear n0_ n1_ n2_ n3_ n4_ n5_ n6_ n7_))) | ((with_reducible refine gate_callee (f := 38) rfl ?_); refine goesL_ (some 49) rfl rfl Try.func38 (by kernel_rfl) rfl #[.int .i64 a1_0, .int .i64 x9_2] rfl la_ ?_; (with_reducible refine (spec_l1Second.calls a1_0 x9_2 t186 _ A30.out).mono ?_); rintro e w' ⟨rfl, ⟨nd, rfl⟩⟩; refine ⟨_, rfl, ?_⟩; (try (rw [drewN_self wr]; generalize hq_ : World.drewN wr _ = wr; have n0_ : Aside0 (Kd.R (Kd.int .i64) 3 wr w.heap.size (fun k_ => some k_ ≠ (u183002 : Value).ownBlock) u183001 x183001_2) := ⟨by rw [← hq_]; exact (ro_ HO_183001.out)⟩; have n1_ : Aside0 (Kd.R (Kd.int .i64) 3 wr w.heap.size (fun k_ => some k_ ≠ (u183001 : Value).ownBlock) u183002 x183002_2) := ⟨by rw [← hq_]; exact (ro_ HO_183002.out)⟩; have n2_ : Aside0 (Kd.R Kd.bool 4 wr w.heap.size (fun _ => True) u183003 x183003_2) := ⟨by rw [← hq_]; exact (ro_ HO_183003.out)⟩; have n3_ : Aside0 (wr.heap[gb178]? = some (.cells #[.int .i64 a0_0, .slice A0_1 l0_1.length c0_1, .slice A0_2 l0_2.length c0_2, .slice A0_3 l0_3.length c0_3] 27 (0, 0))) := ⟨by rw [← hq_]; exact (bz_ BK178.out)⟩; have n4_ : Aside0 (wr.heap[gb179]? = some (.cells #[.int .i64 a1_0, .slice A1_1 l1_1.length c1_1, .slice A1_2 l1_2.length c1_2, .slice A1_3 l1_3.length c1_3] 27 (0, 0))) := ⟨by rw [← hq_]; exact (bz_ BK179.out)⟩; have n5_ : Aside0 (wr.heap[gb180]? = some (.cells #[.int .i64 0, .slice none 0 0, .slice none 0 0, .slice none 0 0] 27 (0, 0))) := ⟨by rw [← hq_]; exact (bz_ BK180.out)⟩; have n6_ : Aside0 (wr.heap[gb182]? = some (.cells #[.int .i64 (wrap64 (a0_0 * a1_0)), u183001, u183002, u183003] 27 (0, 0))) := ⟨by rw [← hq_]; exact (bz_ BK182.out)⟩; have n7_ : Aside0 (Below w.heap.size w wr) := ⟨by rw [← hq_]; exact (bw4_ HB.out GE178.out GE179.out GE180.out GE182.out)⟩; clear HO_183001 HO_183002 HO_183003 BK178 BK179 BK180 BK182 HB hq_; have HO_183001 := n0_; have HO_183002 := n1_; have HO_183003 := n2_; have BK178 := n3_; have BK179 := n4_; have BK180 := n5_; have BK182 := n6_; have HB := n7_; clear n0_ n1_ n2_ n3_ n4_ n5_ n6_ n7_))))
            replace HO_183001 := sd_ (Kd.R_drew HO_183001.out)
            replace HO_183002 := sd_ (Kd.R_drew HO_183002.out)
            replace HO_183003 := sd_ (Kd.R_drew HO_183003.out)
            replace BK178 := sd_ (blk_drew BK178.out)
            replace BK179 := sd_ (blk_drew BK179.out)
            replace BK180 := sd_ (blk_drew BK180.out)
            replace BK182 := sd_ (blk_drew BK182.out)
            replace HB := sd_ (below_drew1 HB.out)
            refine start_ (n := 16) (S := fun w' => w'.cell? ⟨gb182, 0, none⟩ = some (.int .i64 (wrap64 (a0_0 * a1_0))) ∧ w'.cell? ⟨gb182, 1, none⟩ = some (u183001) ∧ w'.cell? ⟨gb182, 2, none⟩ = some (u183002) ∧ w'.cell? ⟨gb182, 3, none⟩ = some (u183003) ∧ w'.cell? ⟨gb178, 0, none⟩ = some (.int .i64 a0_0) ∧ w'.cell? ⟨gb178, 1, none⟩ = some (.slice A0_1 l0_1.length c0_1) ∧ w'.cell? ⟨gb178, 2, none⟩ = some (.slice A0_2 l0_2.length c0_2) ∧ w'.cell? ⟨gb178, 3, none⟩ = some (.slice A0_3 l0_3.length c0_3) ∧ w'.cell? ⟨gb179, 0, none⟩ = some (.int .i64 a1_0) ∧ w'.cell? ⟨gb179, 1, none⟩ = some (.slice A1_1 l1_1.length c1_1) ∧ w'.cell? ⟨gb179, 2, none⟩ = some (.slice A1_2 l1_2.length c1_2) ∧ w'.cell? ⟨gb179, 3, none⟩ = some (.slice A1_3 l1_3.length c1_3)) (ds := [15]) #[false, false, false, false, false, false, false, false, false, false, false, false, false, false, false, false] (by kernel_rfl) rfl rfl ⟨(blk_cell BK182.out 0).trans rfl, (blk_cell BK182.out 1).trans rfl, (blk_cell BK182.out 2).trans rfl, (blk_cell BK182.out 3).trans rfl, (blk_cell BK178.out 0).trans rfl, (blk_cell BK178.out 1).trans rfl, (blk_cell BK178.out 2).trans rfl, (blk_cell BK178.out 3).trans rfl, (blk_cell BK179.out 0).trans rfl, (blk_cell BK179.out 1).trans rfl, (blk_cell BK179.out 2).trans rfl, (blk_cell BK179.out 3).trans rfl⟩ (fun hHeld => ?_); refine with_tabW spec_ProductSystem.tab15 spec_ProductSystem.bits15 (fun HT_ HW_ => ?_)
            generalize wr.drew = w47 at HO_183001 HO_183002 HO_183003 BK178 BK179 BK180 BK182 HB hHeld ⊢
            refine pure_ (i := 0) (N := some 50) (v := ?_) (a' := ?_) #[true, false, false, false, false, false, false, false, false, false, false, false, false, false, false, false] rfl rfl (any_of HT_.out (by kernel_rfl)) (fun _ _ _ h => h) (Or.inl ⟨by rfl, ?_⟩) ?_ ?_
            rotate_left
            ·intro w'
             go_simp
             with_reducible rfl
            rotate_left
            ·simp only [Act.put, List.setIfInBounds_toArray, List.set_cons_zero, List.set_cons_succ, i64_w, i32_w]
             rfl
            refine pure_ (i := 2) (N := some 52) (v := ?_) (a' := ?_) #[true, false, true, false, false, false, false, false, false, false, false, false, false, false, false, false] rfl rfl (any_of HT_.out (by kernel_rfl)) (fun _ _ _ h => h) (Or.inl ⟨by rfl, ?_⟩) ?_ ?_
            rotate_left
            ·intro w'
             go_simp
             with_reducible rfl
            rotate_left
            ·simp only [Act.put, List.setIfInBounds_toArray, List.set_cons_zero, List.set_cons_succ, i64_w, i32_w]
             rfl
            refine pure_ (i := 4) (N := some 54) (v := ?_) (a' := ?_) #[true, false, true, false, true, false, false, false, false, false, false, false, false, false, false, false] rfl rfl (any_of HT_.out (by kernel_rfl)) (fun _ _ _ h => h) (Or.inl ⟨by rfl, ?_⟩) ?_ ?_
            rotate_left
            ·intro w'
             go_simp
             with_reducible rfl
            rotate_left
            ·simp only [Act.put, List.setIfInBounds_toArray, List.set_cons_zero, List.set_cons_succ, i64_w, i32_w]
             rfl
            refine pure_ (i := 5) (N := some 55) (v := ?_) (a' := ?_) #[true, false, true, false, true, true, false, false, false, false, false, false, false, false, false, false] rfl rfl (any_of HT_.out (by kernel_rfl)) (fun _ _ _ h => h) (Or.inl ⟨by rfl, ?_⟩) ?_ ?_
            rotate_left
            ·intro w'
             go_simp
             with_reducible rfl
            rotate_left
            ·simp only [Act.put, List.setIfInBounds_toArray, List.set_cons_zero, List.set_cons_succ, i64_w, i32_w]
             rfl
            refine pure_ (i := 8) (N := some 58) (v := ?_) (a' := ?_) #[true, false, true, false, true, true, false, false, true, false, false, false, false, false, false, false] rfl rfl (any_of HT_.out (by kernel_rfl)) (fun _ _ _ h => h) (Or.inl ⟨by rfl, ?_⟩) ?_ ?_
            rotate_left
            ·intro w'
             go_simp
             with_reducible rfl
            rotate_left
            ·simp only [Act.put, List.setIfInBounds_toArray, List.set_cons_zero, List.set_cons_succ, i64_w, i32_w]
             rfl
            refine pure_ (i := 9) (N := some 59) (v := ?_) (a' := ?_) #[true, false, true, false, true, true, false, false, true, true, false, false, false, false, false, false] rfl rfl (any_of HT_.out (by kernel_rfl)) (fun _ _ _ h => h) (Or.inl ⟨by rfl, ?_⟩) ?_ ?_
            rotate_left
            ·intro w'
             go_simp
             with_reducible rfl
            rotate_left
            ·simp only [Act.put, List.setIfInBounds_toArray, List.set_cons_zero, List.set_cons_succ, i64_w, i32_w]
             rfl
            refine take_ (i := 1) (N := some 51) (v := ?_) (a' := ?_) #[true, true, true, false, true, true, false, false, true, true, false, false, false, false, false, false] rfl rfl (take_ofW HT_.out HW_.out (by kernel_rfl)) (fun _ _ _ h => h) (Or.inl ⟨by rfl, ?_⟩) hHeld ?_ ?_
            rotate_left
            ·rintro w' ⟨s0, s1, s2, s3, s4, s5, s6, s7, s8, s9, s10, s11⟩
             go_simp
             with_reducible rfl
            rotate_left
            ·simp only [Act.put, List.setIfInBounds_toArray, List.set_cons_zero, List.set_cons_succ, i64_w, i32_w]
             rfl
            refine take_ (i := 3) (N := some 53) (v := ?_) (a' := ?_) #[true, true, true, true, true, true, false, false, true, true, false, false, false, false, false, false] rfl rfl (take_ofW HT_.out HW_.out (by kernel_rfl)) (fun _ _ _ h => h) (Or.inl ⟨by rfl, ?_⟩) hHeld ?_ ?_
            rotate_left
            ·rintro w' ⟨s0, s1, s2, s3, s4, s5, s6, s7, s8, s9, s10, s11⟩
             go_simp
             with_reducible rfl
            rotate_left
            ·simp only [Act.put, List.setIfInBounds_toArray, List.set_cons_zero, List.set_cons_succ, i64_w, i32_w]
             rfl
            refine take_ (i := 7) (N := some 57) (v := ?_) (a' := ?_) #[true, true, true, true, true, true, false, true, true, true, false, false, false, false, false, false] rfl rfl (take_ofW HT_.out HW_.out (by kernel_rfl)) (fun _ _ _ h => h) (Or.inl ⟨by rfl, ?_⟩) hHeld ?_ ?_
            rotate_left
            ·rintro w' ⟨s0, s1, s2, s3, s4, s5, s6, s7, s8, s9, s10, s11⟩
             go_simp
             with_reducible rfl
            rotate_left
            ·simp only [Act.put, List.setIfInBounds_toArray, List.set_cons_zero, List.set_cons_succ, i64_w, i32_w]
             rfl
            refine one_ (i := 6) (N := some 56) #[true, true, true, true, true, true, true, true, true, true, false, false, false, false, false, false] rfl rfl (one_of HT_.out (by kernel_rfl)) (by decide) (fun K hK => ?_)
            refine goes_ Try.func40 (by kernel_rfl) rfl #[.agg #[.int .i64 a0_0, .slice A0_1 l0_1.length c0_1, .slice A0_2 l0_2.length c0_2, .slice A0_3 l0_3.length c0_3], .int .i64 t183, .int .i64 t185] (by rfl) rfl rfl la_ ?_
            with_reducible refine (spec_l1Add.calls a0_0 _ _ l0_1 _ _ l0_2 _ _ l0_3 t183 t185 t187 _ ?side1 ?side2 ?side3 ?side4 ?side5 ?side6 A31.out).mono ?_
            (case side1 => exact kc_ HR0_1.out HB.out)
            (case side2 => exact HC0_1.out)
            (case side3 => exact kc_ HR0_2.out HB.out)
            (case side4 => exact HC0_2.out)
            (case side5 => exact kc_ HR0_3.out HB.out)
            (case side6 => exact HC0_3.out)
            rintro e w48 ⟨rfl, hb⟩
            refine ⟨_, rfl, ?_⟩
            replace HO_183001 := sd_ (Kd.R_below (ro_ HO_183001.out) hb)
            replace HO_183002 := sd_ (Kd.R_below (ro_ HO_183002.out) hb)
            replace HO_183003 := sd_ (Kd.R_below (ro_ HO_183003.out) hb)
            replace BK178 := sd_ (bb_ BK178.out hb)
            replace BK179 := sd_ (bb_ BK179.out hb)
            replace BK180 := sd_ (bb_ BK180.out hb)
            replace BK182 := sd_ (bb_ BK182.out hb)
            replace HB := sd_ (below_step (bw4_ HB.out GE178.out GE179.out GE180.out GE182.out) hb)
            (try clear hb)
            (try clear hb2)
            (try clear hk)
            (try clear hi)
            refine hK.out _ _ ⟨(blk_cell BK182.out 0).trans rfl, (blk_cell BK182.out 1).trans rfl, (blk_cell BK182.out 2).trans rfl, (blk_cell BK182.out 3).trans rfl, (blk_cell BK178.out 0).trans rfl, (blk_cell BK178.out 1).trans rfl, (blk_cell BK178.out 2).trans rfl, (blk_cell BK178.out 3).trans rfl, (blk_cell BK179.out 0).trans rfl, (blk_cell BK179.out 1).trans rfl, (blk_cell BK179.out 2).trans rfl, (blk_cell BK179.out 3).trans rfl⟩ (fun hHeld => ?_)
            clear hK K
            refine norm_ (a' := ?_) ?_ ?_
            rotate_left
            ·show Act.put _ (some 56) _ = _
             simp only [Act.put, List.setIfInBounds_toArray, List.set_cons_zero, List.set_cons_succ, i64_w, i32_w]
             rfl
            refine one_ (i := 10) (N := some 60) #[true, true, true, true, true, true, true, true, true, true, true, false, false, false, false, false] rfl rfl (one_of HT_.out (by kernel_rfl)) (by decide) (fun K hK => ?_)
            refine goes_ Try.func40 (by kernel_rfl) rfl #[.agg #[.int .i64 a1_0, .slice A1_1 l1_1.length c1_1, .slice A1_2 l1_2.length c1_2, .slice A1_3 l1_3.length c1_3], .int .i64 t184, .int .i64 t186] (by rfl) rfl rfl la_ ?_
            with_reducible refine (spec_l1Add.calls a1_0 _ _ l1_1 _ _ l1_2 _ _ l1_3 t184 t186 t188 _ ?side1 ?side2 ?side3 ?side4 ?side5 ?side6 A32.out).mono ?_
            (case side1 => exact kc_ HR1_1.out HB.out)
            (case side2 => exact HC1_1.out)
            (case side3 => exact kc_ HR1_2.out HB.out)
            (case side4 => exact HC1_2.out)
            (case side5 => exact kc_ HR1_3.out HB.out)
            (case side6 => exact HC1_3.out)
            rintro e w49 ⟨rfl, hb⟩
            refine ⟨_, rfl, ?_⟩
            replace HO_183001 := sd_ (Kd.R_below (ro_ HO_183001.out) hb)
            replace HO_183002 := sd_ (Kd.R_below (ro_ HO_183002.out) hb)
            replace HO_183003 := sd_ (Kd.R_below (ro_ HO_183003.out) hb)
            replace BK178 := sd_ (bb_ BK178.out hb)
            replace BK179 := sd_ (bb_ BK179.out hb)
            replace BK180 := sd_ (bb_ BK180.out hb)
            replace BK182 := sd_ (bb_ BK182.out hb)
            replace HB := sd_ (below_step (bw4_ HB.out GE178.out GE179.out GE180.out GE182.out) hb)
            (try clear hb)
            (try clear hb2)
            (try clear hk)
            (try clear hi)
            refine hK.out _ _ ⟨(blk_cell BK182.out 0).trans rfl, (blk_cell BK182.out 1).trans rfl, (blk_cell BK182.out 2).trans rfl, (blk_cell BK182.out 3).trans rfl, (blk_cell BK178.out 0).trans rfl, (blk_cell BK178.out 1).trans rfl, (blk_cell BK178.out 2).trans rfl, (blk_cell BK178.out 3).trans rfl, (blk_cell BK179.out 0).trans rfl, (blk_cell BK179.out 1).trans rfl, (blk_cell BK179.out 2).trans rfl, (blk_cell BK179.out 3).trans rfl⟩ (fun hHeld => ?_)
            clear hK K
            refine norm_ (a' := ?_) ?_ ?_
            rotate_left
            ·show Act.put _ (some 60) _ = _
             simp only [Act.put, List.setIfInBounds_toArray, List.set_cons_zero, List.set_cons_succ, i64_w, i32_w]
             rfl
            refine one_ (i := 11) (N := some 61) #[true, true, true, true, true, true, true, true, true, true, true, true, false, false, false, false] rfl rfl (one_of HT_.out (by kernel_rfl)) (by decide) (fun K hK => ?_)
            refine goes_ Try.func39 (by kernel_rfl) rfl #[.int .i64 a1_0, .int .i64 t187, .int .i64 t188] (by rfl) rfl rfl la_ ?_
            with_reducible refine (spec_l1Pair.calls a1_0 t187 t188 t189 _ A33.out).mono ?_
            rintro e w' ⟨rfl, ⟨nd, rfl⟩⟩
            refine ⟨_, rfl, ?_⟩
            refine hK.out _ _ ⟨(blk_cell BK182.out 0).trans rfl, (blk_cell BK182.out 1).trans rfl, (blk_cell BK182.out 2).trans rfl, (blk_cell BK182.out 3).trans rfl, (blk_cell BK178.out 0).trans rfl, (blk_cell BK178.out 1).trans rfl, (blk_cell BK178.out 2).trans rfl, (blk_cell BK178.out 3).trans rfl, (blk_cell BK179.out 0).trans rfl, (blk_cell BK179.out 1).trans rfl, (blk_cell BK179.out 2).trans rfl, (blk_cell BK179.out 3).trans rfl⟩ (fun hHeld => ?_)
            clear hK K
            refine norm_ (a' := ?_) ?_ ?_
            rotate_left
            ·show Act.put _ (some 61) _ = _
             simp only [Act.put, List.setIfInBounds_toArray, List.set_cons_zero, List.set_cons_succ, i64_w, i32_w]
             rfl
            refine one_ (i := 12) (N := some 62) #[true, true, true, true, true, true, true, true, true, true, true, true, true, false, false, false] rfl rfl (one_of HT_.out (by kernel_rfl)) (by decide) (fun K hK => ?_)
            refine value_ (w1 := ?_) (v := ?_) (by rfl) rfl ?_ ?_
            rotate_left 2
            ·go_simp
             constructor
             ·rfl
             rfl
            refine hK.out _ _ ⟨(blk_cell (blk_alloc BK182.out _) 0).trans rfl, (blk_cell (blk_alloc BK182.out _) 1).trans rfl, (blk_cell (blk_alloc BK182.out _) 2).trans rfl, (blk_cell (blk_alloc BK182.out _) 3).trans rfl, (blk_cell (blk_alloc BK178.out _) 0).trans rfl, (blk_cell (blk_alloc BK178.out _) 1).trans rfl, (blk_cell (blk_alloc BK178.out _) 2).trans rfl, (blk_cell (blk_alloc BK178.out _) 3).trans rfl, (blk_cell (blk_alloc BK179.out _) 0).trans rfl, (blk_cell (blk_alloc BK179.out _) 1).trans rfl, (blk_cell (blk_alloc BK179.out _) 2).trans rfl, (blk_cell (blk_alloc BK179.out _) 3).trans rfl⟩ (fun hHeld => ?_)
            clear hK K
            refine norm_ (a' := ?_) ?_ ?_
            rotate_left
            ·show Act.put _ (some 62) _ = _
             simp only [Act.put, List.setIfInBounds_toArray, List.set_cons_zero, List.set_cons_succ, i64_w, i32_w]
             rfl
            refine one_ (i := 13) (N := some 63) #[true, true, true, true, true, true, true, true, true, true, true, true, true, true, false, false] rfl rfl (one_of HT_.out (by kernel_rfl)) (by decide) (fun K hK => ?_)
            refine Kd.R_append_step (Kd.int .i64) (w0 := w) w.heap.size (by rfl) (.tmp 51) (.tmp 62) 22 3 (.int .i64 0) 8 rfl Try.underlying22 info3 rfl (by decide) (by omega) u183001 x183001_2 t189 [.int .i64 t189] (fun k_ => some k_ ≠ (u183002 : Value).ownBlock) (fun _ => False) rfl rfl ?aP (fun _ hk => hk.elim) ?aF ?aO ?aB ?aS ?aL ?_
            (case aP => exact rfl)
            (case aB => exact (bw4_ HB.out GE178.out GE179.out GE180.out GE182.out))
            (case aF => exact (fun k_ hk => Kd.fresh' (Kd.R_lt (ro_ HO_183002.out)) k_ hk))
            (case aO => exact (ro_ HO_183001.out))
            (case aS => exact (below_size (bw4_ HB.out GE178.out GE179.out GE180.out GE182.out)))
            (case aL => have := LMc34.out; omega)
            intro v191 w50 ho hb hg hat
            rw [← Ny190.out] at ho
            have n0_ := sd_ (Kd.R_after (ok := (fun _ => True)) (by (with_reducible repeat (first | apply Kd.R_alloc | apply Kd.R_drewN | apply Kd.R_drew)); exact Kd.R_mono HO_183002.out (fun _ hk => ⟨trivial, hk⟩)) hg hat)
            have n1_ := sd_ (Kd.R_over' (ro_ HO_183003.out) (Kd.R_typed (ro_ HO_183001.out)) (by decide) hg)
            have n2_ := sd_ (blk_grown (g := gb178) (o := .cells #[.int .i64 a0_0, .slice A0_1 l0_1.length c0_1, .slice A0_2 l0_2.length c0_2, .slice A0_3 l0_3.length c0_3] 27 (0, 0)) (bz_ BK178.out) hg (Kd.R_ne HO_183001.out BK178.out (by decide)))
            have n3_ := sd_ (blk_grown (g := gb179) (o := .cells #[.int .i64 a1_0, .slice A1_1 l1_1.length c1_1, .slice A1_2 l1_2.length c1_2, .slice A1_3 l1_3.length c1_3] 27 (0, 0)) (bz_ BK179.out) hg (Kd.R_ne HO_183001.out BK179.out (by decide)))
            have n4_ := sd_ (blk_grown (g := gb180) (o := .cells #[.int .i64 0, .slice none 0 0, .slice none 0 0, .slice none 0 0] 27 (0, 0)) (bz_ BK180.out) hg (Kd.R_ne HO_183001.out BK180.out (by decide)))
            have n5_ := sd_ (blk_grown (g := gb182) (o := .cells #[.int .i64 (wrap64 (a0_0 * a1_0)), u183001, u183002, u183003] 27 (0, 0)) (bz_ BK182.out) hg (Kd.R_ne HO_183001.out BK182.out (by decide)))
            have n6_ := sd_ (hb)
            have n7_ := sd_ (ho)
            clear HO_183002
            clear HO_183003
            clear BK178
            clear BK179
            clear BK180
            clear BK182
            clear HB
            clear HO_183001
            have HO_183002 := n0_
            have HO_183003 := n1_
            have BK178 := n2_
            have BK179 := n3_
            have BK180 := n4_
            have BK182 := n5_
            have HB := n6_
            have HO192 := n7_
            clear n0_ n1_ n2_ n3_ n4_ n5_ n6_ n7_
            clear ho hb hg hat
            obtain ⟨Ao51, co51, eo51⟩ := Kd.R_slice HO192.out
            (first | subst eo51 | (injection eo51 with f1_ f2_ f3_; have f4_ := f1_.symm; have f5_ := f3_.symm; clear f1_ f2_ f3_; subst f4_; subst f5_))
            refine hK.out _ _ ⟨(blk_cell BK182.out 0).trans rfl, (blk_cell BK182.out 1).trans rfl, (blk_cell BK182.out 2).trans rfl, (blk_cell BK182.out 3).trans rfl, (blk_cell BK178.out 0).trans rfl, (blk_cell BK178.out 1).trans rfl, (blk_cell BK178.out 2).trans rfl, (blk_cell BK178.out 3).trans rfl, (blk_cell BK179.out 0).trans rfl, (blk_cell BK179.out 1).trans rfl, (blk_cell BK179.out 2).trans rfl, (blk_cell BK179.out 3).trans rfl⟩ (fun hHeld => ?_)
            clear hK K
            refine norm_ (a' := ?_) ?_ ?_
            rotate_left
            ·show Act.put _ (some 63) _ = _
             simp only [Act.put, List.setIfInBounds_toArray, List.set_cons_zero, List.set_cons_succ, i64_w, i32_w]
             rfl
            refine pure_ (i := 14) (N := some 64) (v := ?_) (a' := ?_) #[true, true, true, true, true, true, true, true, true, true, true, true, true, true, true, false] rfl rfl (any_of HT_.out (by kernel_rfl)) (fun _ _ _ h => h) (Or.inl ⟨by rfl, ?_⟩) ?_ ?_
            rotate_left
            ·intro w'
             go_simp
             with_reducible rfl
            rotate_left
            ·simp only [Act.put, List.setIfInBounds_toArray, List.set_cons_zero, List.set_cons_succ, i64_w, i32_w]
             rfl
            refine last_ (i := 15) (N := none) #[true, true, true, true, true, true, true, true, true, true, true, true, true, true, true, true] rfl rfl (one_of HT_.out (by kernel_rfl)) (by decide) (fun K hK => ?_)
            have hs52 : w50.cell? ⟨gb182, 1, none⟩ = some (u183001) := (blk_cell BK182.out 1).trans rfl
            have hfs52 := blk_frozen BK182.out 1
            have hns52_0 := NB178_182.out
            have hns52_1 := NB179_182.out
            have hns52_2 := NB180_182.out
            have hms52_0 := NB182_178.out
            have hms52_1 := NB182_179.out
            have hms52_2 := NB182_180.out
            refine skip_ (w1 := ?_) (by rfl) rfl ?_ ?_
            rotate_left
            ·go_simp
             rfl
            refine hK.out _ _ ?_
            clear hK K
            refine done_ (done_of HT_.out (by kernel_rfl)) ?_
            try go_wp2
            have n0_ : Aside0 (Kd.R (Kd.int .i64) 3 (w50.setCell ⟨gb182, 1, none⟩ (.slice Ao51 y190.length co51)) w.heap.size (fun k_ => some k_ ≠ (.slice Ao51 y190.length co51 : Value).ownBlock) u183002 x183002_2) := ⟨by (with_reducible repeat (first | apply Kd.R_alloc | apply Kd.R_drewN | apply Kd.R_drew)); exact Kd.R_mono (Kd.R_far (p := ⟨gb182, 1, none⟩) (Kd.R_types HO_183002.out BK182.out (by decide)) (fun _ hk => hk.2) (.slice Ao51 y190.length co51)) (fun _ hk => hk.1.2)⟩
            have n1_ : Aside0 (Kd.R Kd.bool 4 (w50.setCell ⟨gb182, 1, none⟩ (.slice Ao51 y190.length co51)) w.heap.size (fun _ => True) u183003 x183003_2) := ⟨by (with_reducible repeat (first | apply Kd.R_alloc | apply Kd.R_drewN | apply Kd.R_drew)); exact Kd.R_mono (Kd.R_far (p := ⟨gb182, 1, none⟩) (Kd.R_types HO_183003.out BK182.out (by decide)) (fun _ hk => hk.2) (.slice Ao51 y190.length co51)) (fun _ hk => trivial)⟩
            have n2_ : Aside0 (Kd.R (Kd.int .i64) 3 (w50.setCell ⟨gb182, 1, none⟩ (.slice Ao51 y190.length co51)) w.heap.size (fun k_ => some k_ ≠ (u183002 : Value).ownBlock) (.slice Ao51 y190.length co51) y190) := ⟨by (with_reducible repeat (first | apply Kd.R_alloc | apply Kd.R_drewN | apply Kd.R_drew)); exact Kd.R_mono (Kd.R_far (p := ⟨gb182, 1, none⟩) (Kd.R_types HO192.out BK182.out (by decide)) (fun _ hk => hk.2) (.slice Ao51 y190.length co51)) (fun _ hk => hk.1)⟩
            have n3_ : Aside0 ((w50.setCell ⟨gb182, 1, none⟩ (.slice Ao51 y190.length co51)).heap[gb178]? = some (.cells #[.int .i64 a0_0, .slice A0_1 l0_1.length c0_1, .slice A0_2 l0_2.length c0_2, .slice A0_3 l0_3.length c0_3] 27 (0, 0))) := ⟨by (with_reducible repeat (first | refine blk_drewN ?_ _ | refine blk_drew ?_ | refine blk_alloc ?_ _)); refine blk_far ?_ NB178_182.out _; (with_reducible repeat (first | refine blk_drewN ?_ _ | refine blk_drew ?_ | refine blk_alloc ?_ _)); exact BK178.out⟩
            have n4_ : Aside0 ((w50.setCell ⟨gb182, 1, none⟩ (.slice Ao51 y190.length co51)).heap[gb179]? = some (.cells #[.int .i64 a1_0, .slice A1_1 l1_1.length c1_1, .slice A1_2 l1_2.length c1_2, .slice A1_3 l1_3.length c1_3] 27 (0, 0))) := ⟨by (with_reducible repeat (first | refine blk_drewN ?_ _ | refine blk_drew ?_ | refine blk_alloc ?_ _)); refine blk_far ?_ NB179_182.out _; (with_reducible repeat (first | refine blk_drewN ?_ _ | refine blk_drew ?_ | refine blk_alloc ?_ _)); exact BK179.out⟩
            have n5_ : Aside0 ((w50.setCell ⟨gb182, 1, none⟩ (.slice Ao51 y190.length co51)).heap[gb180]? = some (.cells #[.int .i64 0, .slice none 0 0, .slice none 0 0, .slice none 0 0] 27 (0, 0))) := ⟨by (with_reducible repeat (first | refine blk_drewN ?_ _ | refine blk_drew ?_ | refine blk_alloc ?_ _)); refine blk_far ?_ NB180_182.out _; (with_reducible repeat (first | refine blk_drewN ?_ _ | refine blk_drew ?_ | refine blk_alloc ?_ _)); exact BK180.out⟩
            have n6_ : Aside0 ((w50.setCell ⟨gb182, 1, none⟩ (.slice Ao51 y190.length co51)).heap[gb182]? = some (.cells #[.int .i64 (wrap64 (a0_0 * a1_0)), .slice Ao51 y190.length co51, u183002, u183003] 27 (0, 0))) := ⟨by (with_reducible repeat (first | refine blk_drewN ?_ _ | refine blk_drew ?_ | refine blk_alloc ?_ _)); refine blk_put (cs := #[.int .i64 (wrap64 (a0_0 * a1_0)), u183001, u183002, u183003]) ?_ 1 _ rfl; exact bz_ BK182.out⟩
            have n7_ : Aside0 (Below w.heap.size w (w50.setCell ⟨gb182, 1, none⟩ (.slice Ao51 y190.length co51))) := ⟨bw4_ HB.out GE178.out GE179.out GE180.out GE182.out⟩
            (try clear HO_183002)
            (try clear HO_183003)
            (try clear HO192)
            (try clear BK178)
            (try clear BK179)
            (try clear BK180)
            (try clear BK182)
            (try clear HB)
            generalize (w50.setCell ⟨gb182, 1, none⟩ (.slice Ao51 y190.length co51)) = w53 at n0_ n1_ n2_ n3_ n4_ n5_ n6_ n7_ ⊢
            have HO_183002 := n0_
            have HO_183003 := n1_
            have HO192 := n2_
            have BK178 := n3_
            have BK179 := n4_
            have BK180 := n5_
            have BK182 := n6_
            have HB := n7_
            clear n0_ n1_ n2_ n3_ n4_ n5_ n6_ n7_
            replace HO_183002 := sd_ (Kd.R_drew HO_183002.out)
            replace HO_183003 := sd_ (Kd.R_drew HO_183003.out)
            replace HO192 := sd_ (Kd.R_drew HO192.out)
            replace BK178 := sd_ (blk_drew BK178.out)
            replace BK179 := sd_ (blk_drew BK179.out)
            replace BK180 := sd_ (blk_drew BK180.out)
            replace BK182 := sd_ (blk_drew BK182.out)
            replace HB := sd_ (below_drew1 HB.out)
            refine start_ (n := 16) (S := fun w' => w'.cell? ⟨gb182, 0, none⟩ = some (.int .i64 (wrap64 (a0_0 * a1_0))) ∧ w'.cell? ⟨gb182, 1, none⟩ = some (.slice Ao51 y190.length co51) ∧ w'.cell? ⟨gb182, 2, none⟩ = some (u183002) ∧ w'.cell? ⟨gb182, 3, none⟩ = some (u183003) ∧ w'.cell? ⟨gb178, 0, none⟩ = some (.int .i64 a0_0) ∧ w'.cell? ⟨gb178, 1, none⟩ = some (.slice A0_1 l0_1.length c0_1) ∧ w'.cell? ⟨gb178, 2, none⟩ = some (.slice A0_2 l0_2.length c0_2) ∧ w'.cell? ⟨gb178, 3, none⟩ = some (.slice A0_3 l0_3.length c0_3) ∧ w'.cell? ⟨gb179, 0, none⟩ = some (.int .i64 a1_0) ∧ w'.cell? ⟨gb179, 1, none⟩ = some (.slice A1_1 l1_1.length c1_1) ∧ w'.cell? ⟨gb179, 2, none⟩ = some (.slice A1_2 l1_2.length c1_2) ∧ w'.cell? ⟨gb179, 3, none⟩ = some (.slice A1_3 l1_3.length c1_3)) (ds := [15]) #[false, false, false, false, false, false, false, false, false, false, false, false, false, false, false, false] (by kernel_rfl) rfl rfl ⟨(blk_cell BK182.out 0).trans rfl, (blk_cell BK182.out 1).trans rfl, (blk_cell BK182.out 2).trans rfl, (blk_cell BK182.out 3).trans rfl, (blk_cell BK178.out 0).trans rfl, (blk_cell BK178.out 1).trans rfl, (blk_cell BK178.out 2).trans rfl, (blk_cell BK178.out 3).trans rfl, (blk_cell BK179.out 0).trans rfl, (blk_cell BK179.out 1).trans rfl, (blk_cell BK179.out 2).trans rfl, (blk_cell BK179.out 3).trans rfl⟩ (fun hHeld => ?_); refine with_tabW spec_ProductSystem.tab16 spec_ProductSystem.bits16 (fun HT_ HW_ => ?_)
            generalize w53.drew = w54 at HO_183002 HO_183003 HO192 BK178 BK179 BK180 BK182 HB hHeld ⊢
            refine pure_ (i := 0) (N := some 65) (v := ?_) (a' := ?_) #[true, false, false, false, false, false, false, false, false, false, false, false, false, false, false, false] rfl rfl (any_of HT_.out (by kernel_rfl)) (fun _ _ _ h => h) (Or.inl ⟨by rfl, ?_⟩) ?_ ?_
            rotate_left
            ·intro w'
             go_simp
             with_reducible rfl
            rotate_left
            ·simp only [Act.put, List.setIfInBounds_toArray, List.set_cons_zero, List.set_cons_succ, i64_w, i32_w]
             rfl
            refine pure_ (i := 2) (N := some 67) (v := ?_) (a' := ?_) #[true, false, true, false, false, false, false, false, false, false, false, false, false, false, false, false] rfl rfl (any_of HT_.out (by kernel_rfl)) (fun _ _ _ h => h) (Or.inl ⟨by rfl, ?_⟩) ?_ ?_
            rotate_left
            ·intro w'
             go_simp
             with_reducible rfl
            rotate_left
            ·simp only [Act.put, List.setIfInBounds_toArray, List.set_cons_zero, List.set_cons_succ, i64_w, i32_w]
             rfl
            refine pure_ (i := 4) (N := some 69) (v := ?_) (a' := ?_) #[true, false, true, false, true, false, false, false, false, false, false, false, false, false, false, false] rfl rfl (any_of HT_.out (by kernel_rfl)) (fun _ _ _ h => h) (Or.inl ⟨by rfl, ?_⟩) ?_ ?_
            rotate_left
            ·intro w'
             go_simp
             with_reducible rfl
            rotate_left
            ·simp only [Act.put, List.setIfInBounds_toArray, List.set_cons_zero, List.set_cons_succ, i64_w, i32_w]
             rfl
            refine pure_ (i := 5) (N := some 70) (v := ?_) (a' := ?_) #[true, false, true, false, true, true, false, false, false, false, false, false, false, false, false, false] rfl rfl (any_of HT_.out (by kernel_rfl)) (fun _ _ _ h => h) (Or.inl ⟨by rfl, ?_⟩) ?_ ?_
            rotate_left
            ·intro w'
             go_simp
             with_reducible rfl
            rotate_left
            ·simp only [Act.put, List.setIfInBounds_toArray, List.set_cons_zero, List.set_cons_succ, i64_w, i32_w]
             rfl
            refine pure_ (i := 8) (N := some 73) (v := ?_) (a' := ?_) #[true, false, true, false, true, true, false, false, true, false, false, false, false, false, false, false] rfl rfl (any_of HT_.out (by kernel_rfl)) (fun _ _ _ h => h) (Or.inl ⟨by rfl, ?_⟩) ?_ ?_
            rotate_left
            ·intro w'
             go_simp
             with_reducible rfl
            rotate_left
            ·simp only [Act.put, List.setIfInBounds_toArray, List.set_cons_zero, List.set_cons_succ, i64_w, i32_w]
             rfl
            refine pure_ (i := 9) (N := some 74) (v := ?_) (a' := ?_) #[true, false, true, false, true, true, false, false, true, true, false, false, false, false, false, false] rfl rfl (any_of HT_.out (by kernel_rfl)) (fun _ _ _ h => h) (Or.inl ⟨by rfl, ?_⟩) ?_ ?_
            rotate_left
            ·intro w'
             go_simp
             with_reducible rfl
            rotate_left
            ·simp only [Act.put, List.setIfInBounds_toArray, List.set_cons_zero, List.set_cons_succ, i64_w, i32_w]
             rfl
            refine take_ (i := 1) (N := some 66) (v := ?_) (a' := ?_) #[true, true, true, false, true, true, false, false, true, true, false, false, false, false, false, false] rfl rfl (take_ofW HT_.out HW_.out (by kernel_rfl)) (fun _ _ _ h => h) (Or.inl ⟨by rfl, ?_⟩) hHeld ?_ ?_
            rotate_left
            ·rintro w' ⟨s0, s1, s2, s3, s4, s5, s6, s7, s8, s9, s10, s11⟩
             go_simp
             with_reducible rfl
            rotate_left
            ·simp only [Act.put, List.setIfInBounds_toArray, List.set_cons_zero, List.set_cons_succ, i64_w, i32_w]
             rfl
            refine take_ (i := 3) (N := some 68) (v := ?_) (a' := ?_) #[true, true, true, true, true, true, false, false, true, true, false, false, false, false, false, false] rfl rfl (take_ofW HT_.out HW_.out (by kernel_rfl)) (fun _ _ _ h => h) (Or.inl ⟨by rfl, ?_⟩) hHeld ?_ ?_
            rotate_left
            ·rintro w' ⟨s0, s1, s2, s3, s4, s5, s6, s7, s8, s9, s10, s11⟩
             go_simp
             with_reducible rfl
            rotate_left
            ·simp only [Act.put, List.setIfInBounds_toArray, List.set_cons_zero, List.set_cons_succ, i64_w, i32_w]
             rfl
            refine take_ (i := 7) (N := some 72) (v := ?_) (a' := ?_) #[true, true, true, true, true, true, false, true, true, true, false, false, false, false, false, false] rfl rfl (take_ofW HT_.out HW_.out (by kernel_rfl)) (fun _ _ _ h => h) (Or.inl ⟨by rfl, ?_⟩) hHeld ?_ ?_
            rotate_left
            ·rintro w' ⟨s0, s1, s2, s3, s4, s5, s6, s7, s8, s9, s10, s11⟩
             go_simp
             with_reducible rfl
            rotate_left
            ·simp only [Act.put, List.setIfInBounds_toArray, List.set_cons_zero, List.set_cons_succ, i64_w, i32_w]
             rfl
            refine one_ (i := 6) (N := some 71) #[true, true, true, true, true, true, true, true, true, true, false, false, false, false, false, false] rfl rfl (one_of HT_.out (by kernel_rfl)) (by decide) (fun K hK => ?_)
            refine goes_ Try.func41 (by kernel_rfl) rfl #[.agg #[.int .i64 a0_0, .slice A0_1 l0_1.length c0_1, .slice A0_2 l0_2.length c0_2, .slice A0_3 l0_3.length c0_3], .int .i64 t183, .int .i64 t185] (by rfl) rfl rfl la_ ?_
            with_reducible refine (spec_l1Mul.calls a0_0 _ _ l0_1 _ _ l0_2 _ _ l0_3 t183 t185 t193 _ ?side1 ?side2 ?side3 ?side4 ?side5 ?side6 A35.out).mono ?_
            (case side1 => exact kc_ HR0_1.out HB.out)
            (case side2 => exact HC0_1.out)
            (case side3 => exact kc_ HR0_2.out HB.out)
            (case side4 => exact HC0_2.out)
            (case side5 => exact kc_ HR0_3.out HB.out)
            (case side6 => exact HC0_3.out)
            rintro e w55 ⟨rfl, hb⟩
            refine ⟨_, rfl, ?_⟩
            replace HO_183002 := sd_ (Kd.R_below (ro_ HO_183002.out) hb)
            replace HO_183003 := sd_ (Kd.R_below (ro_ HO_183003.out) hb)
            replace HO192 := sd_ (Kd.R_below (ro_ HO192.out) hb)
            replace BK178 := sd_ (bb_ BK178.out hb)
            replace BK179 := sd_ (bb_ BK179.out hb)
            replace BK180 := sd_ (bb_ BK180.out hb)
            replace BK182 := sd_ (bb_ BK182.out hb)
            replace HB := sd_ (below_step (bw4_ HB.out GE178.out GE179.out GE180.out GE182.out) hb)
            (try clear hb)
            (try clear hb2)
            (try clear hk)
            (try clear hi)
            refine hK.out _ _ ⟨(blk_cell BK182.out 0).trans rfl, (blk_cell BK182.out 1).trans rfl, (blk_cell BK182.out 2).trans rfl, (blk_cell BK182.out 3).trans rfl, (blk_cell BK178.out 0).trans rfl, (blk_cell BK178.out 1).trans rfl, (blk_cell BK178.out 2).trans rfl, (blk_cell BK178.out 3).trans rfl, (blk_cell BK179.out 0).trans rfl, (blk_cell BK179.out 1).trans rfl, (blk_cell BK179.out 2).trans rfl, (blk_cell BK179.out 3).trans rfl⟩ (fun hHeld => ?_)
            clear hK K
            refine norm_ (a' := ?_) ?_ ?_
            rotate_left
            ·show Act.put _ (some 71) _ = _
             simp only [Act.put, List.setIfInBounds_toArray, List.set_cons_zero, List.set_cons_succ, i64_w, i32_w]
             rfl
            refine one_ (i := 10) (N := some 75) #[true, true, true, true, true, true, true, true, true, true, true, false, false, false, false, false] rfl rfl (one_of HT_.out (by kernel_rfl)) (by decide) (fun K hK => ?_)
            refine goes_ Try.func41 (by kernel_rfl) rfl #[.agg #[.int .i64 a1_0, .slice A1_1 l1_1.length c1_1, .slice A1_2 l1_2.length c1_2, .slice A1_3 l1_3.length c1_3], .int .i64 t184, .int .i64 t186] (by rfl) rfl rfl la_ ?_
            with_reducible refine (spec_l1Mul.calls a1_0 _ _ l1_1 _ _ l1_2 _ _ l1_3 t184 t186 t194 _ ?side1 ?side2 ?side3 ?side4 ?side5 ?side6 A36.out).mono ?_
            (case side1 => exact kc_ HR1_1.out HB.out)
            (case side2 => exact HC1_1.out)
            (case side3 => exact kc_ HR1_2.out HB.out)
            (case side4 => exact HC1_2.out)
            (case side5 => exact kc_ HR1_3.out HB.out)
            (case side6 => exact HC1_3.out)
            rintro e w56 ⟨rfl, hb⟩
            refine ⟨_, rfl, ?_⟩
            replace HO_183002 := sd_ (Kd.R_below (ro_ HO_183002.out) hb)
            replace HO_183003 := sd_ (Kd.R_below (ro_ HO_183003.out) hb)
            replace HO192 := sd_ (Kd.R_below (ro_ HO192.out) hb)
            replace BK178 := sd_ (bb_ BK178.out hb)
            replace BK179 := sd_ (bb_ BK179.out hb)
            replace BK180 := sd_ (bb_ BK180.out hb)
            replace BK182 := sd_ (bb_ BK182.out hb)
            replace HB := sd_ (below_step (bw4_ HB.out GE178.out GE179.out GE180.out GE182.out) hb)
            (try clear hb)
            (try clear hb2)
            (try clear hk)
            (try clear hi)
            refine hK.out _ _ ⟨(blk_cell BK182.out 0).trans rfl, (blk_cell BK182.out 1).trans rfl, (blk_cell BK182.out 2).trans rfl, (blk_cell BK182.out 3).trans rfl, (blk_cell BK178.out 0).trans rfl, (blk_cell BK178.out 1).trans rfl, (blk_cell BK178.out 2).trans rfl, (blk_cell BK178.out 3).trans rfl, (blk_cell BK179.out 0).trans rfl, (blk_cell BK179.out 1).trans rfl, (blk_cell BK179.out 2).trans rfl, (blk_cell BK179.out 3).trans rfl⟩ (fun hHeld => ?_)
            clear hK K
            refine norm_ (a' := ?_) ?_ ?_
            rotate_left
            ·show Act.put _ (some 75) _ = _
             simp only [Act.put, List.setIfInBounds_toArray, List.set_cons_zero, List.set_cons_succ, i64_w, i32_w]
             rfl
            refine one_ (i := 11) (N := some 76) #[true, true, true, true, true, true, true, true, true, true, true, true, false, false, false, false] rfl rfl (one_of HT_.out (by kernel_rfl)) (by decide) (fun K hK => ?_)
            refine goes_ Try.func39 (by kernel_rfl) rfl #[.int .i64 a1_0, .int .i64 t193, .int .i64 t194] (by rfl) rfl rfl la_ ?_
            with_reducible refine (spec_l1Pair.calls a1_0 t193 t194 t195 _ A37.out).mono ?_
            rintro e w' ⟨rfl, ⟨nd, rfl⟩⟩
            refine ⟨_, rfl, ?_⟩
            refine hK.out _ _ ⟨(blk_cell BK182.out 0).trans rfl, (blk_cell BK182.out 1).trans rfl, (blk_cell BK182.out 2).trans rfl, (blk_cell BK182.out 3).trans rfl, (blk_cell BK178.out 0).trans rfl, (blk_cell BK178.out 1).trans rfl, (blk_cell BK178.out 2).trans rfl, (blk_cell BK178.out 3).trans rfl, (blk_cell BK179.out 0).trans rfl, (blk_cell BK179.out 1).trans rfl, (blk_cell BK179.out 2).trans rfl, (blk_cell BK179.out 3).trans rfl⟩ (fun hHeld => ?_)
            clear hK K
            refine norm_ (a' := ?_) ?_ ?_
            rotate_left
            ·show Act.put _ (some 76) _ = _
             simp only [Act.put, List.setIfInBounds_toArray, List.set_cons_zero, List.set_cons_succ, i64_w, i32_w]
             rfl
            refine one_ (i := 12) (N := some 77) #[true, true, true, true, true, true, true, true, true, true, true, true, true, false, false, false] rfl rfl (one_of HT_.out (by kernel_rfl)) (by decide) (fun K hK => ?_)
            refine value_ (w1 := ?_) (v := ?_) (by rfl) rfl ?_ ?_
            rotate_left 2
            ·go_simp
             constructor
             ·rfl
             rfl
            refine hK.out _ _ ⟨(blk_cell (blk_alloc BK182.out _) 0).trans rfl, (blk_cell (blk_alloc BK182.out _) 1).trans rfl, (blk_cell (blk_alloc BK182.out _) 2).trans rfl, (blk_cell (blk_alloc BK182.out _) 3).trans rfl, (blk_cell (blk_alloc BK178.out _) 0).trans rfl, (blk_cell (blk_alloc BK178.out _) 1).trans rfl, (blk_cell (blk_alloc BK178.out _) 2).trans rfl, (blk_cell (blk_alloc BK178.out _) 3).trans rfl, (blk_cell (blk_alloc BK179.out _) 0).trans rfl, (blk_cell (blk_alloc BK179.out _) 1).trans rfl, (blk_cell (blk_alloc BK179.out _) 2).trans rfl, (blk_cell (blk_alloc BK179.out _) 3).trans rfl⟩ (fun hHeld => ?_)
            clear hK K
            refine norm_ (a' := ?_) ?_ ?_
            rotate_left
            ·show Act.put _ (some 77) _ = _
             simp only [Act.put, List.setIfInBounds_toArray, List.set_cons_zero, List.set_cons_succ, i64_w, i32_w]
             rfl
            refine one_ (i := 13) (N := some 78) #[true, true, true, true, true, true, true, true, true, true, true, true, true, true, false, false] rfl rfl (one_of HT_.out (by kernel_rfl)) (by decide) (fun K hK => ?_)
            refine Kd.R_append_step (Kd.int .i64) (w0 := w) w.heap.size (by rfl) (.tmp 66) (.tmp 77) 22 3 (.int .i64 0) 8 rfl Try.underlying22 info3 rfl (by decide) (by omega) u183002 x183002_2 t195 [.int .i64 t195] (fun k_ => some k_ ≠ (.slice Ao51 y190.length co51 : Value).ownBlock) (fun _ => False) rfl rfl ?aP (fun _ hk => hk.elim) ?aF ?aO ?aB ?aS ?aL ?_
            (case aP => exact rfl)
            (case aB => exact (bw4_ HB.out GE178.out GE179.out GE180.out GE182.out))
            (case aF => exact (fun k_ hk => Kd.fresh' (Kd.R_lt (ro_ HO192.out)) k_ hk))
            (case aO => exact (ro_ HO_183002.out))
            (case aS => exact (below_size (bw4_ HB.out GE178.out GE179.out GE180.out GE182.out)))
            (case aL => have := LMc38.out; omega)
            intro v197 w57 ho hb hg hat
            rw [← Ny196.out] at ho
            have n0_ := sd_ (Kd.R_over' (ro_ HO_183003.out) (Kd.R_typed (ro_ HO_183002.out)) (by decide) hg)
            have n1_ := sd_ (blk_grown (g := gb178) (o := .cells #[.int .i64 a0_0, .slice A0_1 l0_1.length c0_1, .slice A0_2 l0_2.length c0_2, .slice A0_3 l0_3.length c0_3] 27 (0, 0)) (bz_ BK178.out) hg (Kd.R_ne HO_183002.out BK178.out (by decide)))
            have n2_ := sd_ (blk_grown (g := gb179) (o := .cells #[.int .i64 a1_0, .slice A1_1 l1_1.length c1_1, .slice A1_2 l1_2.length c1_2, .slice A1_3 l1_3.length c1_3] 27 (0, 0)) (bz_ BK179.out) hg (Kd.R_ne HO_183002.out BK179.out (by decide)))
            have n3_ := sd_ (blk_grown (g := gb180) (o := .cells #[.int .i64 0, .slice none 0 0, .slice none 0 0, .slice none 0 0] 27 (0, 0)) (bz_ BK180.out) hg (Kd.R_ne HO_183002.out BK180.out (by decide)))
            have n4_ := sd_ (blk_grown (g := gb182) (o := .cells #[.int .i64 (wrap64 (a0_0 * a1_0)), .slice Ao51 y190.length co51, u183002, u183003] 27 (0, 0)) (bz_ BK182.out) hg (Kd.R_ne HO_183002.out BK182.out (by decide)))
            have n5_ := sd_ (Kd.R_after (ok := (fun _ => True)) (by (with_reducible repeat (first | apply Kd.R_alloc | apply Kd.R_drewN | apply Kd.R_drew)); exact Kd.R_mono HO192.out (fun _ hk => ⟨trivial, hk⟩)) hg hat)
            have n6_ := sd_ (hb)
            have n7_ := sd_ (ho)
            clear HO_183003
            clear BK178
            clear BK179
            clear BK180
            clear BK182
            clear HO192
            clear HB
            clear HO_183002
            have HO_183003 := n0_
            have BK178 := n1_
            have BK179 := n2_
            have BK180 := n3_
            have BK182 := n4_
            have HO192 := n5_
            have HB := n6_
            have HO198 := n7_
            clear n0_ n1_ n2_ n3_ n4_ n5_ n6_ n7_
            clear ho hb hg hat
            obtain ⟨Ao58, co58, eo58⟩ := Kd.R_slice HO198.out
            (first | subst eo58 | (injection eo58 with f1_ f2_ f3_; have f4_ := f1_.symm; have f5_ := f3_.symm; clear f1_ f2_ f3_; subst f4_; subst f5_))
            refine hK.out _ _ ⟨(blk_cell BK182.out 0).trans rfl, (blk_cell BK182.out 1).trans rfl, (blk_cell BK182.out 2).trans rfl, (blk_cell BK182.out 3).trans rfl, (blk_cell BK178.out 0).trans rfl, (blk_cell BK178.out 1).trans rfl, (blk_cell BK178.out 2).trans rfl, (blk_cell BK178.out 3).trans rfl, (blk_cell BK179.out 0).trans rfl, (blk_cell BK179.out 1).trans rfl, (blk_cell BK179.out 2).trans rfl, (blk_cell BK179.out 3).trans rfl⟩ (fun hHeld => ?_)
            clear hK K
            refine norm_ (a' := ?_) ?_ ?_
            rotate_left
            ·show Act.put _ (some 78) _ = _
             simp only [Act.put, List.setIfInBounds_toArray, List.set_cons_zero, List.set_cons_succ, i64_w, i32_w]
             rfl
            refine pure_ (i := 14) (N := some 79) (v := ?_) (a' := ?_) #[true, true, true, true, true, true, true, true, true, true, true, true, true, true, true, false] rfl rfl (any_of HT_.out (by kernel_rfl)) (fun _ _ _ h => h) (Or.inl ⟨by rfl, ?_⟩) ?_ ?_
            rotate_left
            ·intro w'
             go_simp
             with_reducible rfl
            rotate_left
            ·simp only [Act.put, List.setIfInBounds_toArray, List.set_cons_zero, List.set_cons_succ, i64_w, i32_w]
             rfl
            refine last_ (i := 15) (N := none) #[true, true, true, true, true, true, true, true, true, true, true, true, true, true, true, true] rfl rfl (one_of HT_.out (by kernel_rfl)) (by decide) (fun K hK => ?_)
            have hs59 : w57.cell? ⟨gb182, 2, none⟩ = some (u183002) := (blk_cell BK182.out 2).trans rfl
            have hfs59 := blk_frozen BK182.out 2
            have hns59_0 := NB178_182.out
            have hns59_1 := NB179_182.out
            have hns59_2 := NB180_182.out
            have hms59_0 := NB182_178.out
            have hms59_1 := NB182_179.out
            have hms59_2 := NB182_180.out
            refine skip_ (w1 := ?_) (by rfl) rfl ?_ ?_
            rotate_left
            ·go_simp
             rfl
            refine hK.out _ _ ?_
            clear hK K
            refine done_ (done_of HT_.out (by kernel_rfl)) ?_
            try go_wp2
            have n0_ : Aside0 (Kd.R Kd.bool 4 (w57.setCell ⟨gb182, 2, none⟩ (.slice Ao58 y196.length co58)) w.heap.size (fun _ => True) u183003 x183003_2) := ⟨by (with_reducible repeat (first | apply Kd.R_alloc | apply Kd.R_drewN | apply Kd.R_drew)); exact Kd.R_mono (Kd.R_far (p := ⟨gb182, 2, none⟩) (Kd.R_types HO_183003.out BK182.out (by decide)) (fun _ hk => hk.2) (.slice Ao58 y196.length co58)) (fun _ hk => trivial)⟩
            have n1_ : Aside0 (Kd.R (Kd.int .i64) 3 (w57.setCell ⟨gb182, 2, none⟩ (.slice Ao58 y196.length co58)) w.heap.size (fun k_ => some k_ ≠ (.slice Ao58 y196.length co58 : Value).ownBlock) (.slice Ao51 y190.length co51) y190) := ⟨by (with_reducible repeat (first | apply Kd.R_alloc | apply Kd.R_drewN | apply Kd.R_drew)); exact Kd.R_mono (Kd.R_far (p := ⟨gb182, 2, none⟩) (Kd.R_types HO192.out BK182.out (by decide)) (fun _ hk => hk.2) (.slice Ao58 y196.length co58)) (fun _ hk => hk.1.2)⟩
            have n2_ : Aside0 (Kd.R (Kd.int .i64) 3 (w57.setCell ⟨gb182, 2, none⟩ (.slice Ao58 y196.length co58)) w.heap.size (fun k_ => some k_ ≠ (.slice Ao51 y190.length co51 : Value).ownBlock) (.slice Ao58 y196.length co58) y196) := ⟨by (with_reducible repeat (first | apply Kd.R_alloc | apply Kd.R_drewN | apply Kd.R_drew)); exact Kd.R_mono (Kd.R_far (p := ⟨gb182, 2, none⟩) (Kd.R_types HO198.out BK182.out (by decide)) (fun _ hk => hk.2) (.slice Ao58 y196.length co58)) (fun _ hk => hk.1)⟩
            have n3_ : Aside0 ((w57.setCell ⟨gb182, 2, none⟩ (.slice Ao58 y196.length co58)).heap[gb178]? = some (.cells #[.int .i64 a0_0, .slice A0_1 l0_1.length c0_1, .slice A0_2 l0_2.length c0_2, .slice A0_3 l0_3.length c0_3] 27 (0, 0))) := ⟨by (with_reducible repeat (first | refine blk_drewN ?_ _ | refine blk_drew ?_ | refine blk_alloc ?_ _)); refine blk_far ?_ NB178_182.out _; (with_reducible repeat (first | refine blk_drewN ?_ _ | refine blk_drew ?_ | refine blk_alloc ?_ _)); exact BK178.out⟩
            have n4_ : Aside0 ((w57.setCell ⟨gb182, 2, none⟩ (.slice Ao58 y196.length co58)).heap[gb179]? = some (.cells #[.int .i64 a1_0, .slice A1_1 l1_1.length c1_1, .slice A1_2 l1_2.length c1_2, .slice A1_3 l1_3.length c1_3] 27 (0, 0))) := ⟨by (with_reducible repeat (first | refine blk_drewN ?_ _ | refine blk_drew ?_ | refine blk_alloc ?_ _)); refine blk_far ?_ NB179_182.out _; (with_reducible repeat (first | refine blk_drewN ?_ _ | refine blk_drew ?_ | refine blk_alloc ?_ _)); exact BK179.out⟩
            have n5_ : Aside0 ((w57.setCell ⟨gb182, 2, none⟩ (.slice Ao58 y196.length co58)).heap[gb180]? = some (.cells #[.int .i64 0, .slice none 0 0, .slice none 0 0, .slice none 0 0] 27 (0, 0))) := ⟨by (with_reducible repeat (first | refine blk_drewN ?_ _ | refine blk_drew ?_ | refine blk_alloc ?_ _)); refine blk_far ?_ NB180_182.out _; (with_reducible repeat (first | refine blk_drewN ?_ _ | refine blk_drew ?_ | refine blk_alloc ?_ _)); exact BK180.out⟩
            have n6_ : Aside0 ((w57.setCell ⟨gb182, 2, none⟩ (.slice Ao58 y196.length co58)).heap[gb182]? = some (.cells #[.int .i64 (wrap64 (a0_0 * a1_0)), .slice Ao51 y190.length co51, .slice Ao58 y196.length co58, u183003] 27 (0, 0))) := ⟨by (with_reducible repeat (first | refine blk_drewN ?_ _ | refine blk_drew ?_ | refine blk_alloc ?_ _)); refine blk_put (cs := #[.int .i64 (wrap64 (a0_0 * a1_0)), .slice Ao51 y190.length co51, u183002, u183003]) ?_ 2 _ rfl; exact bz_ BK182.out⟩
            have n7_ : Aside0 (Below w.heap.size w (w57.setCell ⟨gb182, 2, none⟩ (.slice Ao58 y196.length co58))) := ⟨bw4_ HB.out GE178.out GE179.out GE180.out GE182.out⟩
            (try clear HO_183003)
            (try clear HO192)
            (try clear HO198)
            (try clear BK178)
            (try clear BK179)
            (try clear BK180)
            (try clear BK182)
            (try clear HB)
            generalize (w57.setCell ⟨gb182, 2, none⟩ (.slice Ao58 y196.length co58)) = w60 at n0_ n1_ n2_ n3_ n4_ n5_ n6_ n7_ ⊢
            have HO_183003 := n0_
            have HO192 := n1_
            have HO198 := n2_
            have BK178 := n3_
            have BK179 := n4_
            have BK180 := n5_
            have BK182 := n6_
            have HB := n7_
            clear n0_ n1_ n2_ n3_ n4_ n5_ n6_ n7_
            replace HO_183003 := sd_ (Kd.R_drew HO_183003.out)
            replace HO192 := sd_ (Kd.R_drew HO192.out)
            replace HO198 := sd_ (Kd.R_drew HO198.out)
            replace BK178 := sd_ (blk_drew BK178.out)
            replace BK179 := sd_ (blk_drew BK179.out)
            replace BK180 := sd_ (blk_drew BK180.out)
            replace BK182 := sd_ (blk_drew BK182.out)
            replace HB := sd_ (below_drew1 HB.out)
            refine start_ (n := 16) (S := fun w' => w'.cell? ⟨gb182, 0, none⟩ = some (.int .i64 (wrap64 (a0_0 * a1_0))) ∧ w'.cell? ⟨gb182, 1, none⟩ = some (.slice Ao51 y190.length co51) ∧ w'.cell? ⟨gb182, 2, none⟩ = some (.slice Ao58 y196.length co58) ∧ w'.cell? ⟨gb182, 3, none⟩ = some (u183003) ∧ w'.cell? ⟨gb178, 0, none⟩ = some (.int .i64 a0_0) ∧ w'.cell? ⟨gb178, 1, none⟩ = some (.slice A0_1 l0_1.length c0_1) ∧ w'.cell? ⟨gb178, 2, none⟩ = some (.slice A0_2 l0_2.length c0_2) ∧ w'.cell? ⟨gb178, 3, none⟩ = some (.slice A0_3 l0_3.length c0_3) ∧ w'.cell? ⟨gb179, 0, none⟩ = some (.int .i64 a1_0) ∧ w'.cell? ⟨gb179, 1, none⟩ = some (.slice A1_1 l1_1.length c1_1) ∧ w'.cell? ⟨gb179, 2, none⟩ = some (.slice A1_2 l1_2.length c1_2) ∧ w'.cell? ⟨gb179, 3, none⟩ = some (.slice A1_3 l1_3.length c1_3)) (ds := [15]) #[false, false, false, false, false, false, false, false, false, false, false, false, false, false, false, false] (by kernel_rfl) rfl rfl ⟨(blk_cell BK182.out 0).trans rfl, (blk_cell BK182.out 1).trans rfl, (blk_cell BK182.out 2).trans rfl, (blk_cell BK182.out 3).trans rfl, (blk_cell BK178.out 0).trans rfl, (blk_cell BK178.out 1).trans rfl, (blk_cell BK178.out 2).trans rfl, (blk_cell BK178.out 3).trans rfl, (blk_cell BK179.out 0).trans rfl, (blk_cell BK179.out 1).trans rfl, (blk_cell BK179.out 2).trans rfl, (blk_cell BK179.out 3).trans rfl⟩ (fun hHeld => ?_); refine with_tabW spec_ProductSystem.tab17 spec_ProductSystem.bits17 (fun HT_ HW_ => ?_)
            generalize w60.drew = w61 at HO_183003 HO192 HO198 BK178 BK179 BK180 BK182 HB hHeld ⊢
            refine pure_ (i := 0) (N := some 80) (v := ?_) (a' := ?_) #[true, false, false, false, false, false, false, false, false, false, false, false, false, false, false, false] rfl rfl (any_of HT_.out (by kernel_rfl)) (fun _ _ _ h => h) (Or.inl ⟨by rfl, ?_⟩) ?_ ?_
            rotate_left
            ·intro w'
             go_simp
             with_reducible rfl
            rotate_left
            ·simp only [Act.put, List.setIfInBounds_toArray, List.set_cons_zero, List.set_cons_succ, i64_w, i32_w]
             rfl
            refine pure_ (i := 3) (N := some 83) (v := ?_) (a' := ?_) #[true, false, false, true, false, false, false, false, false, false, false, false, false, false, false, false] rfl rfl (any_of HT_.out (by kernel_rfl)) (fun _ _ _ h => h) (Or.inl ⟨by rfl, ?_⟩) ?_ ?_
            rotate_left
            ·intro w'
             go_simp
             with_reducible rfl
            rotate_left
            ·simp only [Act.put, List.setIfInBounds_toArray, List.set_cons_zero, List.set_cons_succ, i64_w, i32_w]
             rfl
            refine pure_ (i := 4) (N := some 84) (v := ?_) (a' := ?_) #[true, false, false, true, true, false, false, false, false, false, false, false, false, false, false, false] rfl rfl (any_of HT_.out (by kernel_rfl)) (fun _ _ _ h => h) (Or.inl ⟨by rfl, ?_⟩) ?_ ?_
            rotate_left
            ·intro w'
             go_simp
             with_reducible rfl
            rotate_left
            ·simp only [Act.put, List.setIfInBounds_toArray, List.set_cons_zero, List.set_cons_succ, i64_w, i32_w]
             rfl
            refine take_ (i := 1) (N := some 81) (v := ?_) (a' := ?_) #[true, true, false, true, true, false, false, false, false, false, false, false, false, false, false, false] rfl rfl (take_ofW HT_.out HW_.out (by kernel_rfl)) (fun _ _ _ h => h) (Or.inl ⟨by rfl, ?_⟩) hHeld ?_ ?_
            rotate_left
            ·rintro w' ⟨s0, s1, s2, s3, s4, s5, s6, s7, s8, s9, s10, s11⟩
             go_simp
             with_reducible rfl
            rotate_left
            ·simp only [Act.put, List.setIfInBounds_toArray, List.set_cons_zero, List.set_cons_succ, i64_w, i32_w]
             rfl
            refine take_ (i := 2) (N := some 82) (v := ?_) (a' := ?_) #[true, true, true, true, true, false, false, false, false, false, false, false, false, false, false, false] rfl rfl (take_ofW HT_.out HW_.out (by kernel_rfl)) (fun _ _ _ h => h) (Or.inl ⟨by rfl, ?_⟩) hHeld ?_ ?_
            rotate_left
            ·rintro w' ⟨s0, s1, s2, s3, s4, s5, s6, s7, s8, s9, s10, s11⟩
             go_simp
             with_reducible rfl
            rotate_left
            ·simp only [Act.put, List.setIfInBounds_toArray, List.set_cons_zero, List.set_cons_succ, i64_w, i32_w]
             rfl
            refine one_ (i := 5) (N := some 85) #[true, true, true, true, true, true, false, false, false, false, false, false, false, false, false, false] rfl rfl (one_of HT_.out (by kernel_rfl)) (by decide) (fun K hK => ?_)
            refine goes_ Try.func42 (by kernel_rfl) rfl #[.agg #[.int .i64 a0_0, .slice A0_1 l0_1.length c0_1, .slice A0_2 l0_2.length c0_2, .slice A0_3 l0_3.length c0_3], .int .i64 t183, .int .i64 t185] (by rfl) rfl rfl la_ ?_
            with_reducible refine (spec_l1Le.calls a0_0 _ _ l0_1 _ _ l0_2 _ _ l0_3 t183 t185 true _ ?side1 ?side2 ?side3 ?side4 ?side5 ?side6 A39.out).mono ?_
            (case side1 => exact kc_ HR0_1.out HB.out)
            (case side2 => exact HC0_1.out)
            (case side3 => exact kc_ HR0_2.out HB.out)
            (case side4 => exact HC0_2.out)
            (case side5 => exact kc_ HR0_3.out HB.out)
            (case side6 => exact HC0_3.out)
            rintro e w62 ⟨rfl, hb⟩
            refine ⟨_, rfl, ?_⟩
            replace HO_183003 := sd_ (Kd.R_below (ro_ HO_183003.out) hb)
            replace HO192 := sd_ (Kd.R_below (ro_ HO192.out) hb)
            replace HO198 := sd_ (Kd.R_below (ro_ HO198.out) hb)
            replace BK178 := sd_ (bb_ BK178.out hb)
            replace BK179 := sd_ (bb_ BK179.out hb)
            replace BK180 := sd_ (bb_ BK180.out hb)
            replace BK182 := sd_ (bb_ BK182.out hb)
            replace HB := sd_ (below_step (bw4_ HB.out GE178.out GE179.out GE180.out GE182.out) hb)
            (try clear hb)
            (try clear hb2)
            (try clear hk)
            (try clear hi)
            refine hK.out _ _ ⟨(blk_cell BK182.out 0).trans rfl, (blk_cell BK182.out 1).trans rfl, (blk_cell BK182.out 2).trans rfl, (blk_cell BK182.out 3).trans rfl, (blk_cell BK178.out 0).trans rfl, (blk_cell BK178.out 1).trans rfl, (blk_cell BK178.out 2).trans rfl, (blk_cell BK178.out 3).trans rfl, (blk_cell BK179.out 0).trans rfl, (blk_cell BK179.out 1).trans rfl, (blk_cell BK179.out 2).trans rfl, (blk_cell BK179.out 3).trans rfl⟩ (fun hHeld => ?_)
            clear hK K
            refine norm_ (a' := ?_) ?_ ?_
            rotate_left
            ·show Act.put _ (some 85) _ = _
             simp only [Act.put, List.setIfInBounds_toArray, List.set_cons_zero, List.set_cons_succ, i64_w, i32_w]
             rfl
            refine pure_ (i := 6) (N := some 86) (v := ?_) (a' := ?_) #[true, true, true, true, true, true, true, false, false, false, false, false, false, false, false, false] rfl rfl (any_of HT_.out (by kernel_rfl)) (fun _ _ _ h => h) (Or.inl ⟨by rfl, ?_⟩) ?_ ?_
            rotate_left
            ·intro w'
             go_simp
             with_reducible rfl
            rotate_left
            ·simp only [Act.put, List.setIfInBounds_toArray, List.set_cons_zero, List.set_cons_succ, i64_w, i32_w]
             rfl
            refine pure_ (i := 8) (N := some 88) (v := ?_) (a' := ?_) #[true, true, true, true, true, true, true, false, true, false, false, false, false, false, false, false] rfl rfl (any_of HT_.out (by kernel_rfl)) (fun _ _ _ h => h) (Or.inl ⟨by rfl, ?_⟩) ?_ ?_
            rotate_left
            ·intro w'
             go_simp
             with_reducible rfl
            rotate_left
            ·simp only [Act.put, List.setIfInBounds_toArray, List.set_cons_zero, List.set_cons_succ, i64_w, i32_w]
             rfl
            refine pure_ (i := 9) (N := some 89) (v := ?_) (a' := ?_) #[true, true, true, true, true, true, true, false, true, true, false, false, false, false, false, false] rfl rfl (any_of HT_.out (by kernel_rfl)) (fun _ _ _ h => h) (Or.inl ⟨by rfl, ?_⟩) ?_ ?_
            rotate_left
            ·intro w'
             go_simp
             with_reducible rfl
            rotate_left
            ·simp only [Act.put, List.setIfInBounds_toArray, List.set_cons_zero, List.set_cons_succ, i64_w, i32_w]
             rfl
            refine take_ (i := 7) (N := some 87) (v := ?_) (a' := ?_) #[true, true, true, true, true, true, true, true, true, true, false, false, false, false, false, false] rfl rfl (take_ofW HT_.out HW_.out (by kernel_rfl)) (fun _ _ _ h => h) (Or.inl ⟨by rfl, ?_⟩) hHeld ?_ ?_
            rotate_left
            ·rintro w' ⟨s0, s1, s2, s3, s4, s5, s6, s7, s8, s9, s10, s11⟩
             go_simp
             with_reducible rfl
            rotate_left
            ·simp only [Act.put, List.setIfInBounds_toArray, List.set_cons_zero, List.set_cons_succ, i64_w, i32_w]
             rfl
            refine one_ (i := 10) (N := some 90) #[true, true, true, true, true, true, true, true, true, true, true, false, false, false, false, false] rfl rfl (one_of HT_.out (by kernel_rfl)) (by decide) (fun K hK => ?_)
            refine goes_ Try.func42 (by kernel_rfl) rfl #[.agg #[.int .i64 a1_0, .slice A1_1 l1_1.length c1_1, .slice A1_2 l1_2.length c1_2, .slice A1_3 l1_3.length c1_3], .int .i64 t184, .int .i64 t186] (by rfl) rfl rfl la_ ?_
            with_reducible refine (spec_l1Le.calls a1_0 _ _ l1_1 _ _ l1_2 _ _ l1_3 t184 t186 t200 _ ?side1 ?side2 ?side3 ?side4 ?side5 ?side6 A41.out).mono ?_
            (case side1 => exact kc_ HR1_1.out HB.out)
            (case side2 => exact HC1_1.out)
            (case side3 => exact kc_ HR1_2.out HB.out)
            (case side4 => exact HC1_2.out)
            (case side5 => exact kc_ HR1_3.out HB.out)
            (case side6 => exact HC1_3.out)
            rintro e w63 ⟨rfl, hb⟩
            refine ⟨_, rfl, ?_⟩
            replace HO_183003 := sd_ (Kd.R_below (ro_ HO_183003.out) hb)
            replace HO192 := sd_ (Kd.R_below (ro_ HO192.out) hb)
            replace HO198 := sd_ (Kd.R_below (ro_ HO198.out) hb)
            replace BK178 := sd_ (bb_ BK178.out hb)
            replace BK179 := sd_ (bb_ BK179.out hb)
            replace BK180 := sd_ (bb_ BK180.out hb)
            replace BK182 := sd_ (bb_ BK182.out hb)
            replace HB := sd_ (below_step (bw4_ HB.out GE178.out GE179.out GE180.out GE182.out) hb)
            (try clear hb)
            (try clear hb2)
            (try clear hk)
            (try clear hi)
            refine hK.out _ _ ⟨(blk_cell BK182.out 0).trans rfl, (blk_cell BK182.out 1).trans rfl, (blk_cell BK182.out 2).trans rfl, (blk_cell BK182.out 3).trans rfl, (blk_cell BK178.out 0).trans rfl, (blk_cell BK178.out 1).trans rfl, (blk_cell BK178.out 2).trans rfl, (blk_cell BK178.out 3).trans rfl, (blk_cell BK179.out 0).trans rfl, (blk_cell BK179.out 1).trans rfl, (blk_cell BK179.out 2).trans rfl, (blk_cell BK179.out 3).trans rfl⟩ (fun hHeld => ?_)
            clear hK K
            refine norm_ (a' := ?_) ?_ ?_
            rotate_left
            ·show Act.put _ (some 90) _ = _
             simp only [Act.put, List.setIfInBounds_toArray, List.set_cons_zero, List.set_cons_succ, i64_w, i32_w]
             rfl
            refine pure_ (i := 11) (N := some 91) (v := ?_) (a' := ?_) #[true, true, true, true, true, true, true, true, true, true, true, true, false, false, false, false] rfl rfl (any_of HT_.out (by kernel_rfl)) (fun _ _ _ h => h) (Or.inl ⟨by rfl, ?_⟩) ?_ ?_
            rotate_left
            ·intro w'
             go_simp
             with_reducible rfl
            rotate_left
            ·simp only [Act.put, List.setIfInBounds_toArray, List.set_cons_zero, List.set_cons_succ, i64_w, i32_w]
             rfl
            refine one_ (i := 12) (N := some 92) #[true, true, true, true, true, true, true, true, true, true, true, true, true, false, false, false] rfl rfl (one_of HT_.out (by kernel_rfl)) (by decide) (fun K hK => ?_)
            refine value_ (w1 := ?_) (v := ?_) (by rfl) rfl ?_ ?_
            rotate_left 2
            ·go_simp
             constructor
             ·rfl
             rfl
            refine hK.out _ _ ⟨(blk_cell (blk_alloc BK182.out _) 0).trans rfl, (blk_cell (blk_alloc BK182.out _) 1).trans rfl, (blk_cell (blk_alloc BK182.out _) 2).trans rfl, (blk_cell (blk_alloc BK182.out _) 3).trans rfl, (blk_cell (blk_alloc BK178.out _) 0).trans rfl, (blk_cell (blk_alloc BK178.out _) 1).trans rfl, (blk_cell (blk_alloc BK178.out _) 2).trans rfl, (blk_cell (blk_alloc BK178.out _) 3).trans rfl, (blk_cell (blk_alloc BK179.out _) 0).trans rfl, (blk_cell (blk_alloc BK179.out _) 1).trans rfl, (blk_cell (blk_alloc BK179.out _) 2).trans rfl, (blk_cell (blk_alloc BK179.out _) 3).trans rfl⟩ (fun hHeld => ?_)
            clear hK K
            refine norm_ (a' := ?_) ?_ ?_
            rotate_left
            ·show Act.put _ (some 92) _ = _
             simp only [Act.put, List.setIfInBounds_toArray, List.set_cons_zero, List.set_cons_succ, i64_w, i32_w]
             rfl
            refine one_ (i := 13) (N := some 93) #[true, true, true, true, true, true, true, true, true, true, true, true, true, true, false, false] rfl rfl (one_of HT_.out (by kernel_rfl)) (by decide) (fun K hK => ?_)
            refine Kd.R_append_step Kd.bool (w0 := w) w.heap.size (by rfl) (.tmp 81) (.tmp 92) 23 4 (.bool false) 1 rfl Try.underlying23 info4 rfl (by decide) (by omega) u183003 x183003_2 t200 [.bool t200] (fun _ => True) (fun _ => False) rfl rfl ?aP (fun _ hk => hk.elim) ?aF ?aO ?aB ?aS ?aL ?_
            (case aP => exact rfl)
            (case aB => exact (bw4_ HB.out GE178.out GE179.out GE180.out GE182.out))
            (case aF => exact (fun _ _ => trivial))
            (case aO => exact (ro_ HO_183003.out))
            (case aS => exact (below_size (bw4_ HB.out GE178.out GE179.out GE180.out GE182.out)))
            (case aL => have := LMc42.out; omega)
            intro v202 w64 ho hb hg hat
            rw [← Ny201.out] at ho
            have n0_ := sd_ (blk_grown (g := gb178) (o := .cells #[.int .i64 a0_0, .slice A0_1 l0_1.length c0_1, .slice A0_2 l0_2.length c0_2, .slice A0_3 l0_3.length c0_3] 27 (0, 0)) (bz_ BK178.out) hg (Kd.R_ne HO_183003.out BK178.out (by decide)))
            have n1_ := sd_ (blk_grown (g := gb179) (o := .cells #[.int .i64 a1_0, .slice A1_1 l1_1.length c1_1, .slice A1_2 l1_2.length c1_2, .slice A1_3 l1_3.length c1_3] 27 (0, 0)) (bz_ BK179.out) hg (Kd.R_ne HO_183003.out BK179.out (by decide)))
            have n2_ := sd_ (blk_grown (g := gb180) (o := .cells #[.int .i64 0, .slice none 0 0, .slice none 0 0, .slice none 0 0] 27 (0, 0)) (bz_ BK180.out) hg (Kd.R_ne HO_183003.out BK180.out (by decide)))
            have n3_ := sd_ (blk_grown (g := gb182) (o := .cells #[.int .i64 (wrap64 (a0_0 * a1_0)), .slice Ao51 y190.length co51, .slice Ao58 y196.length co58, u183003] 27 (0, 0)) (bz_ BK182.out) hg (Kd.R_ne HO_183003.out BK182.out (by decide)))
            have n4_ := sd_ (Kd.R_over' (ro_ HO192.out) (Kd.R_typed (ro_ HO_183003.out)) (by decide) hg)
            have n5_ := sd_ (Kd.R_over' (ro_ HO198.out) (Kd.R_typed (ro_ HO_183003.out)) (by decide) hg)
            have n6_ := sd_ (hb)
            have n7_ := sd_ (ho)
            clear BK178
            clear BK179
            clear BK180
            clear BK182
            clear HO192
            clear HO198
            clear HB
            clear HO_183003
            have BK178 := n0_
            have BK179 := n1_
            have BK180 := n2_
            have BK182 := n3_
            have HO192 := n4_
            have HO198 := n5_
            have HB := n6_
            have HO203 := n7_
            clear n0_ n1_ n2_ n3_ n4_ n5_ n6_ n7_
            clear ho hb hg hat
            obtain ⟨Ao65, co65, eo65⟩ := Kd.R_slice HO203.out
            (first | subst eo65 | (injection eo65 with f1_ f2_ f3_; have f4_ := f1_.symm; have f5_ := f3_.symm; clear f1_ f2_ f3_; subst f4_; subst f5_))
            refine hK.out _ _ ⟨(blk_cell BK182.out 0).trans rfl, (blk_cell BK182.out 1).trans rfl, (blk_cell BK182.out 2).trans rfl, (blk_cell BK182.out 3).trans rfl, (blk_cell BK178.out 0).trans rfl, (blk_cell BK178.out 1).trans rfl, (blk_cell BK178.out 2).trans rfl, (blk_cell BK178.out 3).trans rfl, (blk_cell BK179.out 0).trans rfl, (blk_cell BK179.out 1).trans rfl, (blk_cell BK179.out 2).trans rfl, (blk_cell BK179.out 3).trans rfl⟩ (fun hHeld => ?_)
            clear hK K
            refine norm_ (a' := ?_) ?_ ?_
            rotate_left
            ·show Act.put _ (some 93) _ = _
             simp only [Act.put, List.setIfInBounds_toArray, List.set_cons_zero, List.set_cons_succ, i64_w, i32_w]
             rfl
            refine pure_ (i := 14) (N := some 94) (v := ?_) (a' := ?_) #[true, true, true, true, true, true, true, true, true, true, true, true, true, true, true, false] rfl rfl (any_of HT_.out (by kernel_rfl)) (fun _ _ _ h => h) (Or.inl ⟨by rfl, ?_⟩) ?_ ?_
            rotate_left
            ·intro w'
             go_simp
             with_reducible rfl
            rotate_left
            ·simp only [Act.put, List.setIfInBounds_toArray, List.set_cons_zero, List.set_cons_succ, i64_w, i32_w]
             rfl
            refine last_ (i := 15) (N := none) #[true, true, true, true, true, true, true, true, true, true, true, true, true, true, true, true] rfl rfl (one_of HT_.out (by kernel_rfl)) (by decide) (fun K hK => ?_)
            have hs66 : w64.cell? ⟨gb182, 3, none⟩ = some (u183003) := (blk_cell BK182.out 3).trans rfl
            have hfs66 := blk_frozen BK182.out 3
            have hns66_0 := NB178_182.out
            have hns66_1 := NB179_182.out
            have hns66_2 := NB180_182.out
            have hms66_0 := NB182_178.out
            have hms66_1 := NB182_179.out
            have hms66_2 := NB182_180.out
            refine skip_ (w1 := ?_) (by rfl) rfl ?_ ?_
            rotate_left
            ·go_simp
             rfl
            refine hK.out _ _ ?_
            clear hK K
            refine done_ (done_of HT_.out (by kernel_rfl)) ?_
            try go_wp2
            go_roundg k2
            case measure => have := HK1.out; have := HK2.out; omega
            case rel => exact ⟨(wrap64 (x9_2 + 1)), (y190), (y196), (y201), (.slice Ao51 y190.length co51), (.slice Ao58 y196.length co58), (.slice Ao65 y201.length co65), sm_, H', ⟨by have := HK1.out; have := HK2.out; omega⟩, ⟨by (with_reducible repeat (first | apply Kd.R_alloc | apply Kd.R_drewN | apply Kd.R_drew)); exact Kd.R_mono (Kd.R_far (p := ⟨gb182, 3, none⟩) (Kd.R_types HO192.out BK182.out (by decide)) (fun _ hk => hk.2) (.slice Ao65 y201.length co65)) (fun _ hk => hk.1)⟩, ⟨by (with_reducible repeat (first | apply Kd.R_alloc | apply Kd.R_drewN | apply Kd.R_drew)); exact Kd.R_mono (Kd.R_far (p := ⟨gb182, 3, none⟩) (Kd.R_types HO198.out BK182.out (by decide)) (fun _ hk => hk.2) (.slice Ao65 y201.length co65)) (fun _ hk => hk.1)⟩, ⟨by (with_reducible repeat (first | apply Kd.R_alloc | apply Kd.R_drewN | apply Kd.R_drew)); exact Kd.R_mono (Kd.R_far (p := ⟨gb182, 3, none⟩) (Kd.R_types HO203.out BK182.out (by decide)) (fun _ hk => hk.2) (.slice Ao65 y201.length co65)) (fun _ hk => trivial)⟩, ⟨by (with_reducible repeat (first | refine blk_drewN ?_ _ | refine blk_drew ?_ | refine blk_alloc ?_ _)); refine blk_far ?_ NB178_182.out _; (with_reducible repeat (first | refine blk_drewN ?_ _ | refine blk_drew ?_ | refine blk_alloc ?_ _)); exact BK178.out⟩, ⟨by (with_reducible repeat (first | refine blk_drewN ?_ _ | refine blk_drew ?_ | refine blk_alloc ?_ _)); refine blk_far ?_ NB179_182.out _; (with_reducible repeat (first | refine blk_drewN ?_ _ | refine blk_drew ?_ | refine blk_alloc ?_ _)); exact BK179.out⟩, ⟨by (with_reducible repeat (first | refine blk_drewN ?_ _ | refine blk_drew ?_ | refine blk_alloc ?_ _)); refine blk_far ?_ NB180_182.out _; (with_reducible repeat (first | refine blk_drewN ?_ _ | refine blk_drew ?_ | refine blk_alloc ?_ _)); exact BK180.out⟩, ⟨by (with_reducible repeat (first | refine blk_drewN ?_ _ | refine blk_drew ?_ | refine blk_alloc ?_ _)); refine blk_put (cs := #[.int .i64 (wrap64 (a0_0 * a1_0)), .slice Ao51 y190.length co51, .slice Ao58 y196.length co58, u183003]) ?_ 3 _ rfl; exact bz_ BK182.out⟩, ⟨bw4_ HB.out GE178.out GE179.out GE180.out GE182.out⟩⟩
           rw [if_neg c42] at H
           exact absurd H (by simp)
          replace c40 := Bool.eq_false_iff.mpr c40
          subst c40
          have H1 : (if x183003_2.length < 140737488355328 then (spec_ProductSystem.l1 k2 a1_0 x8_1 (wrap64 (x9_2 + 1)) a0_0 l0_1 l0_2 l0_3 a1_0 l1_1 l1_2 l1_3 (wrap64 (a0_0 * a1_0)) y190 y196 (x183003_2 ++ [false])) else (none)) = some (r1, r2, r3, r4, r5) := by rw [if_neg (show ¬ (false = true) by decide)] at H; exact H
          clear H
          have H := H1
          clear H1
          by_cases c67 : x183003_2.length < 140737488355328
          ·rw [if_pos c67] at H
           have LMc67 := sd_ c67
           clear c67
           obtain ⟨y204, hy204⟩ : ∃ y_ : List Bool, y_ = (x183003_2 ++ [false]) := ⟨_, rfl⟩
           replace H : (spec_ProductSystem.l1 k2 a1_0 x8_1 (wrap64 (x9_2 + 1)) a0_0 l0_1 l0_2 l0_3 a1_0 l1_1 l1_2 l1_3 (wrap64 (a0_0 * a1_0)) y190 y196 y204) = some (r1, r2, r3, r4, r5) := by first | (rw [hy204]; with_reducible exact H) | (have H2_ := (Option.bind_some _ _).symm.trans H; rw [hy204]; with_reducible exact H2_) | (have H2_ := (Option.bind_some _ _).symm.trans H; with_reducible exact H2_) | with_reducible exact H | (rw [hy204]; exact H) | exact H
           have Ny204 := sd_ hy204
           clear hy204
           have H' := sd_ H
           clear H
           have hnb68 := NB182_178.out
           have hnc68 := NB178_182.out
           have hnb69 := NB182_179.out
           have hnc69 := NB179_182.out
           have hnb70 := NB182_180.out
           have hnc70 := NB180_182.out
           obtain ⟨hcz71_0, hcz71_1, hcz71_2, hcz71_3, hfz71_0, hfz71_1, hfz71_2, hfz71_3⟩ := bf4_ BK182.out
           try go_wp2_with (first | ((with_reducible refine gate_callee (f := 37) rfl ?_); refine goesL_ (some 40) rfl rfl Try.func37 (by kernel_rfl) rfl #[.int .i64 a1_0, .int .i64 x8_1] rfl la_ ?_; (with_reducible refine (spec_l1First.calls a1_0 x8_1 t183 _ A27.out).mono ?_); rintro e w' ⟨rfl, ⟨nd, rfl⟩⟩; refine ⟨_, rfl, ?_⟩; (try (rw [drewN_self wr]; generalize hq_ : World.drewN wr _ = wr; have n0_ : Aside0 (Kd.R (Kd.int .i64) 3 wr w.heap.size (fun k_ => some k_ ≠ (u183002 : Value).ownBlock) u183001 x183001_2) := ⟨by rw [← hq_]; exact (ro_ HO_183001.out)⟩; have n1_ : Aside0 (Kd.R (Kd.int .i64) 3 wr w.heap.size (fun k_ => some k_ ≠ (u183001 : Value).ownBlock) u183002 x183002_2) := ⟨by rw [← hq_]; exact (ro_ HO_183002.out)⟩; have n2_ : Aside0 (Kd.R Kd.bool 4 wr w.heap.size (fun _ => True) u183003 x183003_2) := ⟨by rw [← hq_]; exact (ro_ HO_183003.out)⟩; have n3_ : Aside0 (wr.heap[gb178]? = some (.cells #[.int .i64 a0_0, .slice A0_1 l0_1.length c0_1, .slice A0_2 l0_2.length c0_2, .slice A0_3 l0_3.length c0_3] 27 (0, 0))) := ⟨by rw [← hq_]; exact (bz_ BK178.out)⟩; have n4_ : Aside0 (wr.heap[gb179]? = some (.cells #[.int .i64 a1_0, .slice A1_1 l1_1.length c1_1, .slice A1_2 l1_2.length c1_2, .slice A1_3 l1_3.length c1_3] 27 (0, 0))) := ⟨by rw [← hq_]; exact (bz_ BK179.out)⟩; have n5_ : Aside0 (wr.heap[gb180]? = some (.cells #[.int .i64 0, .slice none 0 0, .slice none 0 0, .slice none 0 0] 27 (0, 0))) := ⟨by rw [← hq_]; exact (bz_ BK180.out)⟩; have n6_ : Aside0 (wr.heap[gb182]? = some (.cells #[.int .i64 (wrap64 (a0_0 * a1_0)), u183001, u183002, u183003] 27 (0, 0))) := ⟨by rw [← hq_]; exact (bz_ BK182.out)⟩; have n7_ : Aside0 (Below w.heap.size w wr) := ⟨by rw [← hq_]; exact (bw4_ HB.out GE178.out GE179.out GE180.out GE182.out)⟩; clear HO_183001 HO_183002 HO_183003 BK178 BK179 BK180 BK182 HB hq_; have HO_183001 := n0_; have HO_183002 := n1_; have HO_183003 := n2_; have BK178 := n3_; have BK179 := n4_; have BK180 := n5_; have BK182 := n6_; have HB := n7_; clear n0_ n1_ n2_ n3_ n4_ n5_ n6_ n7_))) | ((with_reducible refine gate_callee (f := 38) rfl ?_); refine goesL_ (some 43) rfl rfl Try.func38 (by kernel_rfl) rfl #[.int .i64 a1_0, .int .i64 x8_1] rfl la_ ?_; (with_reducible refine (spec_l1Second.calls a1_0 x8_1 t184 _ A28.out).mono ?_); rintro e w' ⟨rfl, ⟨nd, rfl⟩⟩; refine ⟨_, rfl, ?_⟩; (try (rw [drewN_self wr]; generalize hq_ : World.drewN wr _ = wr; have n0_ : Aside0 (Kd.R (Kd.int .i64) 3 wr w.heap.size (fun k_ => some k_ ≠ (u183002 : Value).ownBlock) u183001 x183001_2) := ⟨by rw [← hq_]; exact (ro_ HO_183001.out)⟩; have n1_ : Aside0 (Kd.R (Kd.int .i64) 3 wr w.heap.size (fun k_ => some k_ ≠ (u183001 : Value).ownBlock) u183002 x183002_2) := ⟨by rw [← hq_]; exact (ro_ HO_183002.out)⟩; have n2_ : Aside0 (Kd.R Kd.bool 4 wr w.heap.size (fun _ => True) u183003 x183003_2) := ⟨by rw [← hq_]; exact (ro_ HO_183003.out)⟩; have n3_ : Aside0 (wr.heap[gb178]? = some (.cells #[.int .i64 a0_0, .slice A0_1 l0_1.length c0_1, .slice A0_2 l0_2.length c0_2, .slice A0_3 l0_3.length c0_3] 27 (0, 0))) := ⟨by rw [← hq_]; exact (bz_ BK178.out)⟩; have n4_ : Aside0 (wr.heap[gb179]? = some (.cells #[.int .i64 a1_0, .slice A1_1 l1_1.length c1_1, .slice A1_2 l1_2.length c1_2, .slice A1_3 l1_3.length c1_3] 27 (0, 0))) := ⟨by rw [← hq_]; exact (bz_ BK179.out)⟩; have n5_ : Aside0 (wr.heap[gb180]? = some (.cells #[.int .i64 0, .slice none 0 0, .slice none 0 0, .slice none 0 0] 27 (0, 0))) := ⟨by rw [← hq_]; exact (bz_ BK180.out)⟩; have n6_ : Aside0 (wr.heap[gb182]? = some (.cells #[.int .i64 (wrap64 (a0_0 * a1_0)), u183001, u183002, u183003] 27 (0, 0))) := ⟨by rw [← hq_]; exact (bz_ BK182.out)⟩; have n7_ : Aside0 (Below w.heap.size w wr) := ⟨by rw [← hq_]; exact (bw4_ HB.out GE178.out GE179.out GE180.out GE182.out)⟩; clear HO_183001 HO_183002 HO_183003 BK178 BK179 BK180 BK182 HB hq_; have HO_183001 := n0_; have HO_183002 := n1_; have HO_183003 := n2_; have BK178 := n3_; have BK179 := n4_; have BK180 := n5_; have BK182 := n6_; have HB := n7_; clear n0_ n1_ n2_ n3_ n4_ n5_ n6_ n7_))) | ((with_reducible refine gate_callee (f := 37) rfl ?_); refine goesL_ (some 46) rfl rfl Try.func37 (by kernel_rfl) rfl #[.int .i64 a1_0, .int .i64 x9_2] rfl la_ ?_; (with_reducible refine (spec_l1First.calls a1_0 x9_2 t185 _ A29.out).mono ?_); rintro e w' ⟨rfl, ⟨nd, rfl⟩⟩; refine ⟨_, rfl, ?_⟩; (try (rw [drewN_self wr]; generalize hq_ : World.drewN wr _ = wr; have n0_ : Aside0 (Kd.R (Kd.int .i64) 3 wr w.heap.size (fun k_ => some k_ ≠ (u183002 : Value).ownBlock) u183001 x183001_2) := ⟨by rw [← hq_]; exact (ro_ HO_183001.out)⟩; have n1_ : Aside0 (Kd.R (Kd.int .i64) 3 wr w.heap.size (fun k_ => some k_ ≠ (u183001 : Value).ownBlock) u183002 x183002_2) := ⟨by rw [← hq_]; exact (ro_ HO_183002.out)⟩; have n2_ : Aside0 (Kd.R Kd.bool 4 wr w.heap.size (fun _ => True) u183003 x183003_2) := ⟨by rw [← hq_]; exact (ro_ HO_183003.out)⟩; have n3_ : Aside0 (wr.heap[gb178]? = some (.cells #[.int .i64 a0_0, .slice A0_1 l0_1.length c0_1, .slice A0_2 l0_2.length c0_2, .slice A0_3 l0_3.length c0_3] 27 (0, 0))) := ⟨by rw [← hq_]; exact (bz_ BK178.out)⟩; have n4_ : Aside0 (wr.heap[gb179]? = some (.cells #[.int .i64 a1_0, .slice A1_1 l1_1.length c1_1, .slice A1_2 l1_2.length c1_2, .slice A1_3 l1_3.length c1_3] 27 (0, 0))) := ⟨by rw [← hq_]; exact (bz_ BK179.out)⟩; have n5_ : Aside0 (wr.heap[gb180]? = some (.cells #[.int .i64 0, .slice none 0 0, .slice none 0 0, .slice none 0 0] 27 (0, 0))) := ⟨by rw [← hq_]; exact (bz_ BK180.out)⟩; have n6_ : Aside0 (wr.heap[gb182]? = some (.cells #[.int .i64 (wrap64 (a0_0 * a1_0)), u183001, u183002, u183003] 27 (0, 0))) := ⟨by rw [← hq_]; exact (bz_ BK182.out)⟩; have n7_ : Aside0 (Below w.heap.size w wr) := ⟨by rw [← hq_]; exact (bw4_ HB.out GE178.out GE179.out GE180.out GE182.out)⟩; clear HO_183001 HO_183002 HO_183003 BK178 BK179 BK180 BK182 HB hq_; have HO_183001 := n0_; have HO_183002 := n1_; have HO_183003 := n2_; have BK178 := n3_; have BK179 := n4_; have BK180 := n5_; have BK182 := n6_; have HB := n7_; clear n0_ n1_ n2_ n3_ n4_ n5_ n6_ n7_))) | ((with_reducible refine gate_callee (f := 38) rfl ?_); refine goesL_ (some 49) rfl rfl Try.func38 (by kernel_rfl) rfl #[.int .i64 a1_0, .int .i64 x9_2] rfl la_ ?_; (with_reducible refine (spec_l1Second.calls a1_0 x9_2 t186 _ A30.out).mono ?_); rintro e w' ⟨rfl, ⟨nd, rfl⟩⟩; refine ⟨_, rfl, ?_⟩; (try (rw [drewN_self wr]; generalize hq_ : World.drewN wr _ = wr; have n0_ : Aside0 (Kd.R (Kd.int .i64) 3 wr w.heap.size (fun k_ => some k_ ≠ (u183002 : Value).ownBlock) u183001 x183001_2) := ⟨by rw [← hq_]; exact (ro_ HO_183001.out)⟩; have n1_ : Aside0 (Kd.R (Kd.int .i64) 3 wr w.heap.size (fun k_ => some k_ ≠ (u183001 : Value).ownBlock) u183002 x183002_2) := ⟨by rw [← hq_]; exact (ro_ HO_183002.out)⟩; have n2_ : Aside0 (Kd.R Kd.bool 4 wr w.heap.size (fun _ => True) u183003 x183003_2) := ⟨by rw [← hq_]; exact (ro_ HO_183003.out)⟩; have n3_ : Aside0 (wr.heap[gb178]? = some (.cells #[.int .i64 a0_0, .slice A0_1 l0_1.length c0_1, .slice A0_2 l0_2.length c0_2, .slice A0_3 l0_3.length c0_3] 27 (0, 0))) := ⟨by rw [← hq_]; exact (bz_ BK178.out)⟩; have n4_ : Aside0 (wr.heap[gb179]? = some (.cells #[.int .i64 a1_0, .slice A1_1 l1_1.length c1_1, .slice A1_2 l1_2.length c1_2, .slice A1_3 l1_3.length c1_3] 27 (0, 0))) := ⟨by rw [← hq_]; exact (bz_ BK179.out)⟩; have n5_ : Aside0 (wr.heap[gb180]? = some (.cells #[.int .i64 0, .slice none 0 0, .slice none 0 0, .slice none 0 0] 27 (0, 0))) := ⟨by rw [← hq_]; exact (bz_ BK180.out)⟩; have n6_ : Aside0 (wr.heap[gb182]? = some (.cells #[.int .i64 (wrap64 (a0_0 * a1_0)), u183001, u183002, u183003] 27 (0, 0))) := ⟨by rw [← hq_]; exact (bz_ BK182.out)⟩; have n7_ : Aside0 (Below w.heap.size w wr) := ⟨by rw [← hq_]; exact (bw4_ HB.out GE178.out GE179.out GE180.out GE182.out)⟩; clear HO_183001 HO_183002 HO_183003 BK178 BK179 BK180 BK182 HB hq_; have HO_183001 := n0_; have HO_183002 := n1_; have HO_183003 := n2_; have BK178 := n3_; have BK179 := n4_; have BK180 := n5_; have BK182 := n6_; have HB := n7_; clear n0_ n1_ n2_ n3_ n4_ n5_ n6_ n7_))))
           replace HO_183001 := sd_ (Kd.R_drew HO_183001.out)
           replace HO_183002 := sd_ (Kd.R_drew HO_183002.out)
           replace HO_183003 := sd_ (Kd.R_drew HO_183003.out)
           replace BK178 := sd_ (blk_drew BK178.out)
           replace BK179 := sd_ (blk_drew BK179.out)
           replace BK180 := sd_ (blk_drew BK180.out)
           replace BK182 := sd_ (blk_drew BK182.out)
           replace HB := sd_ (below_drew1 HB.out)
           refine start_ (n := 16) (S := fun w' => w'.cell? ⟨gb182, 0, none⟩ = some (.int .i64 (wrap64 (a0_0 * a1_0))) ∧ w'.cell? ⟨gb182, 1, none⟩ = some (u183001) ∧ w'.cell? ⟨gb182, 2, none⟩ = some (u183002) ∧ w'.cell? ⟨gb182, 3, none⟩ = some (u183003) ∧ w'.cell? ⟨gb178, 0, none⟩ = some (.int .i64 a0_0) ∧ w'.cell? ⟨gb178, 1, none⟩ = some (.slice A0_1 l0_1.length c0_1) ∧ w'.cell? ⟨gb178, 2, none⟩ = some (.slice A0_2 l0_2.length c0_2) ∧ w'.cell? ⟨gb178, 3, none⟩ = some (.slice A0_3 l0_3.length c0_3) ∧ w'.cell? ⟨gb179, 0, none⟩ = some (.int .i64 a1_0) ∧ w'.cell? ⟨gb179, 1, none⟩ = some (.slice A1_1 l1_1.length c1_1) ∧ w'.cell? ⟨gb179, 2, none⟩ = some (.slice A1_2 l1_2.length c1_2) ∧ w'.cell? ⟨gb179, 3, none⟩ = some (.slice A1_3 l1_3.length c1_3)) (ds := [15]) #[false, false, false, false, false, false, false, false, false, false, false, false, false, false, false, false] (by kernel_rfl) rfl rfl ⟨(blk_cell BK182.out 0).trans rfl, (blk_cell BK182.out 1).trans rfl, (blk_cell BK182.out 2).trans rfl, (blk_cell BK182.out 3).trans rfl, (blk_cell BK178.out 0).trans rfl, (blk_cell BK178.out 1).trans rfl, (blk_cell BK178.out 2).trans rfl, (blk_cell BK178.out 3).trans rfl, (blk_cell BK179.out 0).trans rfl, (blk_cell BK179.out 1).trans rfl, (blk_cell BK179.out 2).trans rfl, (blk_cell BK179.out 3).trans rfl⟩ (fun hHeld => ?_); refine with_tabW spec_ProductSystem.tab15 spec_ProductSystem.bits15 (fun HT_ HW_ => ?_)
           generalize wr.drew = w72 at HO_183001 HO_183002 HO_183003 BK178 BK179 BK180 BK182 HB hHeld ⊢
           refine pure_ (i := 0) (N := some 50) (v := ?_) (a' := ?_) #[true, false, false, false, false, false, false, false, false, false, false, false, false, false, false, false] rfl rfl (any_of HT_.out (by kernel_rfl)) (fun _ _ _ h => h) (Or.inl ⟨by rfl, ?_⟩) ?_ ?_
           rotate_left
           ·intro w'
            go_simp
            with_reducible rfl
           rotate_left
           ·simp only [Act.put, List.setIfInBounds_toArray, List.set_cons_zero, List.set_cons_succ, i64_w, i32_w]
            rfl
           refine pure_ (i := 2) (N := some 52) (v := ?_) (a' := ?_) #[true, false, true, false, false, false, false, false, false, false, false, false, false, false, false, false] rfl rfl (any_of HT_.out (by kernel_rfl)) (fun _ _ _ h => h) (Or.inl ⟨by rfl, ?_⟩) ?_ ?_
           rotate_left
           ·intro w'
            go_simp
            with_reducible rfl
           rotate_left
           ·simp only [Act.put, List.setIfInBounds_toArray, List.set_cons_zero, List.set_cons_succ, i64_w, i32_w]
            rfl
           refine pure_ (i := 4) (N := some 54) (v := ?_) (a' := ?_) #[true, false, true, false, true, false, false, false, false, false, false, false, false, false, false, false] rfl rfl (any_of HT_.out (by kernel_rfl)) (fun _ _ _ h => h) (Or.inl ⟨by rfl, ?_⟩) ?_ ?_
           rotate_left
           ·intro w'
            go_simp
            with_reducible rfl
           rotate_left
           ·simp only [Act.put, List.setIfInBounds_toArray, List.set_cons_zero, List.set_cons_succ, i64_w, i32_w]
            rfl
           refine pure_ (i := 5) (N := some 55) (v := ?_) (a' := ?_) #[true, false, true, false, true, true, false, false, false, false, false, false, false, false, false, false] rfl rfl (any_of HT_.out (by kernel_rfl)) (fun _ _ _ h => h) (Or.inl ⟨by rfl, ?_⟩) ?_ ?_
           rotate_left
           ·intro w'
            go_simp
            with_reducible rfl
           rotate_left
           ·simp only [Act.put, List.setIfInBounds_toArray, List.set_cons_zero, List.set_cons_succ, i64_w, i32_w]
            rfl
           refine pure_ (i := 8) (N := some 58) (v := ?_) (a' := ?_) #[true, false, true, false, true, true, false, false, true, false, false, false, false, false, false, false] rfl rfl (any_of HT_.out (by kernel_rfl)) (fun _ _ _ h => h) (Or.inl ⟨by rfl, ?_⟩) ?_ ?_
           rotate_left
           ·intro w'
            go_simp
            with_reducible rfl
           rotate_left
           ·simp only [Act.put, List.setIfInBounds_toArray, List.set_cons_zero, List.set_cons_succ, i64_w, i32_w]
            rfl
           refine pure_ (i := 9) (N := some 59) (v := ?_) (a' := ?_) #[true, false, true, false, true, true, false, false, true, true, false, false, false, false, false, false] rfl rfl (any_of HT_.out (by kernel_rfl)) (fun _ _ _ h => h) (Or.inl ⟨by rfl, ?_⟩) ?_ ?_
           rotate_left
           ·intro w'
            go_simp
            with_reducible rfl
           rotate_left
           ·simp only [Act.put, List.setIfInBounds_toArray, List.set_cons_zero, List.set_cons_succ, i64_w, i32_w]
            rfl
           refine take_ (i := 1) (N := some 51) (v := ?_) (a' := ?_) #[true, true, true, false, true, true, false, false, true, true, false, false, false, false, false, false] rfl rfl (take_ofW HT_.out HW_.out (by kernel_rfl)) (fun _ _ _ h => h) (Or.inl ⟨by rfl, ?_⟩) hHeld ?_ ?_
           rotate_left
           ·rintro w' ⟨s0, s1, s2, s3, s4, s5, s6, s7, s8, s9, s10, s11⟩
            go_simp
            with_reducible rfl
           rotate_left
           ·simp only [Act.put, List.setIfInBounds_toArray, List.set_cons_zero, List.set_cons_succ, i64_w, i32_w]
            rfl
           refine take_ (i := 3) (N := some 53) (v := ?_) (a' := ?_) #[true, true, true, true, true, true, false, false, true, true, false, false, false, false, false, false] rfl rfl (take_ofW HT_.out HW_.out (by kernel_rfl)) (fun _ _ _ h => h) (Or.inl ⟨by rfl, ?_⟩) hHeld ?_ ?_
           rotate_left
           ·rintro w' ⟨s0, s1, s2, s3, s4, s5, s6, s7, s8, s9, s10, s11⟩
            go_simp
            with_reducible rfl
           rotate_left
           ·simp only [Act.put, List.setIfInBounds_toArray, List.set_cons_zero, List.set_cons_succ, i64_w, i32_w]
            rfl
           refine take_ (i := 7) (N := some 57) (v := ?_) (a' := ?_) #[true, true, true, true, true, true, false, true, true, true, false, false, false, false, false, false] rfl rfl (take_ofW HT_.out HW_.out (by kernel_rfl)) (fun _ _ _ h => h) (Or.inl ⟨by rfl, ?_⟩) hHeld ?_ ?_
           rotate_left
           ·rintro w' ⟨s0, s1, s2, s3, s4, s5, s6, s7, s8, s9, s10, s11⟩
            go_simp
            with_reducible rfl
           rotate_left
           ·simp only [Act.put, List.setIfInBounds_toArray, List.set_cons_zero, List.set_cons_succ, i64_w, i32_w]
            rfl
           refine one_ (i := 6) (N := some 56) #[true, true, true, true, true, true, true, true, true, true, false, false, false, false, false, false] rfl rfl (one_of HT_.out (by kernel_rfl)) (by decide) (fun K hK => ?_)
           refine goes_ Try.func40 (by kernel_rfl) rfl #[.agg #[.int .i64 a0_0, .slice A0_1 l0_1.length c0_1, .slice A0_2 l0_2.length c0_2, .slice A0_3 l0_3.length c0_3], .int .i64 t183, .int .i64 t185] (by rfl) rfl rfl la_ ?_
           with_reducible refine (spec_l1Add.calls a0_0 _ _ l0_1 _ _ l0_2 _ _ l0_3 t183 t185 t187 _ ?side1 ?side2 ?side3 ?side4 ?side5 ?side6 A31.out).mono ?_
           (case side1 => exact kc_ HR0_1.out HB.out)
           (case side2 => exact HC0_1.out)
           (case side3 => exact kc_ HR0_2.out HB.out)
           (case side4 => exact HC0_2.out)
           (case side5 => exact kc_ HR0_3.out HB.out)
           (case side6 => exact HC0_3.out)
           rintro e w73 ⟨rfl, hb⟩
           refine ⟨_, rfl, ?_⟩
           replace HO_183001 := sd_ (Kd.R_below (ro_ HO_183001.out) hb)
           replace HO_183002 := sd_ (Kd.R_below (ro_ HO_183002.out) hb)
           replace HO_183003 := sd_ (Kd.R_below (ro_ HO_183003.out) hb)
           replace BK178 := sd_ (bb_ BK178.out hb)
           replace BK179 := sd_ (bb_ BK179.out hb)
           replace BK180 := sd_ (bb_ BK180.out hb)
           replace BK182 := sd_ (bb_ BK182.out hb)
           replace HB := sd_ (below_step (bw4_ HB.out GE178.out GE179.out GE180.out GE182.out) hb)
           (try clear hb)
           (try clear hb2)
           (try clear hk)
           (try clear hi)
           refine hK.out _ _ ⟨(blk_cell BK182.out 0).trans rfl, (blk_cell BK182.out 1).trans rfl, (blk_cell BK182.out 2).trans rfl, (blk_cell BK182.out 3).trans rfl, (blk_cell BK178.out 0).trans rfl, (blk_cell BK178.out 1).trans rfl, (blk_cell BK178.out 2).trans rfl, (blk_cell BK178.out 3).trans rfl, (blk_cell BK179.out 0).trans rfl, (blk_cell BK179.out 1).trans rfl, (blk_cell BK179.out 2).trans rfl, (blk_cell BK179.out 3).trans rfl⟩ (fun hHeld => ?_)
           clear hK K
           refine norm_ (a' := ?_) ?_ ?_
           rotate_left
           ·show Act.put _ (some 56) _ = _
            simp only [Act.put, List.setIfInBounds_toArray, List.set_cons_zero, List.set_cons_succ, i64_w, i32_w]
            rfl
           refine one_ (i := 10) (N := some 60) #[true, true, true, true, true, true, true, true, true, true, true, false, false, false, false, false] rfl rfl (one_of HT_.out (by kernel_rfl)) (by decide) (fun K hK => ?_)
           refine goes_ Try.func40 (by kernel_rfl) rfl #[.agg #[.int .i64 a1_0, .slice A1_1 l1_1.length c1_1, .slice A1_2 l1_2.length c1_2, .slice A1_3 l1_3.length c1_3], .int .i64 t184, .int .i64 t186] (by rfl) rfl rfl la_ ?_
           with_reducible refine (spec_l1Add.calls a1_0 _ _ l1_1 _ _ l1_2 _ _ l1_3 t184 t186 t188 _ ?side1 ?side2 ?side3 ?side4 ?side5 ?side6 A32.out).mono ?_
           (case side1 => exact kc_ HR1_1.out HB.out)
           (case side2 => exact HC1_1.out)
           (case side3 => exact kc_ HR1_2.out HB.out)
           (case side4 => exact HC1_2.out)
           (case side5 => exact kc_ HR1_3.out HB.out)
           (case side6 => exact HC1_3.out)
           rintro e w74 ⟨rfl, hb⟩
           refine ⟨_, rfl, ?_⟩
           replace HO_183001 := sd_ (Kd.R_below (ro_ HO_183001.out) hb)
           replace HO_183002 := sd_ (Kd.R_below (ro_ HO_183002.out) hb)
           replace HO_183003 := sd_ (Kd.R_below (ro_ HO_183003.out) hb)
           replace BK178 := sd_ (bb_ BK178.out hb)
           replace BK179 := sd_ (bb_ BK179.out hb)
           replace BK180 := sd_ (bb_ BK180.out hb)
           replace BK182 := sd_ (bb_ BK182.out hb)
           replace HB := sd_ (below_step (bw4_ HB.out GE178.out GE179.out GE180.out GE182.out) hb)
           (try clear hb)
           (try clear hb2)
           (try clear hk)
           (try clear hi)
           refine hK.out _ _ ⟨(blk_cell BK182.out 0).trans rfl, (blk_cell BK182.out 1).trans rfl, (blk_cell BK182.out 2).trans rfl, (blk_cell BK182.out 3).trans rfl, (blk_cell BK178.out 0).trans rfl, (blk_cell BK178.out 1).trans rfl, (blk_cell BK178.out 2).trans rfl, (blk_cell BK178.out 3).trans rfl, (blk_cell BK179.out 0).trans rfl, (blk_cell BK179.out 1).trans rfl, (blk_cell BK179.out 2).trans rfl, (blk_cell BK179.out 3).trans rfl⟩ (fun hHeld => ?_)
           clear hK K
           refine norm_ (a' := ?_) ?_ ?_
           rotate_left
           ·show Act.put _ (some 60) _ = _
            simp only [Act.put, List.setIfInBounds_toArray, List.set_cons_zero, List.set_cons_succ, i64_w, i32_w]
            rfl
           refine one_ (i := 11) (N := some 61) #[true, true, true, true, true, true, true, true, true, true, true, true, false, false, false, false] rfl rfl (one_of HT_.out (by kernel_rfl)) (by decide) (fun K hK => ?_)
           refine goes_ Try.func39 (by kernel_rfl) rfl #[.int .i64 a1_0, .int .i64 t187, .int .i64 t188] (by rfl) rfl rfl la_ ?_
           with_reducible refine (spec_l1Pair.calls a1_0 t187 t188 t189 _ A33.out).mono ?_
           rintro e w' ⟨rfl, ⟨nd, rfl⟩⟩
           refine ⟨_, rfl, ?_⟩
           refine hK.out _ _ ⟨(blk_cell BK182.out 0).trans rfl, (blk_cell BK182.out 1).trans rfl, (blk_cell BK182.out 2).trans rfl, (blk_cell BK182.out 3).trans rfl, (blk_cell BK178.out 0).trans rfl, (blk_cell BK178.out 1).trans rfl, (blk_cell BK178.out 2).trans rfl, (blk_cell BK178.out 3).trans rfl, (blk_cell BK179.out 0).trans rfl, (blk_cell BK179.out 1).trans rfl, (blk_cell BK179.out 2).trans rfl, (blk_cell BK179.out 3).trans rfl⟩ (fun hHeld => ?_)
           clear hK K
           refine norm_ (a' := ?_) ?_ ?_
           rotate_left
           ·show Act.put _ (some 61) _ = _
            simp only [Act.put, List.setIfInBounds_toArray, List.set_cons_zero, List.set_cons_succ, i64_w, i32_w]
            rfl
           refine one_ (i := 12) (N := some 62) #[true, true, true, true, true, true, true, true, true, true, true, true, true, false, false, false] rfl rfl (one_of HT_.out (by kernel_rfl)) (by decide) (fun K hK => ?_)
           refine value_ (w1 := ?_) (v := ?_) (by rfl) rfl ?_ ?_
           rotate_left 2
           ·go_simp
            constructor
            ·rfl
            rfl
           refine hK.out _ _ ⟨(blk_cell (blk_alloc BK182.out _) 0).trans rfl, (blk_cell (blk_alloc BK182.out _) 1).trans rfl, (blk_cell (blk_alloc BK182.out _) 2).trans rfl, (blk_cell (blk_alloc BK182.out _) 3).trans rfl, (blk_cell (blk_alloc BK178.out _) 0).trans rfl, (blk_cell (blk_alloc BK178.out _) 1).trans rfl, (blk_cell (blk_alloc BK178.out _) 2).trans rfl, (blk_cell (blk_alloc BK178.out _) 3).trans rfl, (blk_cell (blk_alloc BK179.out _) 0).trans rfl, (blk_cell (blk_alloc BK179.out _) 1).trans rfl, (blk_cell (blk_alloc BK179.out _) 2).trans rfl, (blk_cell (blk_alloc BK179.out _) 3).trans rfl⟩ (fun hHeld => ?_)
           clear hK K
           refine norm_ (a' := ?_) ?_ ?_
           rotate_left
           ·show Act.put _ (some 62) _ = _
            simp only [Act.put, List.setIfInBounds_toArray, List.set_cons_zero, List.set_cons_succ, i64_w, i32_w]
            rfl
           refine one_ (i := 13) (N := some 63) #[true, true, true, true, true, true, true, true, true, true, true, true, true, true, false, false] rfl rfl (one_of HT_.out (by kernel_rfl)) (by decide) (fun K hK => ?_)
           refine Kd.R_append_step (Kd.int .i64) (w0 := w) w.heap.size (by rfl) (.tmp 51) (.tmp 62) 22 3 (.int .i64 0) 8 rfl Try.underlying22 info3 rfl (by decide) (by omega) u183001 x183001_2 t189 [.int .i64 t189] (fun k_ => some k_ ≠ (u183002 : Value).ownBlock) (fun _ => False) rfl rfl ?aP (fun _ hk => hk.elim) ?aF ?aO ?aB ?aS ?aL ?_
           (case aP => exact rfl)
           (case aB => exact (bw4_ HB.out GE178.out GE179.out GE180.out GE182.out))
           (case aF => exact (fun k_ hk => Kd.fresh' (Kd.R_lt (ro_ HO_183002.out)) k_ hk))
           (case aO => exact (ro_ HO_183001.out))
           (case aS => exact (below_size (bw4_ HB.out GE178.out GE179.out GE180.out GE182.out)))
           (case aL => have := LMc34.out; omega)
           intro v191 w75 ho hb hg hat
           rw [← Ny190.out] at ho
           have n0_ := sd_ (Kd.R_after (ok := (fun _ => True)) (by (with_reducible repeat (first | apply Kd.R_alloc | apply Kd.R_drewN | apply Kd.R_drew)); exact Kd.R_mono HO_183002.out (fun _ hk => ⟨trivial, hk⟩)) hg hat)
           have n1_ := sd_ (Kd.R_over' (ro_ HO_183003.out) (Kd.R_typed (ro_ HO_183001.out)) (by decide) hg)
           have n2_ := sd_ (blk_grown (g := gb178) (o := .cells #[.int .i64 a0_0, .slice A0_1 l0_1.length c0_1, .slice A0_2 l0_2.length c0_2, .slice A0_3 l0_3.length c0_3] 27 (0, 0)) (bz_ BK178.out) hg (Kd.R_ne HO_183001.out BK178.out (by decide)))
           have n3_ := sd_ (blk_grown (g := gb179) (o := .cells #[.int .i64 a1_0, .slice A1_1 l1_1.length c1_1, .slice A1_2 l1_2.length c1_2, .slice A1_3 l1_3.length c1_3] 27 (0, 0)) (bz_ BK179.out) hg (Kd.R_ne HO_183001.out BK179.out (by decide)))
           have n4_ := sd_ (blk_grown (g := gb180) (o := .cells #[.int .i64 0, .slice none 0 0, .slice none 0 0, .slice none 0 0] 27 (0, 0)) (bz_ BK180.out) hg (Kd.R_ne HO_183001.out BK180.out (by decide)))
           have n5_ := sd_ (blk_grown (g := gb182) (o := .cells #[.int .i64 (wrap64 (a0_0 * a1_0)), u183001, u183002, u183003] 27 (0, 0)) (bz_ BK182.out) hg (Kd.R_ne HO_183001.out BK182.out (by decide)))
           have n6_ := sd_ (hb)
           have n7_ := sd_ (ho)
           clear HO_183002
           clear HO_183003
           clear BK178
           clear BK179
           clear BK180
           clear BK182
           clear HB
           clear HO_183001
           have HO_183002 := n0_
           have HO_183003 := n1_
           have BK178 := n2_
           have BK179 := n3_
           have BK180 := n4_
           have BK182 := n5_
           have HB := n6_
           have HO192 := n7_
           clear n0_ n1_ n2_ n3_ n4_ n5_ n6_ n7_
           clear ho hb hg hat
           obtain ⟨Ao76, co76, eo76⟩ := Kd.R_slice HO192.out
           (first | subst eo76 | (injection eo76 with f1_ f2_ f3_; have f4_ := f1_.symm; have f5_ := f3_.symm; clear f1_ f2_ f3_; subst f4_; subst f5_))
           refine hK.out _ _ ⟨(blk_cell BK182.out 0).trans rfl, (blk_cell BK182.out 1).trans rfl, (blk_cell BK182.out 2).trans rfl, (blk_cell BK182.out 3).trans rfl, (blk_cell BK178.out 0).trans rfl, (blk_cell BK178.out 1).trans rfl, (blk_cell BK178.out 2).trans rfl, (blk_cell BK178.out 3).trans rfl, (blk_cell BK179.out 0).trans rfl, (blk_cell BK179.out 1).trans rfl, (blk_cell BK179.out 2).trans rfl, (blk_cell BK179.out 3).trans rfl⟩ (fun hHeld => ?_)
           clear hK K
           refine norm_ (a' := ?_) ?_ ?_
           rotate_left
           ·show Act.put _ (some 63) _ = _
            simp only [Act.put, List.setIfInBounds_toArray, List.set_cons_zero, List.set_cons_succ, i64_w, i32_w]
            rfl
           refine pure_ (i := 14) (N := some 64) (v := ?_) (a' := ?_) #[true, true, true, true, true, true, true, true, true, true, true, true, true, true, true, false] rfl rfl (any_of HT_.out (by kernel_rfl)) (fun _ _ _ h => h) (Or.inl ⟨by rfl, ?_⟩) ?_ ?_
           rotate_left
           ·intro w'
            go_simp
            with_reducible rfl
           rotate_left
           ·simp only [Act.put, List.setIfInBounds_toArray, List.set_cons_zero, List.set_cons_succ, i64_w, i32_w]
            rfl
           refine last_ (i := 15) (N := none) #[true, true, true, true, true, true, true, true, true, true, true, true, true, true, true, true] rfl rfl (one_of HT_.out (by kernel_rfl)) (by decide) (fun K hK => ?_)
           have hs77 : w75.cell? ⟨gb182, 1, none⟩ = some (u183001) := (blk_cell BK182.out 1).trans rfl
           have hfs77 := blk_frozen BK182.out 1
           have hns77_0 := NB178_182.out
           have hns77_1 := NB179_182.out
           have hns77_2 := NB180_182.out
           have hms77_0 := NB182_178.out
           have hms77_1 := NB182_179.out
           have hms77_2 := NB182_180.out
           refine skip_ (w1 := ?_) (by rfl) rfl ?_ ?_
           rotate_left
           ·go_simp
            rfl
           refine hK.out _ _ ?_
           clear hK K
           refine done_ (done_of HT_.out (by kernel_rfl)) ?_
           try go_wp2
           have n0_ : Aside0 (Kd.R (Kd.int .i64) 3 (w75.setCell ⟨gb182, 1, none⟩ (.slice Ao76 y190.length co76)) w.heap.size (fun k_ => some k_ ≠ (.slice Ao76 y190.length co76 : Value).ownBlock) u183002 x183002_2) := ⟨by (with_reducible repeat (first | apply Kd.R_alloc | apply Kd.R_drewN | apply Kd.R_drew)); exact Kd.R_mono (Kd.R_far (p := ⟨gb182, 1, none⟩) (Kd.R_types HO_183002.out BK182.out (by decide)) (fun _ hk => hk.2) (.slice Ao76 y190.length co76)) (fun _ hk => hk.1.2)⟩
           have n1_ : Aside0 (Kd.R Kd.bool 4 (w75.setCell ⟨gb182, 1, none⟩ (.slice Ao76 y190.length co76)) w.heap.size (fun _ => True) u183003 x183003_2) := ⟨by (with_reducible repeat (first | apply Kd.R_alloc | apply Kd.R_drewN | apply Kd.R_drew)); exact Kd.R_mono (Kd.R_far (p := ⟨gb182, 1, none⟩) (Kd.R_types HO_183003.out BK182.out (by decide)) (fun _ hk => hk.2) (.slice Ao76 y190.length co76)) (fun _ hk => trivial)⟩
           have n2_ : Aside0 (Kd.R (Kd.int .i64) 3 (w75.setCell ⟨gb182, 1, none⟩ (.slice Ao76 y190.length co76)) w.heap.size (fun k_ => some k_ ≠ (u183002 : Value).ownBlock) (.slice Ao76 y190.length co76) y190) := ⟨by (with_reducible repeat (first | apply Kd.R_alloc | apply Kd.R_drewN | apply Kd.R_drew)); exact Kd.R_mono (Kd.R_far (p := ⟨gb182, 1, none⟩) (Kd.R_types HO192.out BK182.out (by decide)) (fun _ hk => hk.2) (.slice Ao76 y190.length co76)) (fun _ hk => hk.1)⟩
           have n3_ : Aside0 ((w75.setCell ⟨gb182, 1, none⟩ (.slice Ao76 y190.length co76)).heap[gb178]? = some (.cells #[.int .i64 a0_0, .slice A0_1 l0_1.length c0_1, .slice A0_2 l0_2.length c0_2, .slice A0_3 l0_3.length c0_3] 27 (0, 0))) := ⟨by (with_reducible repeat (first | refine blk_drewN ?_ _ | refine blk_drew ?_ | refine blk_alloc ?_ _)); refine blk_far ?_ NB178_182.out _; (with_reducible repeat (first | refine blk_drewN ?_ _ | refine blk_drew ?_ | refine blk_alloc ?_ _)); exact BK178.out⟩
           have n4_ : Aside0 ((w75.setCell ⟨gb182, 1, none⟩ (.slice Ao76 y190.length co76)).heap[gb179]? = some (.cells #[.int .i64 a1_0, .slice A1_1 l1_1.length c1_1, .slice A1_2 l1_2.length c1_2, .slice A1_3 l1_3.length c1_3] 27 (0, 0))) := ⟨by (with_reducible repeat (first | refine blk_drewN ?_ _ | refine blk_drew ?_ | refine blk_alloc ?_ _)); refine blk_far ?_ NB179_182.out _; (with_reducible repeat (first | refine blk_drewN ?_ _ | refine blk_drew ?_ | refine blk_alloc ?_ _)); exact BK179.out⟩
           have n5_ : Aside0 ((w75.setCell ⟨gb182, 1, none⟩ (.slice Ao76 y190.length co76)).heap[gb180]? = some (.cells #[.int .i64 0, .slice none 0 0, .slice none 0 0, .slice none 0 0] 27 (0, 0))) := ⟨by (with_reducible repeat (first | refine blk_drewN ?_ _ | refine blk_drew ?_ | refine blk_alloc ?_ _)); refine blk_far ?_ NB180_182.out _; (with_reducible repeat (first | refine blk_drewN ?_ _ | refine blk_drew ?_ | refine blk_alloc ?_ _)); exact BK180.out⟩
           have n6_ : Aside0 ((w75.setCell ⟨gb182, 1, none⟩ (.slice Ao76 y190.length co76)).heap[gb182]? = some (.cells #[.int .i64 (wrap64 (a0_0 * a1_0)), .slice Ao76 y190.length co76, u183002, u183003] 27 (0, 0))) := ⟨by (with_reducible repeat (first | refine blk_drewN ?_ _ | refine blk_drew ?_ | refine blk_alloc ?_ _)); refine blk_put (cs := #[.int .i64 (wrap64 (a0_0 * a1_0)), u183001, u183002, u183003]) ?_ 1 _ rfl; exact bz_ BK182.out⟩
           have n7_ : Aside0 (Below w.heap.size w (w75.setCell ⟨gb182, 1, none⟩ (.slice Ao76 y190.length co76))) := ⟨bw4_ HB.out GE178.out GE179.out GE180.out GE182.out⟩
           (try clear HO_183002)
           (try clear HO_183003)
           (try clear HO192)
           (try clear BK178)
           (try clear BK179)
           (try clear BK180)
           (try clear BK182)
           (try clear HB)
           generalize (w75.setCell ⟨gb182, 1, none⟩ (.slice Ao76 y190.length co76)) = w78 at n0_ n1_ n2_ n3_ n4_ n5_ n6_ n7_ ⊢
           have HO_183002 := n0_
           have HO_183003 := n1_
           have HO192 := n2_
           have BK178 := n3_
           have BK179 := n4_
           have BK180 := n5_
           have BK182 := n6_
           have HB := n7_
           clear n0_ n1_ n2_ n3_ n4_ n5_ n6_ n7_
           replace HO_183002 := sd_ (Kd.R_drew HO_183002.out)
           replace HO_183003 := sd_ (Kd.R_drew HO_183003.out)
           replace HO192 := sd_ (Kd.R_drew HO192.out)
           replace BK178 := sd_ (blk_drew BK178.out)
           replace BK179 := sd_ (blk_drew BK179.out)
           replace BK180 := sd_ (blk_drew BK180.out)
           replace BK182 := sd_ (blk_drew BK182.out)
           replace HB := sd_ (below_drew1 HB.out)
           refine start_ (n := 16) (S := fun w' => w'.cell? ⟨gb182, 0, none⟩ = some (.int .i64 (wrap64 (a0_0 * a1_0))) ∧ w'.cell? ⟨gb182, 1, none⟩ = some (.slice Ao76 y190.length co76) ∧ w'.cell? ⟨gb182, 2, none⟩ = some (u183002) ∧ w'.cell? ⟨gb182, 3, none⟩ = some (u183003) ∧ w'.cell? ⟨gb178, 0, none⟩ = some (.int .i64 a0_0) ∧ w'.cell? ⟨gb178, 1, none⟩ = some (.slice A0_1 l0_1.length c0_1) ∧ w'.cell? ⟨gb178, 2, none⟩ = some (.slice A0_2 l0_2.length c0_2) ∧ w'.cell? ⟨gb178, 3, none⟩ = some (.slice A0_3 l0_3.length c0_3) ∧ w'.cell? ⟨gb179, 0, none⟩ = some (.int .i64 a1_0) ∧ w'.cell? ⟨gb179, 1, none⟩ = some (.slice A1_1 l1_1.length c1_1) ∧ w'.cell? ⟨gb179, 2, none⟩ = some (.slice A1_2 l1_2.length c1_2) ∧ w'.cell? ⟨gb179, 3, none⟩ = some (.slice A1_3 l1_3.length c1_3)) (ds := [15]) #[false, false, false, false, false, false, false, false, false, false, false, false, false, false, false, false] (by kernel_rfl) rfl rfl ⟨(blk_cell BK182.out 0).trans rfl, (blk_cell BK182.out 1).trans rfl, (blk_cell BK182.out 2).trans rfl, (blk_cell BK182.out 3).trans rfl, (blk_cell BK178.out 0).trans rfl, (blk_cell BK178.out 1).trans rfl, (blk_cell BK178.out 2).trans rfl, (blk_cell BK178.out 3).trans rfl, (blk_cell BK179.out 0).trans rfl, (blk_cell BK179.out 1).trans rfl, (blk_cell BK179.out 2).trans rfl, (blk_cell BK179.out 3).trans rfl⟩ (fun hHeld => ?_); refine with_tabW spec_ProductSystem.tab16 spec_ProductSystem.bits16 (fun HT_ HW_ => ?_)
           generalize w78.drew = w79 at HO_183002 HO_183003 HO192 BK178 BK179 BK180 BK182 HB hHeld ⊢
           refine pure_ (i := 0) (N := some 65) (v := ?_) (a' := ?_) #[true, false, false, false, false, false, false, false, false, false, false, false, false, false, false, false] rfl rfl (any_of HT_.out (by kernel_rfl)) (fun _ _ _ h => h) (Or.inl ⟨by rfl, ?_⟩) ?_ ?_
           rotate_left
           ·intro w'
            go_simp
            with_reducible rfl
           rotate_left
           ·simp only [Act.put, List.setIfInBounds_toArray, List.set_cons_zero, List.set_cons_succ, i64_w, i32_w]
            rfl
           refine pure_ (i := 2) (N := some 67) (v := ?_) (a' := ?_) #[true, false, true, false, false, false, false, false, false, false, false, false, false, false, false, false] rfl rfl (any_of HT_.out (by kernel_rfl)) (fun _ _ _ h => h) (Or.inl ⟨by rfl, ?_⟩) ?_ ?_
           rotate_left
           ·intro w'
            go_simp
            with_reducible rfl
           rotate_left
           ·simp only [Act.put, List.setIfInBounds_toArray, List.set_cons_zero, List.set_cons_succ, i64_w, i32_w]
            rfl
           refine pure_ (i := 4) (N := some 69) (v := ?_) (a' := ?_) #[true, false, true, false, true, false, false, false, false, false, false, false, false, false, false, false] rfl rfl (any_of HT_.out (by kernel_rfl)) (fun _ _ _ h => h) (Or.inl ⟨by rfl, ?_⟩) ?_ ?_
           rotate_left
           ·intro w'
            go_simp
            with_reducible rfl
           rotate_left
           ·simp only [Act.put, List.setIfInBounds_toArray, List.set_cons_zero, List.set_cons_succ, i64_w, i32_w]
            rfl
           refine pure_ (i := 5) (N := some 70) (v := ?_) (a' := ?_) #[true, false, true, false, true, true, false, false, false, false, false, false, false, false, false, false] rfl rfl (any_of HT_.out (by kernel_rfl)) (fun _ _ _ h => h) (Or.inl ⟨by rfl, ?_⟩) ?_ ?_
           rotate_left
           ·intro w'
            go_simp
            with_reducible rfl
           rotate_left
           ·simp only [Act.put, List.setIfInBounds_toArray, List.set_cons_zero, List.set_cons_succ, i64_w, i32_w]
            rfl
           refine pure_ (i := 8) (N := some 73) (v := ?_) (a' := ?_) #[true, false, true, false, true, true, false, false, true, false, false, false, false, false, false, false] rfl rfl (any_of HT_.out (by kernel_rfl)) (fun _ _ _ h => h) (Or.inl ⟨by rfl, ?_⟩) ?_ ?_
           rotate_left
           ·intro w'
            go_simp
            with_reducible rfl
           rotate_left
           ·simp only [Act.put, List.setIfInBounds_toArray, List.set_cons_zero, List.set_cons_succ, i64_w, i32_w]
            rfl
           refine pure_ (i := 9) (N := some 74) (v := ?_) (a' := ?_) #[true, false, true, false, true, true, false, false, true, true, false, false, false, false, false, false] rfl rfl (any_of HT_.out (by kernel_rfl)) (fun _ _ _ h => h) (Or.inl ⟨by rfl, ?_⟩) ?_ ?_
           rotate_left
           ·intro w'
            go_simp
            with_reducible rfl
           rotate_left
           ·simp only [Act.put, List.setIfInBounds_toArray, List.set_cons_zero, List.set_cons_succ, i64_w, i32_w]
            rfl
           refine take_ (i := 1) (N := some 66) (v := ?_) (a' := ?_) #[true, true, true, false, true, true, false, false, true, true, false, false, false, false, false, false] rfl rfl (take_ofW HT_.out HW_.out (by kernel_rfl)) (fun _ _ _ h => h) (Or.inl ⟨by rfl, ?_⟩) hHeld ?_ ?_
           rotate_left
           ·rintro w' ⟨s0, s1, s2, s3, s4, s5, s6, s7, s8, s9, s10, s11⟩
            go_simp
            with_reducible rfl
           rotate_left
           ·simp only [Act.put, List.setIfInBounds_toArray, List.set_cons_zero, List.set_cons_succ, i64_w, i32_w]
            rfl
           refine take_ (i := 3) (N := some 68) (v := ?_) (a' := ?_) #[true, true, true, true, true, true, false, false, true, true, false, false, false, false, false, false] rfl rfl (take_ofW HT_.out HW_.out (by kernel_rfl)) (fun _ _ _ h => h) (Or.inl ⟨by rfl, ?_⟩) hHeld ?_ ?_
           rotate_left
           ·rintro w' ⟨s0, s1, s2, s3, s4, s5, s6, s7, s8, s9, s10, s11⟩
            go_simp
            with_reducible rfl
           rotate_left
           ·simp only [Act.put, List.setIfInBounds_toArray, List.set_cons_zero, List.set_cons_succ, i64_w, i32_w]
            rfl
           refine take_ (i := 7) (N := some 72) (v := ?_) (a' := ?_) #[true, true, true, true, true, true, false, true, true, true, false, false, false, false, false, false] rfl rfl (take_ofW HT_.out HW_.out (by kernel_rfl)) (fun _ _ _ h => h) (Or.inl ⟨by rfl, ?_⟩) hHeld ?_ ?_
           rotate_left
           ·rintro w' ⟨s0, s1, s2, s3, s4, s5, s6, s7, s8, s9, s10, s11⟩
            go_simp
            with_reducible rfl
           rotate_left
           ·simp only [Act.put, List.setIfInBounds_toArray, List.set_cons_zero, List.set_cons_succ, i64_w, i32_w]
            rfl
           refine one_ (i := 6) (N := some 71) #[true, true, true, true, true, true, true, true, true, true, false, false, false, false, false, false] rfl rfl (one_of HT_.out (by kernel_rfl)) (by decide) (fun K hK => ?_)
           refine goes_ Try.func41 (by kernel_rfl) rfl #[.agg #[.int .i64 a0_0, .slice A0_1 l0_1.length c0_1, .slice A0_2 l0_2.length c0_2, .slice A0_3 l0_3.length c0_3], .int .i64 t183, .int .i64 t185] (by rfl) rfl rfl la_ ?_
           with_reducible refine (spec_l1Mul.calls a0_0 _ _ l0_1 _ _ l0_2 _ _ l0_3 t183 t185 t193 _ ?side1 ?side2 ?side3 ?side4 ?side5 ?side6 A35.out).mono ?_
           (case side1 => exact kc_ HR0_1.out HB.out)
           (case side2 => exact HC0_1.out)
           (case side3 => exact kc_ HR0_2.out HB.out)
           (case side4 => exact HC0_2.out)
           (case side5 => exact kc_ HR0_3.out HB.out)
           (case side6 => exact HC0_3.out)
           rintro e w80 ⟨rfl, hb⟩
           refine ⟨_, rfl, ?_⟩
           replace HO_183002 := sd_ (Kd.R_below (ro_ HO_183002.out) hb)
           replace HO_183003 := sd_ (Kd.R_below (ro_ HO_183003.out) hb)
           replace HO192 := sd_ (Kd.R_below (ro_ HO192.out) hb)
           replace BK178 := sd_ (bb_ BK178.out hb)
           replace BK179 := sd_ (bb_ BK179.out hb)
           replace BK180 := sd_ (bb_ BK180.out hb)
           replace BK182 := sd_ (bb_ BK182.out hb)
           replace HB := sd_ (below_step (bw4_ HB.out GE178.out GE179.out GE180.out GE182.out) hb)
           (try clear hb)
           (try clear hb2)
           (try clear hk)
           (try clear hi)
           refine hK.out _ _ ⟨(blk_cell BK182.out 0).trans rfl, (blk_cell BK182.out 1).trans rfl, (blk_cell BK182.out 2).trans rfl, (blk_cell BK182.out 3).trans rfl, (blk_cell BK178.out 0).trans rfl, (blk_cell BK178.out 1).trans rfl, (blk_cell BK178.out 2).trans rfl, (blk_cell BK178.out 3).trans rfl, (blk_cell BK179.out 0).trans rfl, (blk_cell BK179.out 1).trans rfl, (blk_cell BK179.out 2).trans rfl, (blk_cell BK179.out 3).trans rfl⟩ (fun hHeld => ?_)
           clear hK K
           refine norm_ (a' := ?_) ?_ ?_
           rotate_left
           ·show Act.put _ (some 71) _ = _
            simp only [Act.put, List.setIfInBounds_toArray, List.set_cons_zero, List.set_cons_succ, i64_w, i32_w]
            rfl
           refine one_ (i := 10) (N := some 75) #[true, true, true, true, true, true, true, true, true, true, true, false, false, false, false, false] rfl rfl (one_of HT_.out (by kernel_rfl)) (by decide) (fun K hK => ?_)
           refine goes_ Try.func41 (by kernel_rfl) rfl #[.agg #[.int .i64 a1_0, .slice A1_1 l1_1.length c1_1, .slice A1_2 l1_2.length c1_2, .slice A1_3 l1_3.length c1_3], .int .i64 t184, .int .i64 t186] (by rfl) rfl rfl la_ ?_
           with_reducible refine (spec_l1Mul.calls a1_0 _ _ l1_1 _ _ l1_2 _ _ l1_3 t184 t186 t194 _ ?side1 ?side2 ?side3 ?side4 ?side5 ?side6 A36.out).mono ?_
           (case side1 => exact kc_ HR1_1.out HB.out)
           (case side2 => exact HC1_1.out)
           (case side3 => exact kc_ HR1_2.out HB.out)
           (case side4 => exact HC1_2.out)
           (case side5 => exact kc_ HR1_3.out HB.out)
           (case side6 => exact HC1_3.out)
           rintro e w81 ⟨rfl, hb⟩
           refine ⟨_, rfl, ?_⟩
           replace HO_183002 := sd_ (Kd.R_below (ro_ HO_183002.out) hb)
           replace HO_183003 := sd_ (Kd.R_below (ro_ HO_183003.out) hb)
           replace HO192 := sd_ (Kd.R_below (ro_ HO192.out) hb)
           replace BK178 := sd_ (bb_ BK178.out hb)
           replace BK179 := sd_ (bb_ BK179.out hb)
           replace BK180 := sd_ (bb_ BK180.out hb)
           replace BK182 := sd_ (bb_ BK182.out hb)
           replace HB := sd_ (below_step (bw4_ HB.out GE178.out GE179.out GE180.out GE182.out) hb)
           (try clear hb)
           (try clear hb2)
           (try clear hk)
           (try clear hi)
           refine hK.out _ _ ⟨(blk_cell BK182.out 0).trans rfl, (blk_cell BK182.out 1).trans rfl, (blk_cell BK182.out 2).trans rfl, (blk_cell BK182.out 3).trans rfl, (blk_cell BK178.out 0).trans rfl, (blk_cell BK178.out 1).trans rfl, (blk_cell BK178.out 2).trans rfl, (blk_cell BK178.out 3).trans rfl, (blk_cell BK179.out 0).trans rfl, (blk_cell BK179.out 1).trans rfl, (blk_cell BK179.out 2).trans rfl, (blk_cell BK179.out 3).trans rfl⟩ (fun hHeld => ?_)
           clear hK K
           refine norm_ (a' := ?_) ?_ ?_
           rotate_left
           ·show Act.put _ (some 75) _ = _
            simp only [Act.put, List.setIfInBounds_toArray, List.set_cons_zero, List.set_cons_succ, i64_w, i32_w]
            rfl
           refine one_ (i := 11) (N := some 76) #[true, true, true, true, true, true, true, true, true, true, true, true, false, false, false, false] rfl rfl (one_of HT_.out (by kernel_rfl)) (by decide) (fun K hK => ?_)
           refine goes_ Try.func39 (by kernel_rfl) rfl #[.int .i64 a1_0, .int .i64 t193, .int .i64 t194] (by rfl) rfl rfl la_ ?_
           with_reducible refine (spec_l1Pair.calls a1_0 t193 t194 t195 _ A37.out).mono ?_
           rintro e w' ⟨rfl, ⟨nd, rfl⟩⟩
           refine ⟨_, rfl, ?_⟩
           refine hK.out _ _ ⟨(blk_cell BK182.out 0).trans rfl, (blk_cell BK182.out 1).trans rfl, (blk_cell BK182.out 2).trans rfl, (blk_cell BK182.out 3).trans rfl, (blk_cell BK178.out 0).trans rfl, (blk_cell BK178.out 1).trans rfl, (blk_cell BK178.out 2).trans rfl, (blk_cell BK178.out 3).trans rfl, (blk_cell BK179.out 0).trans rfl, (blk_cell BK179.out 1).trans rfl, (blk_cell BK179.out 2).trans rfl, (blk_cell BK179.out 3).trans rfl⟩ (fun hHeld => ?_)
           clear hK K
           refine norm_ (a' := ?_) ?_ ?_
           rotate_left
           ·show Act.put _ (some 76) _ = _
            simp only [Act.put, List.setIfInBounds_toArray, List.set_cons_zero, List.set_cons_succ, i64_w, i32_w]
            rfl
           refine one_ (i := 12) (N := some 77) #[true, true, true, true, true, true, true, true, true, true, true, true, true, false, false, false] rfl rfl (one_of HT_.out (by kernel_rfl)) (by decide) (fun K hK => ?_)
           refine value_ (w1 := ?_) (v := ?_) (by rfl) rfl ?_ ?_
           rotate_left 2
           ·go_simp
            constructor
            ·rfl
            rfl
           refine hK.out _ _ ⟨(blk_cell (blk_alloc BK182.out _) 0).trans rfl, (blk_cell (blk_alloc BK182.out _) 1).trans rfl, (blk_cell (blk_alloc BK182.out _) 2).trans rfl, (blk_cell (blk_alloc BK182.out _) 3).trans rfl, (blk_cell (blk_alloc BK178.out _) 0).trans rfl, (blk_cell (blk_alloc BK178.out _) 1).trans rfl, (blk_cell (blk_alloc BK178.out _) 2).trans rfl, (blk_cell (blk_alloc BK178.out _) 3).trans rfl, (blk_cell (blk_alloc BK179.out _) 0).trans rfl, (blk_cell (blk_alloc BK179.out _) 1).trans rfl, (blk_cell (blk_alloc BK179.out _) 2).trans rfl, (blk_cell (blk_alloc BK179.out _) 3).trans rfl⟩ (fun hHeld => ?_)
           clear hK K
           refine norm_ (a' := ?_) ?_ ?_
           rotate_left
           ·show Act.put _ (some 77) _ = _
            simp only [Act.put, List.setIfInBounds_toArray, List.set_cons_zero, List.set_cons_succ, i64_w, i32_w]
            rfl
           refine one_ (i := 13) (N := some 78) #[true, true, true, true, true, true, true, true, true, true, true, true, true, true, false, false] rfl rfl (one_of HT_.out (by kernel_rfl)) (by decide) (fun K hK => ?_)
           refine Kd.R_append_step (Kd.int .i64) (w0 := w) w.heap.size (by rfl) (.tmp 66) (.tmp 77) 22 3 (.int .i64 0) 8 rfl Try.underlying22 info3 rfl (by decide) (by omega) u183002 x183002_2 t195 [.int .i64 t195] (fun k_ => some k_ ≠ (.slice Ao76 y190.length co76 : Value).ownBlock) (fun _ => False) rfl rfl ?aP (fun _ hk => hk.elim) ?aF ?aO ?aB ?aS ?aL ?_
           (case aP => exact rfl)
           (case aB => exact (bw4_ HB.out GE178.out GE179.out GE180.out GE182.out))
           (case aF => exact (fun k_ hk => Kd.fresh' (Kd.R_lt (ro_ HO192.out)) k_ hk))
           (case aO => exact (ro_ HO_183002.out))
           (case aS => exact (below_size (bw4_ HB.out GE178.out GE179.out GE180.out GE182.out)))
           (case aL => have := LMc38.out; omega)
           intro v197 w82 ho hb hg hat
           rw [← Ny196.out] at ho
           have n0_ := sd_ (Kd.R_over' (ro_ HO_183003.out) (Kd.R_typed (ro_ HO_183002.out)) (by decide) hg)
           have n1_ := sd_ (blk_grown (g := gb178) (o := .cells #[.int .i64 a0_0, .slice A0_1 l0_1.length c0_1, .slice A0_2 l0_2.length c0_2, .slice A0_3 l0_3.length c0_3] 27 (0, 0)) (bz_ BK178.out) hg (Kd.R_ne HO_183002.out BK178.out (by decide)))
           have n2_ := sd_ (blk_grown (g := gb179) (o := .cells #[.int .i64 a1_0, .slice A1_1 l1_1.length c1_1, .slice A1_2 l1_2.length c1_2, .slice A1_3 l1_3.length c1_3] 27 (0, 0)) (bz_ BK179.out) hg (Kd.R_ne HO_183002.out BK179.out (by decide)))
           have n3_ := sd_ (blk_grown (g := gb180) (o := .cells #[.int .i64 0, .slice none 0 0, .slice none 0 0, .slice none 0 0] 27 (0, 0)) (bz_ BK180.out) hg (Kd.R_ne HO_183002.out BK180.out (by decide)))
           have n4_ := sd_ (blk_grown (g := gb182) (o := .cells #[.int .i64 (wrap64 (a0_0 * a1_0)), .slice Ao76 y190.length co76, u183002, u183003] 27 (0, 0)) (bz_ BK182.out) hg (Kd.R_ne HO_183002.out BK182.out (by decide)))
           have n5_ := sd_ (Kd.R_after (ok := (fun _ => True)) (by (with_reducible repeat (first | apply Kd.R_alloc | apply Kd.R_drewN | apply Kd.R_drew)); exact Kd.R_mono HO192.out (fun _ hk => ⟨trivial, hk⟩)) hg hat)
           have n6_ := sd_ (hb)
           have n7_ := sd_ (ho)
           clear HO_183003
           clear BK178
           clear BK179
           clear BK180
           clear BK182
           clear HO192
           clear HB
           clear HO_183002
           have HO_183003 := n0_
           have BK178 := n1_
           have BK179 := n2_
           have BK180 := n3_
           have BK182 := n4_
           have HO192 := n5_
           have HB := n6_
           have HO198 := n7_
           clear n0_ n1_ n2_ n3_ n4_ n5_ n6_ n7_
           clear ho hb hg hat
           obtain ⟨Ao83, co83, eo83⟩ := Kd.R_slice HO198.out
           (first | subst eo83 | (injection eo83 with f1_ f2_ f3_; have f4_ := f1_.symm; have f5_ := f3_.symm; clear f1_ f2_ f3_; subst f4_; subst f5_))
           refine hK.out _ _ ⟨(blk_cell BK182.out 0).trans rfl, (blk_cell BK182.out 1).trans rfl, (blk_cell BK182.out 2).trans rfl, (blk_cell BK182.out 3).trans rfl, (blk_cell BK178.out 0).trans rfl, (blk_cell BK178.out 1).trans rfl, (blk_cell BK178.out 2).trans rfl, (blk_cell BK178.out 3).trans rfl, (blk_cell BK179.out 0).trans rfl, (blk_cell BK179.out 1).trans rfl, (blk_cell BK179.out 2).trans rfl, (blk_cell BK179.out 3).trans rfl⟩ (fun hHeld => ?_)
           clear hK K
           refine norm_ (a' := ?_) ?_ ?_
           rotate_left
           ·show Act.put _ (some 78) _ = _
            simp only [Act.put, List.setIfInBounds_toArray, List.set_cons_zero, List.set_cons_succ, i64_w, i32_w]
            rfl
           refine pure_ (i := 14) (N := some 79) (v := ?_) (a' := ?_) #[true, true, true, true, true, true, true, true, true, true, true, true, true, true, true, false] rfl rfl (any_of HT_.out (by kernel_rfl)) (fun _ _ _ h => h) (Or.inl ⟨by rfl, ?_⟩) ?_ ?_
           rotate_left
           ·intro w'
            go_simp
            with_reducible rfl
           rotate_left
           ·simp only [Act.put, List.setIfInBounds_toArray, List.set_cons_zero, List.set_cons_succ, i64_w, i32_w]
            rfl
           refine last_ (i := 15) (N := none) #[true, true, true, true, true, true, true, true, true, true, true, true, true, true, true, true] rfl rfl (one_of HT_.out (by kernel_rfl)) (by decide) (fun K hK => ?_)
           have hs84 : w82.cell? ⟨gb182, 2, none⟩ = some (u183002) := (blk_cell BK182.out 2).trans rfl
           have hfs84 := blk_frozen BK182.out 2
           have hns84_0 := NB178_182.out
           have hns84_1 := NB179_182.out
           have hns84_2 := NB180_182.out
           have hms84_0 := NB182_178.out
           have hms84_1 := NB182_179.out
           have hms84_2 := NB182_180.out
           refine skip_ (w1 := ?_) (by rfl) rfl ?_ ?_
           rotate_left
           ·go_simp
            rfl
           refine hK.out _ _ ?_
           clear hK K
           refine done_ (done_of HT_.out (by kernel_rfl)) ?_
           try go_wp2
           have n0_ : Aside0 (Kd.R Kd.bool 4 (w82.setCell ⟨gb182, 2, none⟩ (.slice Ao83 y196.length co83)) w.heap.size (fun _ => True) u183003 x183003_2) := ⟨by (with_reducible repeat (first | apply Kd.R_alloc | apply Kd.R_drewN | apply Kd.R_drew)); exact Kd.R_mono (Kd.R_far (p := ⟨gb182, 2, none⟩) (Kd.R_types HO_183003.out BK182.out (by decide)) (fun _ hk => hk.2) (.slice Ao83 y196.length co83)) (fun _ hk => trivial)⟩
           have n1_ : Aside0 (Kd.R (Kd.int .i64) 3 (w82.setCell ⟨gb182, 2, none⟩ (.slice Ao83 y196.length co83)) w.heap.size (fun k_ => some k_ ≠ (.slice Ao83 y196.length co83 : Value).ownBlock) (.slice Ao76 y190.length co76) y190) := ⟨by (with_reducible repeat (first | apply Kd.R_alloc | apply Kd.R_drewN | apply Kd.R_drew)); exact Kd.R_mono (Kd.R_far (p := ⟨gb182, 2, none⟩) (Kd.R_types HO192.out BK182.out (by decide)) (fun _ hk => hk.2) (.slice Ao83 y196.length co83)) (fun _ hk => hk.1.2)⟩
           have n2_ : Aside0 (Kd.R (Kd.int .i64) 3 (w82.setCell ⟨gb182, 2, none⟩ (.slice Ao83 y196.length co83)) w.heap.size (fun k_ => some k_ ≠ (.slice Ao76 y190.length co76 : Value).ownBlock) (.slice Ao83 y196.length co83) y196) := ⟨by (with_reducible repeat (first | apply Kd.R_alloc | apply Kd.R_drewN | apply Kd.R_drew)); exact Kd.R_mono (Kd.R_far (p := ⟨gb182, 2, none⟩) (Kd.R_types HO198.out BK182.out (by decide)) (fun _ hk => hk.2) (.slice Ao83 y196.length co83)) (fun _ hk => hk.1)⟩
           have n3_ : Aside0 ((w82.setCell ⟨gb182, 2, none⟩ (.slice Ao83 y196.length co83)).heap[gb178]? = some (.cells #[.int .i64 a0_0, .slice A0_1 l0_1.length c0_1, .slice A0_2 l0_2.length c0_2, .slice A0_3 l0_3.length c0_3] 27 (0, 0))) := ⟨by (with_reducible repeat (first | refine blk_drewN ?_ _ | refine blk_drew ?_ | refine blk_alloc ?_ _)); refine blk_far ?_ NB178_182.out _; (with_reducible repeat (first | refine blk_drewN ?_ _ | refine blk_drew ?_ | refine blk_alloc ?_ _)); exact BK178.out⟩
           have n4_ : Aside0 ((w82.setCell ⟨gb182, 2, none⟩ (.slice Ao83 y196.length co83)).heap[gb179]? = some (.cells #[.int .i64 a1_0, .slice A1_1 l1_1.length c1_1, .slice A1_2 l1_2.length c1_2, .slice A1_3 l1_3.length c1_3] 27 (0, 0))) := ⟨by (with_reducible repeat (first | refine blk_drewN ?_ _ | refine blk_drew ?_ | refine blk_alloc ?_ _)); refine blk_far ?_ NB179_182.out _; (with_reducible repeat (first | refine blk_drewN ?_ _ | refine blk_drew ?_ | refine blk_alloc ?_ _)); exact BK179.out⟩
           have n5_ : Aside0 ((w82.setCell ⟨gb182, 2, none⟩ (.slice Ao83 y196.length co83)).heap[gb180]? = some (.cells #[.int .i64 0, .slice none 0 0, .slice none 0 0, .slice none 0 0] 27 (0, 0))) := ⟨by (with_reducible repeat (first | refine blk_drewN ?_ _ | refine blk_drew ?_ | refine blk_alloc ?_ _)); refine blk_far ?_ NB180_182.out _; (with_reducible repeat (first | refine blk_drewN ?_ _ | refine blk_drew ?_ | refine blk_alloc ?_ _)); exact BK180.out⟩
           have n6_ : Aside0 ((w82.setCell ⟨gb182, 2, none⟩ (.slice Ao83 y196.length co83)).heap[gb182]? = some (.cells #[.int .i64 (wrap64 (a0_0 * a1_0)), .slice Ao76 y190.length co76, .slice Ao83 y196.length co83, u183003] 27 (0, 0))) := ⟨by (with_reducible repeat (first | refine blk_drewN ?_ _ | refine blk_drew ?_ | refine blk_alloc ?_ _)); refine blk_put (cs := #[.int .i64 (wrap64 (a0_0 * a1_0)), .slice Ao76 y190.length co76, u183002, u183003]) ?_ 2 _ rfl; exact bz_ BK182.out⟩
           have n7_ : Aside0 (Below w.heap.size w (w82.setCell ⟨gb182, 2, none⟩ (.slice Ao83 y196.length co83))) := ⟨bw4_ HB.out GE178.out GE179.out GE180.out GE182.out⟩
           (try clear HO_183003)
           (try clear HO192)
           (try clear HO198)
           (try clear BK178)
           (try clear BK179)
           (try clear BK180)
           (try clear BK182)
           (try clear HB)
           generalize (w82.setCell ⟨gb182, 2, none⟩ (.slice Ao83 y196.length co83)) = w85 at n0_ n1_ n2_ n3_ n4_ n5_ n6_ n7_ ⊢
           have HO_183003 := n0_
           have HO192 := n1_
           have HO198 := n2_
           have BK178 := n3_
           have BK179 := n4_
           have BK180 := n5_
           have BK182 := n6_
           have HB := n7_
           clear n0_ n1_ n2_ n3_ n4_ n5_ n6_ n7_
           replace HO_183003 := sd_ (Kd.R_drew HO_183003.out)
           replace HO192 := sd_ (Kd.R_drew HO192.out)
           replace HO198 := sd_ (Kd.R_drew HO198.out)
           replace BK178 := sd_ (blk_drew BK178.out)
           replace BK179 := sd_ (blk_drew BK179.out)
           replace BK180 := sd_ (blk_drew BK180.out)
           replace BK182 := sd_ (blk_drew BK182.out)
           replace HB := sd_ (below_drew1 HB.out)
           refine start_ (n := 16) (S := fun w' => w'.cell? ⟨gb182, 0, none⟩ = some (.int .i64 (wrap64 (a0_0 * a1_0))) ∧ w'.cell? ⟨gb182, 1, none⟩ = some (.slice Ao76 y190.length co76) ∧ w'.cell? ⟨gb182, 2, none⟩ = some (.slice Ao83 y196.length co83) ∧ w'.cell? ⟨gb182, 3, none⟩ = some (u183003) ∧ w'.cell? ⟨gb178, 0, none⟩ = some (.int .i64 a0_0) ∧ w'.cell? ⟨gb178, 1, none⟩ = some (.slice A0_1 l0_1.length c0_1) ∧ w'.cell? ⟨gb178, 2, none⟩ = some (.slice A0_2 l0_2.length c0_2) ∧ w'.cell? ⟨gb178, 3, none⟩ = some (.slice A0_3 l0_3.length c0_3)) (ds := [15]) #[false, false, false, false, false, false, false, false, false, false, false, false, false, false, false, false] (by kernel_rfl) rfl rfl ⟨(blk_cell BK182.out 0).trans rfl, (blk_cell BK182.out 1).trans rfl, (blk_cell BK182.out 2).trans rfl, (blk_cell BK182.out 3).trans rfl, (blk_cell BK178.out 0).trans rfl, (blk_cell BK178.out 1).trans rfl, (blk_cell BK178.out 2).trans rfl, (blk_cell BK178.out 3).trans rfl⟩ (fun hHeld => ?_); refine with_tabW spec_ProductSystem.tab17 spec_ProductSystem.bits17 (fun HT_ HW_ => ?_)
           generalize w85.drew = w86 at HO_183003 HO192 HO198 BK178 BK179 BK180 BK182 HB hHeld ⊢
           refine pure_ (i := 0) (N := some 80) (v := ?_) (a' := ?_) #[true, false, false, false, false, false, false, false, false, false, false, false, false, false, false, false] rfl rfl (any_of HT_.out (by kernel_rfl)) (fun _ _ _ h => h) (Or.inl ⟨by rfl, ?_⟩) ?_ ?_
           rotate_left
           ·intro w'
            go_simp
            with_reducible rfl
           rotate_left
           ·simp only [Act.put, List.setIfInBounds_toArray, List.set_cons_zero, List.set_cons_succ, i64_w, i32_w]
            rfl
           refine pure_ (i := 3) (N := some 83) (v := ?_) (a' := ?_) #[true, false, false, true, false, false, false, false, false, false, false, false, false, false, false, false] rfl rfl (any_of HT_.out (by kernel_rfl)) (fun _ _ _ h => h) (Or.inl ⟨by rfl, ?_⟩) ?_ ?_
           rotate_left
           ·intro w'
            go_simp
            with_reducible rfl
           rotate_left
           ·simp only [Act.put, List.setIfInBounds_toArray, List.set_cons_zero, List.set_cons_succ, i64_w, i32_w]
            rfl
           refine pure_ (i := 4) (N := some 84) (v := ?_) (a' := ?_) #[true, false, false, true, true, false, false, false, false, false, false, false, false, false, false, false] rfl rfl (any_of HT_.out (by kernel_rfl)) (fun _ _ _ h => h) (Or.inl ⟨by rfl, ?_⟩) ?_ ?_
           rotate_left
           ·intro w'
            go_simp
            with_reducible rfl
           rotate_left
           ·simp only [Act.put, List.setIfInBounds_toArray, List.set_cons_zero, List.set_cons_succ, i64_w, i32_w]
            rfl
           refine take_ (i := 1) (N := some 81) (v := ?_) (a' := ?_) #[true, true, false, true, true, false, false, false, false, false, false, false, false, false, false, false] rfl rfl (take_ofW HT_.out HW_.out (by kernel_rfl)) (fun _ _ _ h => h) (Or.inl ⟨by rfl, ?_⟩) hHeld ?_ ?_
           rotate_left
           ·rintro w' ⟨s0, s1, s2, s3, s4, s5, s6, s7⟩
            go_simp
            with_reducible rfl
           rotate_left
           ·simp only [Act.put, List.setIfInBounds_toArray, List.set_cons_zero, List.set_cons_succ, i64_w, i32_w]
            rfl
           refine take_ (i := 2) (N := some 82) (v := ?_) (a' := ?_) #[true, true, true, true, true, false, false, false, false, false, false, false, false, false, false, false] rfl rfl (take_ofW HT_.out HW_.out (by kernel_rfl)) (fun _ _ _ h => h) (Or.inl ⟨by rfl, ?_⟩) hHeld ?_ ?_
           rotate_left
           ·rintro w' ⟨s0, s1, s2, s3, s4, s5, s6, s7⟩
            go_simp
            with_reducible rfl
           rotate_left
           ·simp only [Act.put, List.setIfInBounds_toArray, List.set_cons_zero, List.set_cons_succ, i64_w, i32_w]
            rfl
           refine one_ (i := 5) (N := some 85) #[true, true, true, true, true, true, false, false, false, false, false, false, false, false, false, false] rfl rfl (one_of HT_.out (by kernel_rfl)) (by decide) (fun K hK => ?_)
           refine goes_ Try.func42 (by kernel_rfl) rfl #[.agg #[.int .i64 a0_0, .slice A0_1 l0_1.length c0_1, .slice A0_2 l0_2.length c0_2, .slice A0_3 l0_3.length c0_3], .int .i64 t183, .int .i64 t185] (by rfl) rfl rfl la_ ?_
           with_reducible refine (spec_l1Le.calls a0_0 _ _ l0_1 _ _ l0_2 _ _ l0_3 t183 t185 false _ ?side1 ?side2 ?side3 ?side4 ?side5 ?side6 A39.out).mono ?_
           (case side1 => exact kc_ HR0_1.out HB.out)
           (case side2 => exact HC0_1.out)
           (case side3 => exact kc_ HR0_2.out HB.out)
           (case side4 => exact HC0_2.out)
           (case side5 => exact kc_ HR0_3.out HB.out)
           (case side6 => exact HC0_3.out)
           rintro e w87 ⟨rfl, hb⟩
           refine ⟨_, rfl, ?_⟩
           replace HO_183003 := sd_ (Kd.R_below (ro_ HO_183003.out) hb)
           replace HO192 := sd_ (Kd.R_below (ro_ HO192.out) hb)
           replace HO198 := sd_ (Kd.R_below (ro_ HO198.out) hb)
           replace BK178 := sd_ (bb_ BK178.out hb)
           replace BK179 := sd_ (bb_ BK179.out hb)
           replace BK180 := sd_ (bb_ BK180.out hb)
           replace BK182 := sd_ (bb_ BK182.out hb)
           replace HB := sd_ (below_step (bw4_ HB.out GE178.out GE179.out GE180.out GE182.out) hb)
           (try clear hb)
           (try clear hb2)
           (try clear hk)
           (try clear hi)
           refine hK.out _ _ ⟨(blk_cell BK182.out 0).trans rfl, (blk_cell BK182.out 1).trans rfl, (blk_cell BK182.out 2).trans rfl, (blk_cell BK182.out 3).trans rfl, (blk_cell BK178.out 0).trans rfl, (blk_cell BK178.out 1).trans rfl, (blk_cell BK178.out 2).trans rfl, (blk_cell BK178.out 3).trans rfl⟩ (fun hHeld => ?_)
           clear hK K
           refine norm_ (a' := ?_) ?_ ?_
           rotate_left
           ·show Act.put _ (some 85) _ = _
            simp only [Act.put, List.setIfInBounds_toArray, List.set_cons_zero, List.set_cons_succ, i64_w, i32_w]
            rfl
           refine pure_ (i := 6) (N := some 86) (v := ?_) (a' := ?_) #[true, true, true, true, true, true, true, false, false, false, false, false, false, false, false, false] rfl rfl (any_of HT_.out (by kernel_rfl)) (fun _ _ _ h => h) (Or.inl ⟨by rfl, ?_⟩) ?_ ?_
           rotate_left
           ·intro w'
            go_simp
            with_reducible rfl
           rotate_left
           ·simp only [Act.put, List.setIfInBounds_toArray, List.set_cons_zero, List.set_cons_succ, i64_w, i32_w]
            rfl
           refine pure_ (i := 7) (N := some 87) (v := undef) (a' := ?_) #[true, true, true, true, true, true, true, true, false, false, false, false, false, false, false, false] rfl rfl (any_of HT_.out (by kernel_rfl)) (fun _ _ _ h => h) (Or.inr ⟨by rfl, rfl⟩) ?_ ?_
           rotate_left
           ·simp only [Act.put, List.setIfInBounds_toArray, List.set_cons_zero, List.set_cons_succ, i64_w, i32_w]
            rfl
           refine pure_ (i := 8) (N := some 88) (v := undef) (a' := ?_) #[true, true, true, true, true, true, true, true, true, false, false, false, false, false, false, false] rfl rfl (any_of HT_.out (by kernel_rfl)) (fun _ _ _ h => h) (Or.inr ⟨by rfl, rfl⟩) ?_ ?_
           rotate_left
           ·simp only [Act.put, List.setIfInBounds_toArray, List.set_cons_zero, List.set_cons_succ, i64_w, i32_w]
            rfl
           refine pure_ (i := 9) (N := some 89) (v := undef) (a' := ?_) #[true, true, true, true, true, true, true, true, true, true, false, false, false, false, false, false] rfl rfl (any_of HT_.out (by kernel_rfl)) (fun _ _ _ h => h) (Or.inr ⟨by rfl, rfl⟩) ?_ ?_
           rotate_left
           ·simp only [Act.put, List.setIfInBounds_toArray, List.set_cons_zero, List.set_cons_succ, i64_w, i32_w]
            rfl
           refine pure_ (i := 10) (N := some 90) (v := undef) (a' := ?_) #[true, true, true, true, true, true, true, true, true, true, true, false, false, false, false, false] rfl rfl (any_of HT_.out (by kernel_rfl)) (fun _ _ _ h => h) (Or.inr ⟨by rfl, rfl⟩) ?_ ?_
           rotate_left
           ·simp only [Act.put, List.setIfInBounds_toArray, List.set_cons_zero, List.set_cons_succ, i64_w, i32_w]
            rfl
           refine pure_ (i := 11) (N := some 91) (v := ?_) (a' := ?_) #[true, true, true, true, true, true, true, true, true, true, true, true, false, false, false, false] rfl rfl (any_of HT_.out (by kernel_rfl)) (fun _ _ _ h => h) (Or.inl ⟨by rfl, ?_⟩) ?_ ?_
           rotate_left
           ·intro w'
            go_simp
            with_reducible rfl
           rotate_left
           ·simp only [Act.put, List.setIfInBounds_toArray, List.set_cons_zero, List.set_cons_succ, i64_w, i32_w]
            rfl
           refine one_ (i := 12) (N := some 92) #[true, true, true, true, true, true, true, true, true, true, true, true, true, false, false, false] rfl rfl (one_of HT_.out (by kernel_rfl)) (by decide) (fun K hK => ?_)
           refine value_ (w1 := ?_) (v := ?_) (by rfl) rfl ?_ ?_
           rotate_left 2
           ·go_simp
            constructor
            ·rfl
            rfl
           refine hK.out _ _ ⟨(blk_cell (blk_alloc BK182.out _) 0).trans rfl, (blk_cell (blk_alloc BK182.out _) 1).trans rfl, (blk_cell (blk_alloc BK182.out _) 2).trans rfl, (blk_cell (blk_alloc BK182.out _) 3).trans rfl, (blk_cell (blk_alloc BK178.out _) 0).trans rfl, (blk_cell (blk_alloc BK178.out _) 1).trans rfl, (blk_cell (blk_alloc BK178.out _) 2).trans rfl, (blk_cell (blk_alloc BK178.out _) 3).trans rfl⟩ (fun hHeld => ?_)
           clear hK K
           refine norm_ (a' := ?_) ?_ ?_
           rotate_left
           ·show Act.put _ (some 92) _ = _
            simp only [Act.put, List.setIfInBounds_toArray, List.set_cons_zero, List.set_cons_succ, i64_w, i32_w]
            rfl
           refine one_ (i := 13) (N := some 93) #[true, true, true, true, true, true, true, true, true, true, true, true, true, true, false, false] rfl rfl (one_of HT_.out (by kernel_rfl)) (by decide) (fun K hK => ?_)
           refine Kd.R_append_step Kd.bool (w0 := w) w.heap.size (by rfl) (.tmp 81) (.tmp 92) 23 4 (.bool false) 1 rfl Try.underlying23 info4 rfl (by decide) (by omega) u183003 x183003_2 false [.bool false] (fun _ => True) (fun _ => False) rfl rfl ?aP (fun _ hk => hk.elim) ?aF ?aO ?aB ?aS ?aL ?_
           (case aP => exact rfl)
           (case aB => exact (bw4_ HB.out GE178.out GE179.out GE180.out GE182.out))
           (case aF => exact (fun _ _ => trivial))
           (case aO => exact (ro_ HO_183003.out))
           (case aS => exact (below_size (bw4_ HB.out GE178.out GE179.out GE180.out GE182.out)))
           (case aL => have := LMc67.out; omega)
           intro v205 w88 ho hb hg hat
           rw [← Ny204.out] at ho
           have n0_ := sd_ (blk_grown (g := gb178) (o := .cells #[.int .i64 a0_0, .slice A0_1 l0_1.length c0_1, .slice A0_2 l0_2.length c0_2, .slice A0_3 l0_3.length c0_3] 27 (0, 0)) (bz_ BK178.out) hg (Kd.R_ne HO_183003.out BK178.out (by decide)))
           have n1_ := sd_ (blk_grown (g := gb179) (o := .cells #[.int .i64 a1_0, .slice A1_1 l1_1.length c1_1, .slice A1_2 l1_2.length c1_2, .slice A1_3 l1_3.length c1_3] 27 (0, 0)) (bz_ BK179.out) hg (Kd.R_ne HO_183003.out BK179.out (by decide)))
           have n2_ := sd_ (blk_grown (g := gb180) (o := .cells #[.int .i64 0, .slice none 0 0, .slice none 0 0, .slice none 0 0] 27 (0, 0)) (bz_ BK180.out) hg (Kd.R_ne HO_183003.out BK180.out (by decide)))
           have n3_ := sd_ (blk_grown (g := gb182) (o := .cells #[.int .i64 (wrap64 (a0_0 * a1_0)), .slice Ao76 y190.length co76, .slice Ao83 y196.length co83, u183003] 27 (0, 0)) (bz_ BK182.out) hg (Kd.R_ne HO_183003.out BK182.out (by decide)))
           have n4_ := sd_ (Kd.R_over' (ro_ HO192.out) (Kd.R_typed (ro_ HO_183003.out)) (by decide) hg)
           have n5_ := sd_ (Kd.R_over' (ro_ HO198.out) (Kd.R_typed (ro_ HO_183003.out)) (by decide) hg)
           have n6_ := sd_ (hb)
           have n7_ := sd_ (ho)
           clear BK178
           clear BK179
           clear BK180
           clear BK182
           clear HO192
           clear HO198
           clear HB
           clear HO_183003
           have BK178 := n0_
           have BK179 := n1_
           have BK180 := n2_
           have BK182 := n3_
           have HO192 := n4_
           have HO198 := n5_
           have HB := n6_
           have HO206 := n7_
           clear n0_ n1_ n2_ n3_ n4_ n5_ n6_ n7_
           clear ho hb hg hat
           obtain ⟨Ao89, co89, eo89⟩ := Kd.R_slice HO206.out
           (first | subst eo89 | (injection eo89 with f1_ f2_ f3_; have f4_ := f1_.symm; have f5_ := f3_.symm; clear f1_ f2_ f3_; subst f4_; subst f5_))
           refine hK.out _ _ ⟨(blk_cell BK182.out 0).trans rfl, (blk_cell BK182.out 1).trans rfl, (blk_cell BK182.out 2).trans rfl, (blk_cell BK182.out 3).trans rfl, (blk_cell BK178.out 0).trans rfl, (blk_cell BK178.out 1).trans rfl, (blk_cell BK178.out 2).trans rfl, (blk_cell BK178.out 3).trans rfl⟩ (fun hHeld => ?_)
           clear hK K
           refine norm_ (a' := ?_) ?_ ?_
           rotate_left
           ·show Act.put _ (some 93) _ = _
            simp only [Act.put, List.setIfInBounds_toArray, List.set_cons_zero, List.set_cons_succ, i64_w, i32_w]
            rfl
           refine pure_ (i := 14) (N := some 94) (v := ?_) (a' := ?_) #[true, true, true, true, true, true, true, true, true, true, true, true, true, true, true, false] rfl rfl (any_of HT_.out (by kernel_rfl)) (fun _ _ _ h => h) (Or.inl ⟨by rfl, ?_⟩) ?_ ?_
           rotate_left
           ·intro w'
            go_simp
            with_reducible rfl
           rotate_left
           ·simp only [Act.put, List.setIfInBounds_toArray, List.set_cons_zero, List.set_cons_succ, i64_w, i32_w]
            rfl
           refine last_ (i := 15) (N := none) #[true, true, true, true, true, true, true, true, true, true, true, true, true, true, true, true] rfl rfl (one_of HT_.out (by kernel_rfl)) (by decide) (fun K hK => ?_)
           have hs90 : w88.cell? ⟨gb182, 3, none⟩ = some (u183003) := (blk_cell BK182.out 3).trans rfl
           have hfs90 := blk_frozen BK182.out 3
           have hns90_0 := NB178_182.out
           have hns90_1 := NB179_182.out
           have hns90_2 := NB180_182.out
           have hms90_0 := NB182_178.out
           have hms90_1 := NB182_179.out
           have hms90_2 := NB182_180.out
           refine skip_ (w1 := ?_) (by rfl) rfl ?_ ?_
           rotate_left
           ·go_simp
            rfl
           refine hK.out _ _ ?_
           clear hK K
           refine done_ (done_of HT_.out (by kernel_rfl)) ?_
           try go_wp2
           go_roundg k2
           case measure => have := HK1.out; have := HK2.out; omega
           case rel => exact ⟨(wrap64 (x9_2 + 1)), (y190), (y196), (y204), (.slice Ao76 y190.length co76), (.slice Ao83 y196.length co83), (.slice Ao89 y204.length co89), sm_, H', ⟨by have := HK1.out; have := HK2.out; omega⟩, ⟨by (with_reducible repeat (first | apply Kd.R_alloc | apply Kd.R_drewN | apply Kd.R_drew)); exact Kd.R_mono (Kd.R_far (p := ⟨gb182, 3, none⟩) (Kd.R_types HO192.out BK182.out (by decide)) (fun _ hk => hk.2) (.slice Ao89 y204.length co89)) (fun _ hk => hk.1)⟩, ⟨by (with_reducible repeat (first | apply Kd.R_alloc | apply Kd.R_drewN | apply Kd.R_drew)); exact Kd.R_mono (Kd.R_far (p := ⟨gb182, 3, none⟩) (Kd.R_types HO198.out BK182.out (by decide)) (fun _ hk => hk.2) (.slice Ao89 y204.length co89)) (fun _ hk => hk.1)⟩, ⟨by (with_reducible repeat (first | apply Kd.R_alloc | apply Kd.R_drewN | apply Kd.R_drew)); exact Kd.R_mono (Kd.R_far (p := ⟨gb182, 3, none⟩) (Kd.R_types HO206.out BK182.out (by decide)) (fun _ hk => hk.2) (.slice Ao89 y204.length co89)) (fun _ hk => trivial)⟩, ⟨by (with_reducible repeat (first | refine blk_drewN ?_ _ | refine blk_drew ?_ | refine blk_alloc ?_ _)); refine blk_far ?_ NB178_182.out _; (with_reducible repeat (first | refine blk_drewN ?_ _ | refine blk_drew ?_ | refine blk_alloc ?_ _)); exact BK178.out⟩, ⟨by (with_reducible repeat (first | refine blk_drewN ?_ _ | refine blk_drew ?_ | refine blk_alloc ?_ _)); refine blk_far ?_ NB179_182.out _; (with_reducible repeat (first | refine blk_drewN ?_ _ | refine blk_drew ?_ | refine blk_alloc ?_ _)); exact BK179.out⟩, ⟨by (with_reducible repeat (first | refine blk_drewN ?_ _ | refine blk_drew ?_ | refine blk_alloc ?_ _)); refine blk_far ?_ NB180_182.out _; (with_reducible repeat (first | refine blk_drewN ?_ _ | refine blk_drew ?_ | refine blk_alloc ?_ _)); exact BK180.out⟩, ⟨by (with_reducible repeat (first | refine blk_drewN ?_ _ | refine blk_drew ?_ | refine blk_alloc ?_ _)); refine blk_put (cs := #[.int .i64 (wrap64 (a0_0 * a1_0)), .slice Ao76 y190.length co76, .slice Ao83 y196.length co83, u183003]) ?_ 3 _ rfl; exact bz_ BK182.out⟩, ⟨bw4_ HB.out GE178.out GE179.out GE180.out GE182.out⟩⟩
          rw [if_neg c67] at H
          exact absurd H (by simp)
         rw [if_neg c38] at H
         exact absurd H (by simp)
        rw [if_neg c34] at H
        exact absurd H (by simp)
       rw [if_neg c26] at H
       have c26b0 : decide (x9_2 < (wrap64 (a0_0 * a1_0))) = false := decide_eq_false c26
       clear c26
       have H' := sd_ H
       clear H
       have hnb91 := NB182_178.out
       have hnc91 := NB178_182.out
       have hnb92 := NB182_179.out
       have hnc92 := NB179_182.out
       have hnb93 := NB182_180.out
       have hnc93 := NB180_182.out
       obtain ⟨hcz94_0, hcz94_1, hcz94_2, hcz94_3, hfz94_0, hfz94_1, hfz94_2, hfz94_3⟩ := bf4_ BK182.out
       go_wp2
       go_roundg k2
       case measure => have := HK1.out; have := HK2.out; omega
       case rel => exact ⟨(wrap64 (x8_1 + 1)), (x183001_2), (x183002_2), (x183003_2), (u183001), (u183002), (u183003), sm_, H', ⟨by have := HK1.out; have := HK2.out; omega⟩, ⟨by (with_reducible repeat (first | apply Kd.R_alloc | apply Kd.R_drewN | apply Kd.R_drew)); exact HO_183001.out⟩, ⟨by (with_reducible repeat (first | apply Kd.R_alloc | apply Kd.R_drewN | apply Kd.R_drew)); exact HO_183002.out⟩, ⟨by (with_reducible repeat (first | apply Kd.R_alloc | apply Kd.R_drewN | apply Kd.R_drew)); exact HO_183003.out⟩, ⟨by exact bz_ BK178.out⟩, ⟨by exact bz_ BK179.out⟩, ⟨by exact bz_ BK180.out⟩, ⟨by exact bz_ BK182.out⟩, ⟨bw4_ HB.out GE178.out GE179.out GE180.out GE182.out⟩⟩
    rw [if_neg c21] at H
    have c21b0 : decide (x8_1 < (wrap64 (a0_0 * a1_0))) = false := decide_eq_false c21
    clear c21
    simp only [Option.some.injEq, Prod.mk.injEq] at H
    obtain ⟨rfl, rfl, rfl, rfl, rfl⟩ := H
    have hnb95 := NB182_178.out
    have hnc95 := NB178_182.out
    have hnb96 := NB182_179.out
    have hnc96 := NB179_182.out
    have hnb97 := NB182_180.out
    have hnc97 := NB180_182.out
    obtain ⟨hcz98_0, hcz98_1, hcz98_2, hcz98_3, hfz98_0, hfz98_1, hfz98_2, hfz98_3⟩ := bf4_ BK182.out
    have hnb99 := NB180_178.out
    have hnc99 := NB178_180.out
    have hnb100 := NB180_179.out
    have hnc100 := NB179_180.out
    obtain ⟨hcz101_0, hcz101_1, hcz101_2, hcz101_3, hfz101_0, hfz101_1, hfz101_2, hfz101_3⟩ := bf4_ BK180.out
    obtain ⟨Ao102, co102, eo102⟩ := Kd.R_slice HO_183001.out
    subst eo102
    obtain ⟨Ao103, co103, eo103⟩ := Kd.R_slice HO_183002.out
    subst eo103
    obtain ⟨Ao104, co104, eo104⟩ := Kd.R_slice HO_183003.out
    subst eo104
    go_wp2
    refine bodyPost_ret (results_ct rfl _ _ gb180 27 #[.int .i64 (wrap64 (a0_0 * a1_0)), .slice Ao102 x183001_1.length co102, .slice Ao103 x183002_1.length co103, .slice Ao104 x183003_1.length co104] (0, 0) _ rfl (by (with_reducible repeat (first | refine blk_drewN ?_ _ | refine blk_drew ?_ | refine blk_alloc ?_ _)); refine blk_put (cs := #[.int .i64 (wrap64 (a0_0 * a1_0)), .slice Ao102 x183001_1.length co102, .slice Ao103 x183002_1.length co103, .slice none 0 0]) ?_ 3 _ rfl; (with_reducible repeat (first | refine blk_drewN ?_ _ | refine blk_drew ?_ | refine blk_alloc ?_ _)); refine blk_put (cs := #[.int .i64 (wrap64 (a0_0 * a1_0)), .slice Ao102 x183001_1.length co102, .slice none 0 0, .slice none 0 0]) ?_ 2 _ rfl; (with_reducible repeat (first | refine blk_drewN ?_ _ | refine blk_drew ?_ | refine blk_alloc ?_ _)); refine blk_put (cs := #[.int .i64 (wrap64 (a0_0 * a1_0)), .slice none 0 0, .slice none 0 0, .slice none 0 0]) ?_ 1 _ rfl; (with_reducible repeat (first | refine blk_drewN ?_ _ | refine blk_drew ?_ | refine blk_alloc ?_ _)); refine blk_put (cs := #[.int .i64 0, .slice none 0 0, .slice none 0 0, .slice none 0 0]) ?_ 0 _ rfl; exact bz_ BK180.out) Try.underlying27 rfl (by kernel_rfl)) rfl ?_
    exact ⟨_, _, _, an_, by (with_reducible repeat (first | apply Kd.R_alloc | apply Kd.R_drewN | apply Kd.R_drew)); exact Kd.R_mono (Kd.R_far (p := ⟨gb180, 3, none⟩) (Kd.R_far (p := ⟨gb180, 2, none⟩) (Kd.R_far (p := ⟨gb180, 1, none⟩) (Kd.R_far (p := ⟨gb180, 0, none⟩) (Kd.R_types HO_183001.out BK180.out (by decide)) (fun _ hk => hk.2) (.int .i64 (wrap64 (a0_0 * a1_0)))) (fun _ hk => hk.2) (.slice Ao102 x183001_1.length co102)) (fun _ hk => hk.2) (.slice Ao103 x183002_1.length co103)) (fun _ hk => hk.2) (.slice Ao104 x183003_1.length co104)) (fun _ hk => hk.1), by (with_reducible repeat (first | apply Kd.R_alloc | apply Kd.R_drewN | apply Kd.R_drew)); exact Kd.R_mono (Kd.R_far (p := ⟨gb180, 3, none⟩) (Kd.R_far (p := ⟨gb180, 2, none⟩) (Kd.R_far (p := ⟨gb180, 1, none⟩) (Kd.R_far (p := ⟨gb180, 0, none⟩) (Kd.R_types HO_183002.out BK180.out (by decide)) (fun _ hk => hk.2) (.int .i64 (wrap64 (a0_0 * a1_0)))) (fun _ hk => hk.2) (.slice Ao102 x183001_1.length co102)) (fun _ hk => hk.2) (.slice Ao103 x183002_1.length co103)) (fun _ hk => hk.2) (.slice Ao104 x183003_1.length co104)) (fun _ hk => hk.1), by (with_reducible repeat (first | apply Kd.R_alloc | apply Kd.R_drewN | apply Kd.R_drew)); exact Kd.R_mono (Kd.R_far (p := ⟨gb180, 3, none⟩) (Kd.R_far (p := ⟨gb180, 2, none⟩) (Kd.R_far (p := ⟨gb180, 1, none⟩) (Kd.R_far (p := ⟨gb180, 0, none⟩) (Kd.R_types HO_183003.out BK180.out (by decide)) (fun _ hk => hk.2) (.int .i64 (wrap64 (a0_0 * a1_0)))) (fun _ hk => hk.2) (.slice Ao102 x183001_1.length co102)) (fun _ hk => hk.2) (.slice Ao103 x183002_1.length co103)) (fun _ hk => hk.2) (.slice Ao104 x183003_1.length co104)) (fun _ hk => trivial), bw4_ HB.out GE178.out GE179.out GE180.out GE182.out⟩
 replace c4 := Bool.eq_false_iff.mpr c4
 subst c4
 have H1 : (some (0, ([] : List Int), ([] : List Int), ([] : List Bool), false)) = some (r1, r2, r3, r4, r5) := by rw [if_neg (show ¬ (false = true) by decide)] at H; exact H
 clear H
 have H := H1
 clear H1
 simp only [Option.some.injEq, Prod.mk.injEq] at H
 obtain ⟨rfl, rfl, rfl, rfl, rfl⟩ := H
 go_enter Try.func9, Try.ntmps9
 go_wp2_with (first | ((with_reducible refine gate_dst (N := 2) rfl ?_); refine bx_ (N := 2) (cs := #[.int .i64 a0_0, .slice A0_1 l0_1.length c0_1, .slice A0_2 l0_2.length c0_2, .slice A0_3 l0_3.length c0_3]) (t := 27) ?_; intro gb178 hg w105 hbox hb; have BK178 := sd_ (hbox); have GW178 := sd_ (gs_ hg (bw0_ HB.out)); have GE178 := sd_ (gs_ hg (bw0_ HB.out)); replace HB := sd_ (below_step (bw0_ HB.out) hb); clear hb hbox hg) | ((with_reducible refine gate_dst (N := 3) rfl ?_); refine bx_ (N := 3) (cs := #[.int .i64 a1_0, .slice A1_1 l1_1.length c1_1, .slice A1_2 l1_2.length c1_2, .slice A1_3 l1_3.length c1_3]) (t := 27) ?_; intro gb179 hg w106 hbox hb; have BK179 := sd_ (hbox); have GW179 := sd_ (gs_ hg (bw1_ HB.out GE178.out)); have GE179 := sd_ (gs_ hg (bw1_ HB.out GE178.out)); replace HB := sd_ (below_step (bw1_ HB.out GE178.out) hb); have NB178_179 := sd_ (nl_ hg (bl_ BK178.out)); have NB179_178 := sd_ (ng_ hg (bl_ BK178.out)); replace BK178 := sd_ (bb_ BK178.out hb); clear hb hbox hg) | ((with_reducible refine gate_dst (N := 4) rfl ?_); refine bx_ (N := 4) (cs := #[.int .i64 0, .slice none 0 0, .slice none 0 0, .slice none 0 0]) (t := 27) ?_; intro gb180 hg w107 hbox hb; have BK180 := sd_ (hbox); have GW180 := sd_ (gs_ hg (bw2_ HB.out GE178.out GE179.out)); have GE180 := sd_ (gs_ hg (bw2_ HB.out GE178.out GE179.out)); replace HB := sd_ (below_step (bw2_ HB.out GE178.out GE179.out) hb); have NB178_180 := sd_ (nl_ hg (bl_ BK178.out)); have NB180_178 := sd_ (ng_ hg (bl_ BK178.out)); replace BK178 := sd_ (bb_ BK178.out hb); have NB179_180 := sd_ (nl_ hg (bl_ BK179.out)); have NB180_179 := sd_ (ng_ hg (bl_ BK179.out)); replace BK179 := sd_ (bb_ BK179.out hb); clear hb hbox hg; have hnb108 := NB178_179.out; have hnc108 := NB179_178.out; have hnb109 := NB178_180.out; have hnc109 := NB180_178.out; obtain ⟨hcz110_0, hcz110_1, hcz110_2, hcz110_3, hfz110_0, hfz110_1, hfz110_2, hfz110_3⟩ := bf4_ BK178.out; have hnb111 := NB179_180.out; have hnc111 := NB180_179.out; obtain ⟨hcz112_0, hcz112_1, hcz112_2, hcz112_3, hfz112_0, hfz112_1, hfz112_2, hfz112_3⟩ := bf4_ BK179.out) | ((with_reducible refine gate_callee (f := 36) rfl ?_); refine goesL_ (some 16) rfl rfl Try.func36 (by kernel_rfl) rfl #[.agg #[.int .i64 a0_0, .slice A0_1 l0_1.length c0_1, .slice A0_2 l0_2.length c0_2, .slice A0_3 l0_3.length c0_3], .agg #[.int .i64 a1_0, .slice A1_1 l1_1.length c1_1, .slice A1_2 l1_2.length c1_2, .slice A1_3 l1_3.length c1_3]] rfl la_ ?_; (with_reducible refine (spec_l1Product.calls k a0_0 _ _ l0_1 _ _ l0_2 _ _ l0_3 a1_0 _ _ l1_1 _ _ l1_2 _ _ l1_3 false _ (kc_ HR0_1.out HB.out) HC0_1.out (kc_ HR0_2.out HB.out) HC0_2.out (kc_ HR0_3.out HB.out) HC0_3.out (kc_ HR1_1.out HB.out) HC1_1.out (kc_ HR1_2.out HB.out) HC1_2.out (kc_ HR1_3.out HB.out) HC1_3.out A3.out).mono ?_); rintro e w113 ⟨rfl, hb⟩; refine ⟨_, rfl, ?_⟩; replace BK178 := sd_ (bb_ BK178.out hb); replace BK179 := sd_ (bb_ BK179.out hb); replace BK180 := sd_ (bb_ BK180.out hb); replace HB := sd_ (below_step (bw3_ HB.out GE178.out GE179.out GE180.out) hb); (try clear hb); obtain ⟨hcz114_0, hcz114_1, hcz114_2, hcz114_3, hfz114_0, hfz114_1, hfz114_2, hfz114_3⟩ := bf4_ BK180.out))
 refine bodyPost_ret (results_ct rfl _ _ gb180 27 #[.int .i64 0, .slice none 0 0, .slice none 0 0, .slice none 0 0] (0, 0) _ rfl (by (with_reducible repeat (first | refine blk_drewN ?_ _ | refine blk_drew ?_ | refine blk_alloc ?_ _)); refine blk_put (cs := #[.int .i64 0, .slice none 0 0, .slice none 0 0, .slice none 0 0]) ?_ 3 _ rfl; (with_reducible repeat (first | refine blk_drewN ?_ _ | refine blk_drew ?_ | refine blk_alloc ?_ _)); refine blk_put (cs := #[.int .i64 0, .slice none 0 0, .slice none 0 0, .slice none 0 0]) ?_ 2 _ rfl; (with_reducible repeat (first | refine blk_drewN ?_ _ | refine blk_drew ?_ | refine blk_alloc ?_ _)); refine blk_put (cs := #[.int .i64 0, .slice none 0 0, .slice none 0 0, .slice none 0 0]) ?_ 1 _ rfl; (with_reducible repeat (first | refine blk_drewN ?_ _ | refine blk_drew ?_ | refine blk_alloc ?_ _)); refine blk_put (cs := #[.int .i64 0, .slice none 0 0, .slice none 0 0, .slice none 0 0]) ?_ 0 _ rfl; exact bz_ BK180.out) Try.underlying27 rfl (by kernel_rfl)) rfl ?_
 exact ⟨_, _, _, an_, by first | exact Kd.R_nil _ _ _ _ _ | exact Kd.N_nil _ _ _ _ _ | exact Kd.V_nil _ _ _ _ _ | exact Kd.Q_nil _ _ _ _ _ | exact Kd.S_nil _ _ _ _ _, by first | exact Kd.R_nil _ _ _ _ _ | exact Kd.N_nil _ _ _ _ _ | exact Kd.V_nil _ _ _ _ _ | exact Kd.Q_nil _ _ _ _ _ | exact Kd.S_nil _ _ _ _ _, by first | exact Kd.R_nil _ _ _ _ _ | exact Kd.N_nil _ _ _ _ _ | exact Kd.V_nil _ _ _ _ _ | exact Kd.Q_nil _ _ _ _ _ | exact Kd.S_nil _ _ _ _ _, bw3_ HB.out GE178.out GE179.out GE180.out⟩

end Go.Proofs.Ytipfkicndjddgaa.P
