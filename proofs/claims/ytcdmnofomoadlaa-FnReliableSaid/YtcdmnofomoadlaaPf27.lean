-- Printed by this session's own program (wip/tools/mkprint.py) out of the translation. Not trusted: Lean checks it.
import Derived.Test.YtcdmnofomoadlaaM1
import Derived.Test.YtcdmnofomoadlaaM8
import Derived.Test.YtcdmnofomoadlaaM2
/-! short words -/
namespace Go.Proofs.Ytcdmnofomoadlaa.P
open Go.RowKit Go.Proofs.YtcdmnofomoadlaaW.PrintWords Go.Proofs.YtcdmnofomoadlaaW.PrintLast Go.Proofs.YtcdmnofomoadlaaW.PrintMore
attribute [local go_sem] max2_int min2_int max_two min_two max_three min_three max_four min_four   -- for this text's walks alone
set_option linter.unusedVariables false
set_option linter.unusedSimpArgs false

/-! ### spec_ProductSystem: function 27 -/
mutual
def spec_ProductSystem.l0 : Nat → Int → Int → Int → List Int → List Int → List Bool → Int → List Int → List Int → List Bool → Int → List Int → List Int → List Bool → Option (Int × List Int × List Int × List Bool × Bool)
 | 0, _, _, _, _, _, _, _, _, _, _, _, _, _, _ => none
 | k + 1, x6, x8, x214000, x214001, x214002, x214003, x215000, x215001, x215002, x215003, x218000, x218001, x218002, x218003 => if x8 < x218000 then (spec_ProductSystem.l1 k x6 x8 0 x214000 x214001 x214002 x214003 x215000 x215001 x215002 x215003 x218000 x218001 x218002 x218003) else (some (x218000, x218001, x218002, x218003, true))
def spec_ProductSystem.l1 : Nat → Int → Int → Int → Int → List Int → List Int → List Bool → Int → List Int → List Int → List Bool → Int → List Int → List Int → List Bool → Option (Int × List Int × List Int × List Bool × Bool)
 | 0, _, _, _, _, _, _, _, _, _, _, _, _, _, _, _ => none
 | k + 1, x6, x8, x9, x214000, x214001, x214002, x214003, x215000, x215001, x215002, x215003, x218000, x218001, x218002, x218003 => if x9 < x218000 then ((spec_l1First.f x6 x8).bind fun t218 => ((spec_l1Second.f x6 x8).bind fun t219 => ((spec_l1First.f x6 x9).bind fun t220 => ((spec_l1Second.f x6 x9).bind fun t221 => ((spec_l1Add.f x214000 x214001 x214002 x214003 t218 t220).bind fun t222 => ((spec_l1Add.f x215000 x215001 x215002 x215003 t219 t221).bind fun t223 => ((spec_l1Pair.f x6 t222 t223).bind fun t224 => (if x218001.length < 17592186044416 then ((some (x218001 ++ [t224] : List Int)).bind fun y225 => ((spec_l1Mul.f x214000 x214001 x214002 x214003 t218 t220).bind fun t228 => ((spec_l1Mul.f x215000 x215001 x215002 x215003 t219 t221).bind fun t229 => ((spec_l1Pair.f x6 t228 t229).bind fun t230 => (if x218002.length < 17592186044416 then ((some (x218002 ++ [t230] : List Int)).bind fun y231 => ((spec_l1Le.f x214000 x214001 x214002 x214003 t218 t220).bind fun t234 => (if t234 = true then ((spec_l1Le.f x215000 x215001 x215002 x215003 t219 t221).bind fun t235 => (if x218003.length < 140737488355328 then (spec_ProductSystem.l1 k x6 x8 (wrap64 (x9 + 1)) x214000 x214001 x214002 x214003 x215000 x215001 x215002 x215003 x218000 y225 y231 (x218003 ++ [t235])) else (none))) else (if x218003.length < 140737488355328 then (spec_ProductSystem.l1 k x6 x8 (wrap64 (x9 + 1)) x214000 x214001 x214002 x214003 x215000 x215001 x215002 x215003 x218000 y225 y231 (x218003 ++ [false])) else (none))))) else (none)))))) else (none))))))))) else (spec_ProductSystem.l0 k x6 (wrap64 (x8 + 1)) x214000 x214001 x214002 x214003 x215000 x215001 x215002 x215003 x218000 x218001 x218002 x218003)
end
def spec_ProductSystem.f (k : Nat) (a0_0 : Int) (l0_1 : List Int) (l0_2 : List Int) (l0_3 : List Bool) (a1_0 : Int) (l1_1 : List Int) (l1_2 : List Int) (l1_3 : List Bool) : Option (Int × List Int × List Int × List Bool × Bool) := (spec_l1Product.f k a0_0 l0_1 l0_2 l0_3 a1_0 l1_1 l1_2 l1_3).bind fun t216 => (if t216 = true then (spec_ProductSystem.l0 k a1_0 0 a0_0 l0_1 l0_2 l0_3 a1_0 l1_1 l1_2 l1_3 (wrap64 (a0_0 * a1_0)) ([] : List Int) ([] : List Int) ([] : List Bool)) else (some (0, ([] : List Int), ([] : List Int), ([] : List Bool), false)))
def spec_ProductSystem.T15 : Bool × List (List Nat × List Nat) := (true, [([], []), ([0], [0]), ([], []), ([], []), ([], []), ([], []), ([3, 4, 5], [3, 4, 5]), ([], []), ([], []), ([], []), ([7, 8, 9, 6], [7, 8, 9]), ([2, 6, 10, 10], [2, 6, 10]), ([11], [11]), ([1, 12, 11], [1, 12]), ([0, 1, 2, 3, 4, 5, 6, 7, 8, 9, 10, 11, 12, 13], []), ([14, 13, 13, 0, 1, 2, 3, 4, 5, 6, 7, 8, 9, 10, 11, 12, 13], [13, 14])])
def spec_ProductSystem.B15 : List Nat := [0, 1, 0, 0, 0, 0, 56, 0, 0, 0, 1016, 2044, 4092, 8191, 16383, 32767]
theorem spec_ProductSystem.tab15 : rtab .any (opsOf Try.f27 15) = spec_ProductSystem.T15 := by kernel_rfl
theorem spec_ProductSystem.bits15 : waitsOk spec_ProductSystem.T15.2 spec_ProductSystem.B15 = true := by kernel_rfl
def spec_ProductSystem.T16 : Bool × List (List Nat × List Nat) := (true, [([], []), ([0], [0]), ([], []), ([], []), ([], []), ([], []), ([3, 4, 5], [3, 4, 5]), ([], []), ([], []), ([], []), ([7, 8, 9, 6], [7, 8, 9]), ([2, 6, 10, 10], [2, 6, 10]), ([11], [11]), ([1, 12, 11], [1, 12]), ([0, 1, 2, 3, 4, 5, 6, 7, 8, 9, 10, 11, 12, 13], []), ([14, 13, 13, 0, 1, 2, 3, 4, 5, 6, 7, 8, 9, 10, 11, 12, 13], [13, 14])])
def spec_ProductSystem.B16 : List Nat := [0, 1, 0, 0, 0, 0, 56, 0, 0, 0, 1016, 2044, 4092, 8191, 16383, 32767]
theorem spec_ProductSystem.tab16 : rtab .any (opsOf Try.f27 16) = spec_ProductSystem.T16 := by kernel_rfl
theorem spec_ProductSystem.bits16 : waitsOk spec_ProductSystem.T16.2 spec_ProductSystem.B16 = true := by kernel_rfl
def spec_ProductSystem.T17 : Bool × List (List Nat × List Nat) := (true, [([], []), ([0], [0]), ([], []), ([], []), ([], []), ([2, 3, 4], [2, 3, 4]), ([5, 5], [5]), ([6], [6]), ([6], [6]), ([6], [6]), ([7, 8, 9, 6, 6], [6, 7, 8, 9]), ([6, 10], [6, 10]), ([11], [11]), ([1, 12, 10], [1, 12]), ([0, 1, 2, 3, 4, 5, 6, 7, 8, 9, 10, 11, 12, 13], []), ([14, 13, 13, 0, 1, 2, 3, 4, 5, 6, 7, 8, 9, 10, 11, 12, 13], [13, 14])])
def spec_ProductSystem.B17 : List Nat := [0, 1, 0, 0, 0, 28, 60, 124, 124, 124, 1020, 2044, 4092, 8191, 16383, 32767]
theorem spec_ProductSystem.tab17 : rtab .any (opsOf Try.f27 17) = spec_ProductSystem.T17 := by kernel_rfl
theorem spec_ProductSystem.bits17 : waitsOk spec_ProductSystem.T17.2 spec_ProductSystem.B17 = true := by kernel_rfl
set_option maxHeartbeats 8000000 in
set_option maxRecDepth 100000 in
theorem spec_ProductSystem.calls (k : Nat) (a0_0 : Int) (A0_1 : Option Addr) (c0_1 : Nat) (l0_1 : List Int) (A0_2 : Option Addr) (c0_2 : Nat) (l0_2 : List Int) (A0_3 : Option Addr) (c0_3 : Nat) (l0_3 : List Bool) (a1_0 : Int) (A1_1 : Option Addr) (c1_1 : Nat) (l1_1 : List Int) (A1_2 : Option Addr) (c1_2 : Nat) (l1_2 : List Int) (A1_3 : Option Addr) (c1_3 : Nat) (l1_3 : List Bool) (r1 : Int) (r2 : List Int) (r3 : List Int) (r4 : List Bool) (r5 : Bool) (w : World) (hr0_1 : Kd.C (Kd.int .i64) w A0_1 l0_1.length l0_1) (hc0_1 : l0_1.length ≤ c0_1) (hr0_2 : Kd.C (Kd.int .i64) w A0_2 l0_2.length l0_2) (hc0_2 : l0_2.length ≤ c0_2) (hr0_3 : Kd.C Kd.bool w A0_3 l0_3.length l0_3) (hc0_3 : l0_3.length ≤ c0_3) (hr1_1 : Kd.C (Kd.int .i64) w A1_1 l1_1.length l1_1) (hc1_1 : l1_1.length ≤ c1_1) (hr1_2 : Kd.C (Kd.int .i64) w A1_2 l1_2.length l1_2) (hc1_2 : l1_2.length ≤ c1_2) (hr1_3 : Kd.C Kd.bool w A1_3 l1_3.length l1_3) (hc1_3 : l1_3.length ≤ c1_3) (h : spec_ProductSystem.f k a0_0 l0_1 l0_2 l0_3 a1_0 l1_1 l1_2 l1_3 = some (r1, r2, r3, r4, r5)) :
  Calls Try.prog 27 #[.agg #[.int .i64 a0_0, .slice A0_1 l0_1.length c0_1, .slice A0_2 l0_2.length c0_2, .slice A0_3 l0_3.length c0_3], .agg #[.int .i64 a1_0, .slice A1_1 l1_1.length c1_1, .slice A1_2 l1_2.length c1_2, .slice A1_3 l1_3.length c1_3]] w fun e w' => ∃ v1_ v2_ v3_ : Value, e = .returned (.tuple #[.agg #[.int .i64 r1, v1_, v2_, v3_], .bool r5]) ∧ Kd.R (Kd.int .i64) 3 w' w.heap.size (fun k_ => some k_ ≠ (v2_ : Value).ownBlock) v1_ r2 ∧ Kd.R (Kd.int .i64) 3 w' w.heap.size (fun k_ => some k_ ≠ (v1_ : Value).ownBlock) v2_ r3 ∧ Kd.R Kd.bool 4 w' w.heap.size (fun _ => True) v3_ r4 ∧ Below w.heap.size w w' := by
 have hu27 := Try.underlying27
 have HR0_1 := sd_ hr0_1
 have HC0_1 := sd_ hc0_1
 clear hr0_1 hc0_1
 have HR0_2 := sd_ hr0_2
 have HC0_2 := sd_ hc0_2
 clear hr0_2 hc0_2
 have HR0_3 := sd_ hr0_3
 have HC0_3 := sd_ hc0_3
 clear hr0_3 hc0_3
 have HR1_1 := sd_ hr1_1
 have HC1_1 := sd_ hc1_1
 clear hr1_1 hc1_1
 have HR1_2 := sd_ hr1_2
 have HC1_2 := sd_ hc1_2
 clear hr1_2 hc1_2
 have HR1_3 := sd_ hr1_3
 have HC1_3 := sd_ hc1_3
 clear hr1_3 hc1_3
 have HB := sd_ (Below.refl w.heap.size w)
 have H : ((spec_l1Product.f k a0_0 l0_1 l0_2 l0_3 a1_0 l1_1 l1_2 l1_3).bind fun t216 => (if t216 = true then (spec_ProductSystem.l0 k a1_0 0 a0_0 l0_1 l0_2 l0_3 a1_0 l1_1 l1_2 l1_3 (wrap64 (a0_0 * a1_0)) ([] : List Int) ([] : List Int) ([] : List Bool)) else (some (0, ([] : List Int), ([] : List Int), ([] : List Bool), false)))) = some (r1, r2, r3, r4, r5) := h
 clear h
 replace H := Option.bind_eq_some_iff.mp H
 obtain ⟨t216, A30, H⟩ := H
 try dsimp only at H
 have A3 := sd_ A30
 clear A30
 by_cases c4 : t216 = true
 ·subst c4
  have H1 : (spec_ProductSystem.l0 k a1_0 0 a0_0 l0_1 l0_2 l0_3 a1_0 l1_1 l1_2 l1_3 (wrap64 (a0_0 * a1_0)) ([] : List Int) ([] : List Int) ([] : List Bool)) = some (r1, r2, r3, r4, r5) := by rw [if_pos rfl] at H; exact H
  clear H
  have H := H1
  clear H1
  have H' := sd_ H
  clear H
  go_enter Try.func27, Try.ntmps27
  go_wp2_with (first | ((with_reducible refine gate_dst (N := 2) rfl ?_); refine bx_ (N := 2) (cs := #[.int .i64 a0_0, .slice A0_1 l0_1.length c0_1, .slice A0_2 l0_2.length c0_2, .slice A0_3 l0_3.length c0_3]) (t := 27) ?_; intro gb213 hg w5 hbox hb; have BK213 := sd_ (hbox); have GW213 := sd_ (gs_ hg (bw0_ HB.out)); have GE213 := sd_ (gs_ hg (bw0_ HB.out)); replace HB := sd_ (below_step (bw0_ HB.out) hb); clear hb hbox hg) | ((with_reducible refine gate_dst (N := 3) rfl ?_); refine bx_ (N := 3) (cs := #[.int .i64 a1_0, .slice A1_1 l1_1.length c1_1, .slice A1_2 l1_2.length c1_2, .slice A1_3 l1_3.length c1_3]) (t := 27) ?_; intro gb214 hg w6 hbox hb; have BK214 := sd_ (hbox); have GW214 := sd_ (gs_ hg (bw1_ HB.out GE213.out)); have GE214 := sd_ (gs_ hg (bw1_ HB.out GE213.out)); replace HB := sd_ (below_step (bw1_ HB.out GE213.out) hb); have NB213_214 := sd_ (nl_ hg (bl_ BK213.out)); have NB214_213 := sd_ (ng_ hg (bl_ BK213.out)); replace BK213 := sd_ (bb_ BK213.out hb); clear hb hbox hg) | ((with_reducible refine gate_dst (N := 4) rfl ?_); refine bx_ (N := 4) (cs := #[.int .i64 0, .slice none 0 0, .slice none 0 0, .slice none 0 0]) (t := 27) ?_; intro gb215 hg w7 hbox hb; have BK215 := sd_ (hbox); have GW215 := sd_ (gs_ hg (bw2_ HB.out GE213.out GE214.out)); have GE215 := sd_ (gs_ hg (bw2_ HB.out GE213.out GE214.out)); replace HB := sd_ (below_step (bw2_ HB.out GE213.out GE214.out) hb); have NB213_215 := sd_ (nl_ hg (bl_ BK213.out)); have NB215_213 := sd_ (ng_ hg (bl_ BK213.out)); replace BK213 := sd_ (bb_ BK213.out hb); have NB214_215 := sd_ (nl_ hg (bl_ BK214.out)); have NB215_214 := sd_ (ng_ hg (bl_ BK214.out)); replace BK214 := sd_ (bb_ BK214.out hb); clear hb hbox hg; have hnb8 := NB213_214.out; have hnc8 := NB214_213.out; have hnb9 := NB213_215.out; have hnc9 := NB215_213.out; obtain ⟨hcz10_0, hcz10_1, hcz10_2, hcz10_3, hfz10_0, hfz10_1, hfz10_2, hfz10_3⟩ := bf4_ BK213.out; have hnb11 := NB214_215.out; have hnc11 := NB215_214.out; obtain ⟨hcz12_0, hcz12_1, hcz12_2, hcz12_3, hfz12_0, hfz12_1, hfz12_2, hfz12_3⟩ := bf4_ BK214.out) | ((with_reducible refine gate_callee (f := 79) rfl ?_); refine goesL_ (some 16) rfl rfl Try.func79 (by kernel_rfl) rfl #[.agg #[.int .i64 a0_0, .slice A0_1 l0_1.length c0_1, .slice A0_2 l0_2.length c0_2, .slice A0_3 l0_3.length c0_3], .agg #[.int .i64 a1_0, .slice A1_1 l1_1.length c1_1, .slice A1_2 l1_2.length c1_2, .slice A1_3 l1_3.length c1_3]] rfl la_ ?_; (with_reducible refine (spec_l1Product.calls k a0_0 _ _ l0_1 _ _ l0_2 _ _ l0_3 a1_0 _ _ l1_1 _ _ l1_2 _ _ l1_3 true _ (kc_ HR0_1.out HB.out) HC0_1.out (kc_ HR0_2.out HB.out) HC0_2.out (kc_ HR0_3.out HB.out) HC0_3.out (kc_ HR1_1.out HB.out) HC1_1.out (kc_ HR1_2.out HB.out) HC1_2.out (kc_ HR1_3.out HB.out) HC1_3.out A3.out).mono ?_); rintro e w13 ⟨rfl, hb⟩; refine ⟨_, rfl, ?_⟩; replace BK213 := sd_ (bb_ BK213.out hb); replace BK214 := sd_ (bb_ BK214.out hb); replace BK215 := sd_ (bb_ BK215.out hb); replace HB := sd_ (below_step (bw3_ HB.out GE213.out GE214.out GE215.out) hb); (try clear hb); obtain ⟨hcz14_0, hcz14_1, hcz14_2, hcz14_3, hfz14_0, hfz14_1, hfz14_2, hfz14_3⟩ := bf4_ BK214.out; obtain ⟨hcz15_0, hcz15_1, hcz15_2, hcz15_3, hfz15_0, hfz15_1, hfz15_2, hfz15_3⟩ := bf4_ BK213.out) | ((with_reducible refine gate_dst (N := 7) rfl ?_); refine bx_ (N := 7) (cs := #[.int .i64 0, .slice none 0 0, .slice none 0 0, .slice none 0 0]) (t := 27) ?_; intro gb217 hg w16 hbox hb; have BK217 := sd_ (hbox); have GW217 := sd_ (gs_ hg (bw3_ HB.out GE213.out GE214.out GE215.out)); have GE217 := sd_ (gs_ hg (bw3_ HB.out GE213.out GE214.out GE215.out)); replace HB := sd_ (below_step (bw3_ HB.out GE213.out GE214.out GE215.out) hb); have NB213_217 := sd_ (nl_ hg (bl_ BK213.out)); have NB217_213 := sd_ (ng_ hg (bl_ BK213.out)); replace BK213 := sd_ (bb_ BK213.out hb); have NB214_217 := sd_ (nl_ hg (bl_ BK214.out)); have NB217_214 := sd_ (ng_ hg (bl_ BK214.out)); replace BK214 := sd_ (bb_ BK214.out hb); have NB215_217 := sd_ (nl_ hg (bl_ BK215.out)); have NB217_215 := sd_ (ng_ hg (bl_ BK215.out)); replace BK215 := sd_ (bb_ BK215.out hb); clear hb hbox hg; have hnb17 := NB217_213.out; have hnc17 := NB213_217.out; have hnb18 := NB217_214.out; have hnc18 := NB214_217.out; have hnb19 := NB217_215.out; have hnc19 := NB215_217.out; obtain ⟨hcz20_0, hcz20_1, hcz20_2, hcz20_3, hfz20_0, hfz20_1, hfz20_2, hfz20_3⟩ := bf4_ BK217.out))
  go_loopg [8] k (fun kq v8 w' => ∃ (x8_1 : Int) (x218001_1 : List Int) (x218002_1 : List Int) (x218003_1 : List Bool) (u218001 : Value) (u218002 : Value) (u218003 : Value), v8 = .int .i64 x8_1 ∧ Aside0 (spec_ProductSystem.l0 kq a1_0 x8_1 a0_0 l0_1 l0_2 l0_3 a1_0 l1_1 l1_2 l1_3 (wrap64 (a0_0 * a1_0)) x218001_1 x218002_1 x218003_1 = some (r1, r2, r3, r4, r5)) ∧ Aside0 (kq ≤ k) ∧ Aside0 (Kd.R (Kd.int .i64) 3 w' w.heap.size (fun k_ => some k_ ≠ (u218002 : Value).ownBlock) u218001 x218001_1) ∧ Aside0 (Kd.R (Kd.int .i64) 3 w' w.heap.size (fun k_ => some k_ ≠ (u218001 : Value).ownBlock) u218002 x218002_1) ∧ Aside0 (Kd.R Kd.bool 4 w' w.heap.size (fun _ => True) u218003 x218003_1) ∧ Aside0 (w'.heap[gb213]? = some (.cells #[.int .i64 a0_0, (.slice A0_1 l0_1.length c0_1), (.slice A0_2 l0_2.length c0_2), (.slice A0_3 l0_3.length c0_3)] 27 (0, 0))) ∧ Aside0 (w'.heap[gb214]? = some (.cells #[.int .i64 a1_0, (.slice A1_1 l1_1.length c1_1), (.slice A1_2 l1_2.length c1_2), (.slice A1_3 l1_3.length c1_3)] 27 (0, 0))) ∧ Aside0 (w'.heap[gb215]? = some (.cells #[.int .i64 0, (.slice none 0 0), (.slice none 0 0), (.slice none 0 0)] 27 (0, 0))) ∧ Aside0 (w'.heap[gb217]? = some (.cells #[.int .i64 (wrap64 (a0_0 * a1_0)), u218001, u218002, u218003] 27 (0, 0))) ∧ Aside0 (Below w.heap.size w w'))
  case atStart => exact ⟨(0), (([] : List Int)), (([] : List Int)), (([] : List Bool)), (.slice none 0 0), (.slice none 0 0), (.slice none 0 0), sm_, H', ⟨Nat.le_refl _⟩, ⟨by first | exact Kd.R_nil _ _ _ _ _ | exact Kd.N_nil _ _ _ _ _ | exact Kd.V_nil _ _ _ _ _ | exact Kd.Q_nil _ _ _ _ _ | exact Kd.S_nil _ _ _ _ _⟩, ⟨by first | exact Kd.R_nil _ _ _ _ _ | exact Kd.N_nil _ _ _ _ _ | exact Kd.V_nil _ _ _ _ _ | exact Kd.Q_nil _ _ _ _ _ | exact Kd.S_nil _ _ _ _ _⟩, ⟨by first | exact Kd.R_nil _ _ _ _ _ | exact Kd.N_nil _ _ _ _ _ | exact Kd.V_nil _ _ _ _ _ | exact Kd.Q_nil _ _ _ _ _ | exact Kd.S_nil _ _ _ _ _⟩, ⟨by exact zf1_ BK213.out NB213_217.out⟩, ⟨by exact zf1_ BK214.out NB214_217.out⟩, ⟨by exact zf1_ BK215.out NB215_217.out⟩, ⟨by (with_reducible repeat (first | refine blk_drewN ?_ _ | refine blk_drew ?_ | refine blk_alloc ?_ _)); refine blk_put (cs := #[.int .i64 (wrap64 (a0_0 * a1_0)), .slice none 0 0, .slice none 0 0, .slice none 0 0]) ?_ 3 _ rfl; (with_reducible repeat (first | refine blk_drewN ?_ _ | refine blk_drew ?_ | refine blk_alloc ?_ _)); refine blk_put (cs := #[.int .i64 (wrap64 (a0_0 * a1_0)), .slice none 0 0, .slice none 0 0, .slice none 0 0]) ?_ 2 _ rfl; (with_reducible repeat (first | refine blk_drewN ?_ _ | refine blk_drew ?_ | refine blk_alloc ?_ _)); refine blk_put (cs := #[.int .i64 (wrap64 (a0_0 * a1_0)), .slice none 0 0, .slice none 0 0, .slice none 0 0]) ?_ 1 _ rfl; (with_reducible repeat (first | refine blk_drewN ?_ _ | refine blk_drew ?_ | refine blk_alloc ?_ _)); refine blk_put (cs := #[.int .i64 0, .slice none 0 0, .slice none 0 0, .slice none 0 0]) ?_ 0 _ rfl; exact bz_ BK217.out⟩, ⟨bw4_ HB.out GE213.out GE214.out GE215.out GE217.out⟩⟩
  case round =>
   clear H'
   try clear c1
   try clear c2
   try clear p2
   try clear c4
   try clear p6
   try clear c7
   try clear c8
   try clear c9
   try clear c11
   try clear c17
   try clear c18
   try clear c19
   try clear hcz10_0
   try clear hcz10_1
   try clear hcz10_2
   try clear hcz10_3
   try clear hcz12_0
   try clear hcz12_1
   try clear hcz12_2
   try clear hcz12_3
   try clear hcz14_0
   try clear hcz14_1
   try clear hcz14_2
   try clear hcz14_3
   try clear hcz15_0
   try clear hcz15_1
   try clear hcz15_2
   try clear hcz15_3
   try clear hcz20_0
   try clear hcz20_1
   try clear hcz20_2
   try clear hcz20_3
   try clear hfz10_0
   try clear hfz10_1
   try clear hfz10_2
   try clear hfz10_3
   try clear hfz12_0
   try clear hfz12_1
   try clear hfz12_2
   try clear hfz12_3
   try clear hfz14_0
   try clear hfz14_1
   try clear hfz14_2
   try clear hfz14_3
   try clear hfz15_0
   try clear hfz15_1
   try clear hfz15_2
   try clear hfz15_3
   try clear hfz20_0
   try clear hfz20_1
   try clear hfz20_2
   try clear hfz20_3
   obtain ⟨x8_1, x218001_1, x218002_1, x218003_1, u218001, u218002, u218003, rfl, HA, HK1, HO_218001, HO_218002, HO_218003, BK213, BK214, BK215, BK217, HB⟩ := hrel
   cases gk with
   | zero => exact absurd HA.out (by simp [spec_ProductSystem.l0])
   | succ k1 =>
    have H := HA.out
    clear HA
    simp only [spec_ProductSystem.l0] at H
    by_cases c21 : x8_1 < (wrap64 (a0_0 * a1_0))
    ·rw [if_pos c21] at H
     have c21b0 : decide (x8_1 < (wrap64 (a0_0 * a1_0))) = true := decide_eq_true c21
     clear c21
     have H' := sd_ H
     clear H
     have hnb22 := NB217_213.out
     have hnc22 := NB213_217.out
     have hnb23 := NB217_214.out
     have hnc23 := NB214_217.out
     have hnb24 := NB217_215.out
     have hnc24 := NB215_217.out
     obtain ⟨hcz25_0, hcz25_1, hcz25_2, hcz25_3, hfz25_0, hfz25_1, hfz25_2, hfz25_3⟩ := bf4_ BK217.out
     go_wp2
     go_loopg [9] k1 (fun kq v9 w' => ∃ (x9_2 : Int) (x218001_2 : List Int) (x218002_2 : List Int) (x218003_2 : List Bool) (u218001 : Value) (u218002 : Value) (u218003 : Value), v9 = .int .i64 x9_2 ∧ Aside0 (spec_ProductSystem.l1 kq a1_0 x8_1 x9_2 a0_0 l0_1 l0_2 l0_3 a1_0 l1_1 l1_2 l1_3 (wrap64 (a0_0 * a1_0)) x218001_2 x218002_2 x218003_2 = some (r1, r2, r3, r4, r5)) ∧ Aside0 (kq ≤ k1) ∧ Aside0 (Kd.R (Kd.int .i64) 3 w' w.heap.size (fun k_ => some k_ ≠ (u218002 : Value).ownBlock) u218001 x218001_2) ∧ Aside0 (Kd.R (Kd.int .i64) 3 w' w.heap.size (fun k_ => some k_ ≠ (u218001 : Value).ownBlock) u218002 x218002_2) ∧ Aside0 (Kd.R Kd.bool 4 w' w.heap.size (fun _ => True) u218003 x218003_2) ∧ Aside0 (w'.heap[gb213]? = some (.cells #[.int .i64 a0_0, (.slice A0_1 l0_1.length c0_1), (.slice A0_2 l0_2.length c0_2), (.slice A0_3 l0_3.length c0_3)] 27 (0, 0))) ∧ Aside0 (w'.heap[gb214]? = some (.cells #[.int .i64 a1_0, (.slice A1_1 l1_1.length c1_1), (.slice A1_2 l1_2.length c1_2), (.slice A1_3 l1_3.length c1_3)] 27 (0, 0))) ∧ Aside0 (w'.heap[gb215]? = some (.cells #[.int .i64 0, (.slice none 0 0), (.slice none 0 0), (.slice none 0 0)] 27 (0, 0))) ∧ Aside0 (w'.heap[gb217]? = some (.cells #[.int .i64 (wrap64 (a0_0 * a1_0)), u218001, u218002, u218003] 27 (0, 0))) ∧ Aside0 (Below w.heap.size w w'))
     case atStart => exact ⟨(0), (x218001_1), (x218002_1), (x218003_1), (u218001), (u218002), (u218003), sm_, H', ⟨Nat.le_refl _⟩, ⟨by (with_reducible repeat (first | apply Kd.R_alloc | apply Kd.R_drewN | apply Kd.R_drew)); exact HO_218001.out⟩, ⟨by (with_reducible repeat (first | apply Kd.R_alloc | apply Kd.R_drewN | apply Kd.R_drew)); exact HO_218002.out⟩, ⟨by (with_reducible repeat (first | apply Kd.R_alloc | apply Kd.R_drewN | apply Kd.R_drew)); exact HO_218003.out⟩, ⟨by exact bz_ BK213.out⟩, ⟨by exact bz_ BK214.out⟩, ⟨by exact bz_ BK215.out⟩, ⟨by exact bz_ BK217.out⟩, ⟨bw4_ HB.out GE213.out GE214.out GE215.out GE217.out⟩⟩
     case round =>
      clear H'
      try clear c1
      try clear c2
      try clear p2
      try clear c4
      try clear p6
      try clear c7
      try clear c8
      try clear c9
      try clear c11
      try clear c17
      try clear c18
      try clear c19
      try clear c21
      try clear c21b0
      try clear c22
      try clear c23
      try clear c24
      try clear hcz10_0
      try clear hcz10_1
      try clear hcz10_2
      try clear hcz10_3
      try clear hcz12_0
      try clear hcz12_1
      try clear hcz12_2
      try clear hcz12_3
      try clear hcz14_0
      try clear hcz14_1
      try clear hcz14_2
      try clear hcz14_3
      try clear hcz15_0
      try clear hcz15_1
      try clear hcz15_2
      try clear hcz15_3
      try clear hcz20_0
      try clear hcz20_1
      try clear hcz20_2
      try clear hcz20_3
      try clear hcz25_0
      try clear hcz25_1
      try clear hcz25_2
      try clear hcz25_3
      try clear hfz10_0
      try clear hfz10_1
      try clear hfz10_2
      try clear hfz10_3
      try clear hfz12_0
      try clear hfz12_1
      try clear hfz12_2
      try clear hfz12_3
      try clear hfz14_0
      try clear hfz14_1
      try clear hfz14_2
      try clear hfz14_3
      try clear hfz15_0
      try clear hfz15_1
      try clear hfz15_2
      try clear hfz15_3
      try clear hfz20_0
      try clear hfz20_1
      try clear hfz20_2
      try clear hfz20_3
      try clear hfz25_0
      try clear hfz25_1
      try clear hfz25_2
      try clear hfz25_3
      try clear p2
      try clear p6
      obtain ⟨x9_2, x218001_2, x218002_2, x218003_2, u218001, u218002, u218003, rfl, HA, HK2, HO_218001, HO_218002, HO_218003, BK213, BK214, BK215, BK217, HB⟩ := hrel
      cases gk with
      | zero => exact absurd HA.out (by simp [spec_ProductSystem.l1])
      | succ k2 =>
       have H := HA.out
       clear HA
       simp only [spec_ProductSystem.l1] at H
       by_cases c26 : x9_2 < (wrap64 (a0_0 * a1_0))
       ·rw [if_pos c26] at H
        have c26b0 : decide (x9_2 < (wrap64 (a0_0 * a1_0))) = true := decide_eq_true c26
        clear c26
        replace H := Option.bind_eq_some_iff.mp H
        obtain ⟨t218, A270, H⟩ := H
        try dsimp only at H
        have A27 := sd_ A270
        clear A270
        replace H := Option.bind_eq_some_iff.mp H
        obtain ⟨t219, A280, H⟩ := H
        try dsimp only at H
        have A28 := sd_ A280
        clear A280
        replace H := Option.bind_eq_some_iff.mp H
        obtain ⟨t220, A290, H⟩ := H
        try dsimp only at H
        have A29 := sd_ A290
        clear A290
        replace H := Option.bind_eq_some_iff.mp H
        obtain ⟨t221, A300, H⟩ := H
        try dsimp only at H
        have A30 := sd_ A300
        clear A300
        replace H := Option.bind_eq_some_iff.mp H
        obtain ⟨t222, A310, H⟩ := H
        try dsimp only at H
        have A31 := sd_ A310
        clear A310
        replace H := Option.bind_eq_some_iff.mp H
        obtain ⟨t223, A320, H⟩ := H
        try dsimp only at H
        have A32 := sd_ A320
        clear A320
        replace H := Option.bind_eq_some_iff.mp H
        obtain ⟨t224, A330, H⟩ := H
        try dsimp only at H
        have A33 := sd_ A330
        clear A330
        by_cases c34 : x218001_2.length < 17592186044416
        ·rw [if_pos c34] at H
         have LMc34 := sd_ c34
         clear c34
         obtain ⟨y225, hy225⟩ : ∃ y_ : List Int, y_ = (x218001_2 ++ [t224]) := ⟨_, rfl⟩
         replace H : ((spec_l1Mul.f a0_0 l0_1 l0_2 l0_3 t218 t220).bind fun t228 => ((spec_l1Mul.f a1_0 l1_1 l1_2 l1_3 t219 t221).bind fun t229 => ((spec_l1Pair.f a1_0 t228 t229).bind fun t230 => (if x218002_2.length < 17592186044416 then ((some (x218002_2 ++ [t230] : List Int)).bind fun y231 => ((spec_l1Le.f a0_0 l0_1 l0_2 l0_3 t218 t220).bind fun t234 => (if t234 = true then ((spec_l1Le.f a1_0 l1_1 l1_2 l1_3 t219 t221).bind fun t235 => (if x218003_2.length < 140737488355328 then (spec_ProductSystem.l1 k2 a1_0 x8_1 (wrap64 (x9_2 + 1)) a0_0 l0_1 l0_2 l0_3 a1_0 l1_1 l1_2 l1_3 (wrap64 (a0_0 * a1_0)) y225 y231 (x218003_2 ++ [t235])) else (none))) else (if x218003_2.length < 140737488355328 then (spec_ProductSystem.l1 k2 a1_0 x8_1 (wrap64 (x9_2 + 1)) a0_0 l0_1 l0_2 l0_3 a1_0 l1_1 l1_2 l1_3 (wrap64 (a0_0 * a1_0)) y225 y231 (x218003_2 ++ [false])) else (none))))) else (none))))) = some (r1, r2, r3, r4, r5) := by first | (rw [hy225]; with_reducible exact H) | (have H2_ := (Option.bind_some _ _).symm.trans H; rw [hy225]; with_reducible exact H2_) | (have H2_ := (Option.bind_some _ _).symm.trans H; with_reducible exact H2_) | with_reducible exact H | (rw [hy225]; exact H) | exact H
         have Ny225 := sd_ hy225
         clear hy225
         replace H := Option.bind_eq_some_iff.mp H
         obtain ⟨t228, A350, H⟩ := H
         try dsimp only at H
         have A35 := sd_ A350
         clear A350
         replace H := Option.bind_eq_some_iff.mp H
         obtain ⟨t229, A360, H⟩ := H
         try dsimp only at H
         have A36 := sd_ A360
         clear A360
         replace H := Option.bind_eq_some_iff.mp H
         obtain ⟨t230, A370, H⟩ := H
         try dsimp only at H
         have A37 := sd_ A370
         clear A370
         by_cases c38 : x218002_2.length < 17592186044416
         ·rw [if_pos c38] at H
          have LMc38 := sd_ c38
          clear c38
          obtain ⟨y231, hy231⟩ : ∃ y_ : List Int, y_ = (x218002_2 ++ [t230]) := ⟨_, rfl⟩
          replace H : ((spec_l1Le.f a0_0 l0_1 l0_2 l0_3 t218 t220).bind fun t234 => (if t234 = true then ((spec_l1Le.f a1_0 l1_1 l1_2 l1_3 t219 t221).bind fun t235 => (if x218003_2.length < 140737488355328 then (spec_ProductSystem.l1 k2 a1_0 x8_1 (wrap64 (x9_2 + 1)) a0_0 l0_1 l0_2 l0_3 a1_0 l1_1 l1_2 l1_3 (wrap64 (a0_0 * a1_0)) y225 y231 (x218003_2 ++ [t235])) else (none))) else (if x218003_2.length < 140737488355328 then (spec_ProductSystem.l1 k2 a1_0 x8_1 (wrap64 (x9_2 + 1)) a0_0 l0_1 l0_2 l0_3 a1_0 l1_1 l1_2 l1_3 (wrap64 (a0_0 * a1_0)) y225 y231 (x218003_2 ++ [false])) else (none)))) = some (r1, r2, r3, r4, r5) := by first | (rw [hy231]; with_reducible exact H) | (have H2_ := (Option.bind_some _ _).symm.trans H; rw [hy231]; with_reducible exact H2_) | (have H2_ := (Option.bind_some _ _).symm.trans H; with_reducible exact H2_) | with_reducible exact H | (rw [hy231]; exact H) | exact H
          have Ny231 := sd_ hy231
          clear hy231
          replace H := Option.bind_eq_some_iff.mp H
          obtain ⟨t234, A390, H⟩ := H
          try dsimp only at H
          have A39 := sd_ A390
          clear A390
          by_cases c40 : t234 = true
          ·subst c40
           have H1 : ((spec_l1Le.f a1_0 l1_1 l1_2 l1_3 t219 t221).bind fun t235 => (if x218003_2.length < 140737488355328 then (spec_ProductSystem.l1 k2 a1_0 x8_1 (wrap64 (x9_2 + 1)) a0_0 l0_1 l0_2 l0_3 a1_0 l1_1 l1_2 l1_3 (wrap64 (a0_0 * a1_0)) y225 y231 (x218003_2 ++ [t235])) else (none))) = some (r1, r2, r3, r4, r5) := by rw [if_pos rfl] at H; exact H
           clear H
           have H := H1
           clear H1
           replace H := Option.bind_eq_some_iff.mp H
           obtain ⟨t235, A410, H⟩ := H
           try dsimp only at H
           have A41 := sd_ A410
           clear A410
           by_cases c42 : x218003_2.length < 140737488355328
           ·rw [if_pos c42] at H
            have LMc42 := sd_ c42
            clear c42
            obtain ⟨y236, hy236⟩ : ∃ y_ : List Bool, y_ = (x218003_2 ++ [t235]) := ⟨_, rfl⟩
            replace H : (spec_ProductSystem.l1 k2 a1_0 x8_1 (wrap64 (x9_2 + 1)) a0_0 l0_1 l0_2 l0_3 a1_0 l1_1 l1_2 l1_3 (wrap64 (a0_0 * a1_0)) y225 y231 y236) = some (r1, r2, r3, r4, r5) := by first | (rw [hy236]; with_reducible exact H) | (have H2_ := (Option.bind_some _ _).symm.trans H; rw [hy236]; with_reducible exact H2_) | (have H2_ := (Option.bind_some _ _).symm.trans H; with_reducible exact H2_) | with_reducible exact H | (rw [hy236]; exact H) | exact H
            have Ny236 := sd_ hy236
            clear hy236
            have H' := sd_ H
            clear H
            have hnb43 := NB217_213.out
            have hnc43 := NB213_217.out
            have hnb44 := NB217_214.out
            have hnc44 := NB214_217.out
            have hnb45 := NB217_215.out
            have hnc45 := NB215_217.out
            obtain ⟨hcz46_0, hcz46_1, hcz46_2, hcz46_3, hfz46_0, hfz46_1, hfz46_2, hfz46_3⟩ := bf4_ BK217.out
            try go_wp2_with (first | ((with_reducible refine gate_callee (f := 86) rfl ?_); refine goesL_ (some 40) rfl rfl Try.func86 (by kernel_rfl) rfl #[.int .i64 a1_0, .int .i64 x8_1] rfl la_ ?_; (with_reducible refine (spec_l1First.calls a1_0 x8_1 t218 _ A27.out).mono ?_); rintro e w' ⟨rfl, ⟨nd, rfl⟩⟩; refine ⟨_, rfl, ?_⟩; (try (rw [drewN_self wr]; generalize hq_ : World.drewN wr _ = wr; have n0_ : Aside0 (Kd.R (Kd.int .i64) 3 wr w.heap.size (fun k_ => some k_ ≠ (u218002 : Value).ownBlock) u218001 x218001_2) := ⟨by rw [← hq_]; exact (ro_ HO_218001.out)⟩; have n1_ : Aside0 (Kd.R (Kd.int .i64) 3 wr w.heap.size (fun k_ => some k_ ≠ (u218001 : Value).ownBlock) u218002 x218002_2) := ⟨by rw [← hq_]; exact (ro_ HO_218002.out)⟩; have n2_ : Aside0 (Kd.R Kd.bool 4 wr w.heap.size (fun _ => True) u218003 x218003_2) := ⟨by rw [← hq_]; exact (ro_ HO_218003.out)⟩; have n3_ : Aside0 (wr.heap[gb213]? = some (.cells #[.int .i64 a0_0, .slice A0_1 l0_1.length c0_1, .slice A0_2 l0_2.length c0_2, .slice A0_3 l0_3.length c0_3] 27 (0, 0))) := ⟨by rw [← hq_]; exact (bz_ BK213.out)⟩; have n4_ : Aside0 (wr.heap[gb214]? = some (.cells #[.int .i64 a1_0, .slice A1_1 l1_1.length c1_1, .slice A1_2 l1_2.length c1_2, .slice A1_3 l1_3.length c1_3] 27 (0, 0))) := ⟨by rw [← hq_]; exact (bz_ BK214.out)⟩; have n5_ : Aside0 (wr.heap[gb215]? = some (.cells #[.int .i64 0, .slice none 0 0, .slice none 0 0, .slice none 0 0] 27 (0, 0))) := ⟨by rw [← hq_]; exact (bz_ BK215.out)⟩; have n6_ : Aside0 (wr.heap[gb217]? = some (.cells #[.int .i64 (wrap64 (a0_0 * a1_0)), u218001, u218002, u218003] 27 (0, 0))) := ⟨by rw [← hq_]; exact (bz_ BK217.out)⟩; have n7_ : Aside0 (Below w.heap.size w wr) := ⟨by rw [← hq_]; exact (bw4_ HB.out GE213.out GE214.out GE215.out GE217.out)⟩; clear HO_218001 HO_218002 HO_218003 BK213 BK214 BK215 BK217 HB hq_; have HO_218001 := n0_; have HO_218002 := n1_; have HO_218003 := n2_; have BK213 := n3_; have BK214 := n4_; have BK215 := n5_; have BK217 := n6_; have HB := n7_; clear n0_ n1_ n2_ n3_ n4_ n5_ n6_ n7_))) | ((with_reducible refine gate_callee (f := 87) rfl ?_); refine goesL_ (some 43) rfl rfl Try.func87 (by kernel_rfl) rfl #[.int .i64 a1_0, .int .i64 x8_1] rfl la_ ?_; (with_reducible refine (spec_l1Second.calls a1_0 x8_1 t219 _ A28.out).mono ?_); rintro e w' ⟨rfl, ⟨nd, rfl⟩⟩; refine ⟨_, rfl, ?_⟩; (try (rw [drewN_self wr]; generalize hq_ : World.drewN wr _ = wr; have n0_ : Aside0 (Kd.R (Kd.int .i64) 3 wr w.heap.size (fun k_ => some k_ ≠ (u218002 : Value).ownBlock) u218001 x218001_2) := ⟨by rw [← hq_]; exact (ro_ HO_218001.out)⟩; have n1_ : Aside0 (Kd.R (Kd.int .i64) 3 wr w.heap.size (fun k_ => some k_ ≠ (u218001 : Value).ownBlock) u218002 x218002_2) := ⟨by rw [← hq_]; exact (ro_ HO_218002.out)⟩; have n2_ : Aside0 (Kd.R Kd.bool 4 wr w.heap.size (fun _ => True) u218003 x218003_2) := ⟨by rw [← hq_]; exact (ro_ HO_218003.out)⟩; have n3_ : Aside0 (wr.heap[gb213]? = some (.cells #[.int .i64 a0_0, .slice A0_1 l0_1.length c0_1, .slice A0_2 l0_2.length c0_2, .slice A0_3 l0_3.length c0_3] 27 (0, 0))) := ⟨by rw [← hq_]; exact (bz_ BK213.out)⟩; have n4_ : Aside0 (wr.heap[gb214]? = some (.cells #[.int .i64 a1_0, .slice A1_1 l1_1.length c1_1, .slice A1_2 l1_2.length c1_2, .slice A1_3 l1_3.length c1_3] 27 (0, 0))) := ⟨by rw [← hq_]; exact (bz_ BK214.out)⟩; have n5_ : Aside0 (wr.heap[gb215]? = some (.cells #[.int .i64 0, .slice none 0 0, .slice none 0 0, .slice none 0 0] 27 (0, 0))) := ⟨by rw [← hq_]; exact (bz_ BK215.out)⟩; have n6_ : Aside0 (wr.heap[gb217]? = some (.cells #[.int .i64 (wrap64 (a0_0 * a1_0)), u218001, u218002, u218003] 27 (0, 0))) := ⟨by rw [← hq_]; exact (bz_ BK217.out)⟩; have n7_ : Aside0 (Below w.heap.size w wr) := ⟨by rw [← hq_]; exact (bw4_ HB.out GE213.out GE214.out GE215.out GE217.out)⟩; clear HO_218001 HO_218002 HO_218003 BK213 BK214 BK215 BK217 HB hq_; have HO_218001 := n0_; have HO_218002 := n1_; have HO_218003 := n2_; have BK213 := n3_; have BK214 := n4_; have BK215 := n5_; have BK217 := n6_; have HB := n7_; clear n0_ n1_ n2_ n3_ n4_ n5_ n6_ n7_))) | ((with_reducible refine gate_callee (f := 86) rfl ?_); refine goesL_ (some 46) rfl rfl Try.func86 (by kernel_rfl) rfl #[.int .i64 a1_0, .int .i64 x9_2] rfl la_ ?_; (with_reducible refine (spec_l1First.calls a1_0 x9_2 t220 _ A29.out).mono ?_); rintro e w' ⟨rfl, ⟨nd, rfl⟩⟩; refine ⟨_, rfl, ?_⟩; (try (rw [drewN_self wr]; generalize hq_ : World.drewN wr _ = wr; have n0_ : Aside0 (Kd.R (Kd.int .i64) 3 wr w.heap.size (fun k_ => some k_ ≠ (u218002 : Value).ownBlock) u218001 x218001_2) := ⟨by rw [← hq_]; exact (ro_ HO_218001.out)⟩; have n1_ : Aside0 (Kd.R (Kd.int .i64) 3 wr w.heap.size (fun k_ => some k_ ≠ (u218001 : Value).ownBlock) u218002 x218002_2) := ⟨by rw [← hq_]; exact (ro_ HO_218002.out)⟩; have n2_ : Aside0 (Kd.R Kd.bool 4 wr w.heap.size (fun _ => True) u218003 x218003_2) := ⟨by rw [← hq_]; exact (ro_ HO_218003.out)⟩; have n3_ : Aside0 (wr.heap[gb213]? = some (.cells #[.int .i64 a0_0, .slice A0_1 l0_1.length c0_1, .slice A0_2 l0_2.length c0_2, .slice A0_3 l0_3.length c0_3] 27 (0, 0))) := ⟨by rw [← hq_]; exact (bz_ BK213.out)⟩; have n4_ : Aside0 (wr.heap[gb214]? = some (.cells #[.int .i64 a1_0, .slice A1_1 l1_1.length c1_1, .slice A1_2 l1_2.length c1_2, .slice A1_3 l1_3.length c1_3] 27 (0, 0))) := ⟨by rw [← hq_]; exact (bz_ BK214.out)⟩; have n5_ : Aside0 (wr.heap[gb215]? = some (.cells #[.int .i64 0, .slice none 0 0, .slice none 0 0, .slice none 0 0] 27 (0, 0))) := ⟨by rw [← hq_]; exact (bz_ BK215.out)⟩; have n6_ : Aside0 (wr.heap[gb217]? = some (.cells #[.int .i64 (wrap64 (a0_0 * a1_0)), u218001, u218002, u218003] 27 (0, 0))) := ⟨by rw [← hq_]; exact (bz_ BK217.out)⟩; have n7_ : Aside0 (Below w.heap.size w wr) := ⟨by rw [← hq_]; exact (bw4_ HB.out GE213.out GE214.out GE215.out GE217.out)⟩; clear HO_218001 HO_218002 HO_218003 BK213 BK214 BK215 BK217 HB hq_; have HO_218001 := n0_; have HO_218002 := n1_; have HO_218003 := n2_; have BK213 := n3_; have BK214 := n4_; have BK215 := n5_; have BK217 := n6_; have HB := n7_; clear n0_ n1_ n2_ n3_ n4_ n5_ n6_ n7_))) | ((with_reducible refine gate_callee (f := 87) rfl ?_); refine goesL_ (some 49) rfl rfl Try.func87 (by kernel_rfl) rfl #[.int .i64 a1_0, .int .i64 x9_2] rfl la_ ?_; (with_reducible refine (spec_l1Second.calls a1_0 x9_2 t221 _ A30.out).mono ?_); rintro e w' ⟨rfl, ⟨nd, rfl⟩⟩; refine ⟨_, rfl, ?_⟩; (try (rw [drewN_self wr]; generalize hq_ : World.drewN wr _ = wr; have n0_ : Aside0 (Kd.R (Kd.int .i64) 3 wr w.heap.size (fun k_ => some k_ ≠ (u218002 : Value).ownBlock) u218001 x218001_2) := ⟨by rw [← hq_]; exact (ro_ HO_218001.out)⟩; have n1_ : Aside0 (Kd.R (Kd.int .i64) 3 wr w.heap.size (fun k_ => some k_ ≠ (u218001 : Value).ownBlock) u218002 x218002_2) := ⟨by rw [← hq_]; exact (ro_ HO_218002.out)⟩; have n2_ : Aside0 (Kd.R Kd.bool 4 wr w.heap.size (fun _ => True) u218003 x218003_2) := ⟨by rw [← hq_]; exact (ro_ HO_218003.out)⟩; have n3_ : Aside0 (wr.heap[gb213]? = some (.cells #[.int .i64 a0_0, .slice A0_1 l0_1.length c0_1, .slice A0_2 l0_2.length c0_2, .slice A0_3 l0_3.length c0_3] 27 (0, 0))) := ⟨by rw [← hq_]; exact (bz_ BK213.out)⟩; have n4_ : Aside0 (wr.heap[gb214]? = some (.cells #[.int .i64 a1_0, .slice A1_1 l1_1.length c1_1, .slice A1_2 l1_2.length c1_2, .slice A1_3 l1_3.length c1_3] 27 (0, 0))) := ⟨by rw [← hq_]; exact (bz_ BK214.out)⟩; have n5_ : Aside0 (wr.heap[gb215]? = some (.cells #[.int .i64 0, .slice none 0 0, .slice none 0 0, .slice none 0 0] 27 (0, 0))) := ⟨by rw [← hq_]; exact (bz_ BK215.out)⟩; have n6_ : Aside0 (wr.heap[gb217]? = some (.cells #[.int .i64 (wrap64 (a0_0 * a1_0)), u218001, u218002, u218003] 27 (0, 0))) := ⟨by rw [← hq_]; exact (bz_ BK217.out)⟩; have n7_ : Aside0 (Below w.heap.size w wr) := ⟨by rw [← hq_]; exact (bw4_ HB.out GE213.out GE214.out GE215.out GE217.out)⟩; clear HO_218001 HO_218002 HO_218003 BK213 BK214 BK215 BK217 HB hq_; have HO_218001 := n0_; have HO_218002 := n1_; have HO_218003 := n2_; have BK213 := n3_; have BK214 := n4_; have BK215 := n5_; have BK217 := n6_; have HB := n7_; clear n0_ n1_ n2_ n3_ n4_ n5_ n6_ n7_))))
            replace HO_218001 := sd_ (Kd.R_drew HO_218001.out)
            replace HO_218002 := sd_ (Kd.R_drew HO_218002.out)
            replace HO_218003 := sd_ (Kd.R_drew HO_218003.out)
            replace BK213 := sd_ (blk_drew BK213.out)
            replace BK214 := sd_ (blk_drew BK214.out)
            replace BK215 := sd_ (blk_drew BK215.out)
            replace BK217 := sd_ (blk_drew BK217.out)
            replace HB := sd_ (below_drew1 HB.out)
            refine start_ (n := 16) (S := fun w' => w'.cell? ⟨gb217, 0, none⟩ = some (.int .i64 (wrap64 (a0_0 * a1_0))) ∧ w'.cell? ⟨gb217, 1, none⟩ = some (u218001) ∧ w'.cell? ⟨gb217, 2, none⟩ = some (u218002) ∧ w'.cell? ⟨gb217, 3, none⟩ = some (u218003) ∧ w'.cell? ⟨gb213, 0, none⟩ = some (.int .i64 a0_0) ∧ w'.cell? ⟨gb213, 1, none⟩ = some (.slice A0_1 l0_1.length c0_1) ∧ w'.cell? ⟨gb213, 2, none⟩ = some (.slice A0_2 l0_2.length c0_2) ∧ w'.cell? ⟨gb213, 3, none⟩ = some (.slice A0_3 l0_3.length c0_3) ∧ w'.cell? ⟨gb214, 0, none⟩ = some (.int .i64 a1_0) ∧ w'.cell? ⟨gb214, 1, none⟩ = some (.slice A1_1 l1_1.length c1_1) ∧ w'.cell? ⟨gb214, 2, none⟩ = some (.slice A1_2 l1_2.length c1_2) ∧ w'.cell? ⟨gb214, 3, none⟩ = some (.slice A1_3 l1_3.length c1_3)) (ds := [15]) #[false, false, false, false, false, false, false, false, false, false, false, false, false, false, false, false] (by kernel_rfl) rfl rfl ⟨(blk_cell BK217.out 0).trans rfl, (blk_cell BK217.out 1).trans rfl, (blk_cell BK217.out 2).trans rfl, (blk_cell BK217.out 3).trans rfl, (blk_cell BK213.out 0).trans rfl, (blk_cell BK213.out 1).trans rfl, (blk_cell BK213.out 2).trans rfl, (blk_cell BK213.out 3).trans rfl, (blk_cell BK214.out 0).trans rfl, (blk_cell BK214.out 1).trans rfl, (blk_cell BK214.out 2).trans rfl, (blk_cell BK214.out 3).trans rfl⟩ (fun hHeld => ?_); refine with_tabW spec_ProductSystem.tab15 spec_ProductSystem.bits15 (fun HT_ HW_ => ?_)
            generalize wr.drew = w47 at HO_218001 HO_218002 HO_218003 BK213 BK214 BK215 BK217 HB hHeld ⊢
            refine pure_ (i := 0) (N := some 50) (v := ?_) (a' := ?_) #[true, false, false, false, false, false, false, false, false, false, false, false, false, false, false, false] rfl rfl (any_of HT_.out (by kernel_rfl)) (fun _ _ _ h => h) (Or.inl ⟨by rfl, ?_⟩) ?_ ?_
            rotate_left
            ·intro w'
             go_simp
             with_reducible rfl
            rotate_left
            ·simp only [Act.put, List.setIfInBounds_toArray, List.set_cons_zero, List.set_cons_succ, i64_w, i32_w]
             rfl
            refine pure_ (i := 2) (N := some 52) (v := ?_) (a' := ?_) #[true, false, true, false, false, false, false, false, false, false, false, false, false, false, false, false] rfl rfl (any_of HT_.out (by kernel_rfl)) (fun _ _ _ h => h) (Or.inl ⟨by rfl, ?_⟩) ?_ ?_
            rotate_left
            ·intro w'
             go_simp
             with_reducible rfl
            rotate_left
            ·simp only [Act.put, List.setIfInBounds_toArray, List.set_cons_zero, List.set_cons_succ, i64_w, i32_w]
             rfl
            refine pure_ (i := 4) (N := some 54) (v := ?_) (a' := ?_) #[true, false, true, false, true, false, false, false, false, false, false, false, false, false, false, false] rfl rfl (any_of HT_.out (by kernel_rfl)) (fun _ _ _ h => h) (Or.inl ⟨by rfl, ?_⟩) ?_ ?_
            rotate_left
            ·intro w'
             go_simp
             with_reducible rfl
            rotate_left
            ·simp only [Act.put, List.setIfInBounds_toArray, List.set_cons_zero, List.set_cons_succ, i64_w, i32_w]
             rfl
            refine pure_ (i := 5) (N := some 55) (v := ?_) (a' := ?_) #[true, false, true, false, true, true, false, false, false, false, false, false, false, false, false, false] rfl rfl (any_of HT_.out (by kernel_rfl)) (fun _ _ _ h => h) (Or.inl ⟨by rfl, ?_⟩) ?_ ?_
            rotate_left
            ·intro w'
             go_simp
             with_reducible rfl
            rotate_left
            ·simp only [Act.put, List.setIfInBounds_toArray, List.set_cons_zero, List.set_cons_succ, i64_w, i32_w]
             rfl
            refine pure_ (i := 8) (N := some 58) (v := ?_) (a' := ?_) #[true, false, true, false, true, true, false, false, true, false, false, false, false, false, false, false] rfl rfl (any_of HT_.out (by kernel_rfl)) (fun _ _ _ h => h) (Or.inl ⟨by rfl, ?_⟩) ?_ ?_
            rotate_left
            ·intro w'
             go_simp
             with_reducible rfl
            rotate_left
            ·simp only [Act.put, List.setIfInBounds_toArray, List.set_cons_zero, List.set_cons_succ, i64_w, i32_w]
             rfl
            refine pure_ (i := 9) (N := some 59) (v := ?_) (a' := ?_) #[true, false, true, false, true, true, false, false, true, true, false, false, false, false, false, false] rfl rfl (any_of HT_.out (by kernel_rfl)) (fun _ _ _ h => h) (Or.inl ⟨by rfl, ?_⟩) ?_ ?_
            rotate_left
            ·intro w'
             go_simp
             with_reducible rfl
            rotate_left
            ·simp only [Act.put, List.setIfInBounds_toArray, List.set_cons_zero, List.set_cons_succ, i64_w, i32_w]
             rfl
            refine take_ (i := 1) (N := some 51) (v := ?_) (a' := ?_) #[true, true, true, false, true, true, false, false, true, true, false, false, false, false, false, false] rfl rfl (take_ofW HT_.out HW_.out (by kernel_rfl)) (fun _ _ _ h => h) (Or.inl ⟨by rfl, ?_⟩) hHeld ?_ ?_
            rotate_left
            ·rintro w' ⟨s0, s1, s2, s3, s4, s5, s6, s7, s8, s9, s10, s11⟩
             go_simp
             with_reducible rfl
            rotate_left
            ·simp only [Act.put, List.setIfInBounds_toArray, List.set_cons_zero, List.set_cons_succ, i64_w, i32_w]
             rfl
            refine take_ (i := 3) (N := some 53) (v := ?_) (a' := ?_) #[true, true, true, true, true, true, false, false, true, true, false, false, false, false, false, false] rfl rfl (take_ofW HT_.out HW_.out (by kernel_rfl)) (fun _ _ _ h => h) (Or.inl ⟨by rfl, ?_⟩) hHeld ?_ ?_
            rotate_left
            ·rintro w' ⟨s0, s1, s2, s3, s4, s5, s6, s7, s8, s9, s10, s11⟩
             go_simp
             with_reducible rfl
            rotate_left
            ·simp only [Act.put, List.setIfInBounds_toArray, List.set_cons_zero, List.set_cons_succ, i64_w, i32_w]
             rfl
            refine take_ (i := 7) (N := some 57) (v := ?_) (a' := ?_) #[true, true, true, true, true, true, false, true, true, true, false, false, false, false, false, false] rfl rfl (take_ofW HT_.out HW_.out (by kernel_rfl)) (fun _ _ _ h => h) (Or.inl ⟨by rfl, ?_⟩) hHeld ?_ ?_
            rotate_left
            ·rintro w' ⟨s0, s1, s2, s3, s4, s5, s6, s7, s8, s9, s10, s11⟩
             go_simp
             with_reducible rfl
            rotate_left
            ·simp only [Act.put, List.setIfInBounds_toArray, List.set_cons_zero, List.set_cons_succ, i64_w, i32_w]
             rfl
            refine one_ (i := 6) (N := some 56) #[true, true, true, true, true, true, true, true, true, true, false, false, false, false, false, false] rfl rfl (one_of HT_.out (by kernel_rfl)) (by decide) (fun K hK => ?_)
            refine goes_ Try.func88 (by kernel_rfl) rfl #[.agg #[.int .i64 a0_0, .slice A0_1 l0_1.length c0_1, .slice A0_2 l0_2.length c0_2, .slice A0_3 l0_3.length c0_3], .int .i64 t218, .int .i64 t220] (by rfl) rfl rfl la_ ?_
            with_reducible refine (spec_l1Add.calls a0_0 _ _ l0_1 _ _ l0_2 _ _ l0_3 t218 t220 t222 _ ?side1 ?side2 ?side3 ?side4 ?side5 ?side6 A31.out).mono ?_
            (case side1 => exact kc_ HR0_1.out HB.out)
            (case side2 => exact HC0_1.out)
            (case side3 => exact kc_ HR0_2.out HB.out)
            (case side4 => exact HC0_2.out)
            (case side5 => exact kc_ HR0_3.out HB.out)
            (case side6 => exact HC0_3.out)
            rintro e w48 ⟨rfl, hb⟩
            refine ⟨_, rfl, ?_⟩
            replace HO_218001 := sd_ (Kd.R_below (ro_ HO_218001.out) hb)
            replace HO_218002 := sd_ (Kd.R_below (ro_ HO_218002.out) hb)
            replace HO_218003 := sd_ (Kd.R_below (ro_ HO_218003.out) hb)
            replace BK213 := sd_ (bb_ BK213.out hb)
            replace BK214 := sd_ (bb_ BK214.out hb)
            replace BK215 := sd_ (bb_ BK215.out hb)
            replace BK217 := sd_ (bb_ BK217.out hb)
            replace HB := sd_ (below_step (bw4_ HB.out GE213.out GE214.out GE215.out GE217.out) hb)
            (try clear hb)
            (try clear hb2)
            (try clear hk)
            (try clear hi)
            refine hK.out _ _ ⟨(blk_cell BK217.out 0).trans rfl, (blk_cell BK217.out 1).trans rfl, (blk_cell BK217.out 2).trans rfl, (blk_cell BK217.out 3).trans rfl, (blk_cell BK213.out 0).trans rfl, (blk_cell BK213.out 1).trans rfl, (blk_cell BK213.out 2).trans rfl, (blk_cell BK213.out 3).trans rfl, (blk_cell BK214.out 0).trans rfl, (blk_cell BK214.out 1).trans rfl, (blk_cell BK214.out 2).trans rfl, (blk_cell BK214.out 3).trans rfl⟩ (fun hHeld => ?_)
            clear hK K
            refine norm_ (a' := ?_) ?_ ?_
            rotate_left
            ·show Act.put _ (some 56) _ = _
             simp only [Act.put, List.setIfInBounds_toArray, List.set_cons_zero, List.set_cons_succ, i64_w, i32_w]
             rfl
            refine one_ (i := 10) (N := some 60) #[true, true, true, true, true, true, true, true, true, true, true, false, false, false, false, false] rfl rfl (one_of HT_.out (by kernel_rfl)) (by decide) (fun K hK => ?_)
            refine goes_ Try.func88 (by kernel_rfl) rfl #[.agg #[.int .i64 a1_0, .slice A1_1 l1_1.length c1_1, .slice A1_2 l1_2.length c1_2, .slice A1_3 l1_3.length c1_3], .int .i64 t219, .int .i64 t221] (by rfl) rfl rfl la_ ?_
            with_reducible refine (spec_l1Add.calls a1_0 _ _ l1_1 _ _ l1_2 _ _ l1_3 t219 t221 t223 _ ?side1 ?side2 ?side3 ?side4 ?side5 ?side6 A32.out).mono ?_
            (case side1 => exact kc_ HR1_1.out HB.out)
            (case side2 => exact HC1_1.out)
            (case side3 => exact kc_ HR1_2.out HB.out)
            (case side4 => exact HC1_2.out)
            (case side5 => exact kc_ HR1_3.out HB.out)
            (case side6 => exact HC1_3.out)
            rintro e w49 ⟨rfl, hb⟩
            refine ⟨_, rfl, ?_⟩
            replace HO_218001 := sd_ (Kd.R_below (ro_ HO_218001.out) hb)
            replace HO_218002 := sd_ (Kd.R_below (ro_ HO_218002.out) hb)
            replace HO_218003 := sd_ (Kd.R_below (ro_ HO_218003.out) hb)
            replace BK213 := sd_ (bb_ BK213.out hb)
            replace BK214 := sd_ (bb_ BK214.out hb)
            replace BK215 := sd_ (bb_ BK215.out hb)
            replace BK217 := sd_ (bb_ BK217.out hb)
            replace HB := sd_ (below_step (bw4_ HB.out GE213.out GE214.out GE215.out GE217.out) hb)
            (try clear hb)
            (try clear hb2)
            (try clear hk)
            (try clear hi)
            refine hK.out _ _ ⟨(blk_cell BK217.out 0).trans rfl, (blk_cell BK217.out 1).trans rfl, (blk_cell BK217.out 2).trans rfl, (blk_cell BK217.out 3).trans rfl, (blk_cell BK213.out 0).trans rfl, (blk_cell BK213.out 1).trans rfl, (blk_cell BK213.out 2).trans rfl, (blk_cell BK213.out 3).trans rfl, (blk_cell BK214.out 0).trans rfl, (blk_cell BK214.out 1).trans rfl, (blk_cell BK214.out 2).trans rfl, (blk_cell BK214.out 3).trans rfl⟩ (fun hHeld => ?_)
            clear hK K
            refine norm_ (a' := ?_) ?_ ?_
            rotate_left
            ·show Act.put _ (some 60) _ = _
             simp only [Act.put, List.setIfInBounds_toArray, List.set_cons_zero, List.set_cons_succ, i64_w, i32_w]
             rfl
            refine one_ (i := 11) (N := some 61) #[true, true, true, true, true, true, true, true, true, true, true, true, false, false, false, false] rfl rfl (one_of HT_.out (by kernel_rfl)) (by decide) (fun K hK => ?_)
            refine goes_ Try.func81 (by kernel_rfl) rfl #[.int .i64 a1_0, .int .i64 t222, .int .i64 t223] (by rfl) rfl rfl la_ ?_
            with_reducible refine (spec_l1Pair.calls a1_0 t222 t223 t224 _ A33.out).mono ?_
            rintro e w' ⟨rfl, ⟨nd, rfl⟩⟩
            refine ⟨_, rfl, ?_⟩
            refine hK.out _ _ ⟨(blk_cell BK217.out 0).trans rfl, (blk_cell BK217.out 1).trans rfl, (blk_cell BK217.out 2).trans rfl, (blk_cell BK217.out 3).trans rfl, (blk_cell BK213.out 0).trans rfl, (blk_cell BK213.out 1).trans rfl, (blk_cell BK213.out 2).trans rfl, (blk_cell BK213.out 3).trans rfl, (blk_cell BK214.out 0).trans rfl, (blk_cell BK214.out 1).trans rfl, (blk_cell BK214.out 2).trans rfl, (blk_cell BK214.out 3).trans rfl⟩ (fun hHeld => ?_)
            clear hK K
            refine norm_ (a' := ?_) ?_ ?_
            rotate_left
            ·show Act.put _ (some 61) _ = _
             simp only [Act.put, List.setIfInBounds_toArray, List.set_cons_zero, List.set_cons_succ, i64_w, i32_w]
             rfl
            refine one_ (i := 12) (N := some 62) #[true, true, true, true, true, true, true, true, true, true, true, true, true, false, false, false] rfl rfl (one_of HT_.out (by kernel_rfl)) (by decide) (fun K hK => ?_)
            refine value_ (w1 := ?_) (v := ?_) (by rfl) rfl ?_ ?_
            rotate_left 2
            ·go_simp
             constructor
             ·rfl
             rfl
            refine hK.out _ _ ⟨(blk_cell (blk_alloc BK217.out _) 0).trans rfl, (blk_cell (blk_alloc BK217.out _) 1).trans rfl, (blk_cell (blk_alloc BK217.out _) 2).trans rfl, (blk_cell (blk_alloc BK217.out _) 3).trans rfl, (blk_cell (blk_alloc BK213.out _) 0).trans rfl, (blk_cell (blk_alloc BK213.out _) 1).trans rfl, (blk_cell (blk_alloc BK213.out _) 2).trans rfl, (blk_cell (blk_alloc BK213.out _) 3).trans rfl, (blk_cell (blk_alloc BK214.out _) 0).trans rfl, (blk_cell (blk_alloc BK214.out _) 1).trans rfl, (blk_cell (blk_alloc BK214.out _) 2).trans rfl, (blk_cell (blk_alloc BK214.out _) 3).trans rfl⟩ (fun hHeld => ?_)
            clear hK K
            refine norm_ (a' := ?_) ?_ ?_
            rotate_left
            ·show Act.put _ (some 62) _ = _
             simp only [Act.put, List.setIfInBounds_toArray, List.set_cons_zero, List.set_cons_succ, i64_w, i32_w]
             rfl
            refine one_ (i := 13) (N := some 63) #[true, true, true, true, true, true, true, true, true, true, true, true, true, true, false, false] rfl rfl (one_of HT_.out (by kernel_rfl)) (by decide) (fun K hK => ?_)
            refine Kd.R_append_step (Kd.int .i64) (w0 := w) w.heap.size (by rfl) (.tmp 51) (.tmp 62) 24 3 (.int .i64 0) 8 rfl Try.underlying24 info3 rfl (by decide) (by omega) u218001 x218001_2 t224 [.int .i64 t224] (fun k_ => some k_ ≠ (u218002 : Value).ownBlock) (fun _ => False) rfl rfl ?aP (fun _ hk => hk.elim) ?aF ?aO ?aB ?aS ?aL ?_
            (case aP => exact rfl)
            (case aB => exact (bw4_ HB.out GE213.out GE214.out GE215.out GE217.out))
            (case aF => exact (fun k_ hk => Kd.fresh' (Kd.R_lt (ro_ HO_218002.out)) k_ hk))
            (case aO => exact (ro_ HO_218001.out))
            (case aS => exact (below_size (bw4_ HB.out GE213.out GE214.out GE215.out GE217.out)))
            (case aL => have := LMc34.out; omega)
            intro v226 w50 ho hb hg hat
            rw [← Ny225.out] at ho
            have n0_ := sd_ (Kd.R_after (ok := (fun _ => True)) (by (with_reducible repeat (first | apply Kd.R_alloc | apply Kd.R_drewN | apply Kd.R_drew)); exact Kd.R_mono HO_218002.out (fun _ hk => ⟨trivial, hk⟩)) hg hat)
            have n1_ := sd_ (Kd.R_over' (ro_ HO_218003.out) (Kd.R_typed (ro_ HO_218001.out)) (by decide) hg)
            have n2_ := sd_ (blk_grown (g := gb213) (o := .cells #[.int .i64 a0_0, .slice A0_1 l0_1.length c0_1, .slice A0_2 l0_2.length c0_2, .slice A0_3 l0_3.length c0_3] 27 (0, 0)) (bz_ BK213.out) hg (Kd.R_ne HO_218001.out BK213.out (by decide)))
            have n3_ := sd_ (blk_grown (g := gb214) (o := .cells #[.int .i64 a1_0, .slice A1_1 l1_1.length c1_1, .slice A1_2 l1_2.length c1_2, .slice A1_3 l1_3.length c1_3] 27 (0, 0)) (bz_ BK214.out) hg (Kd.R_ne HO_218001.out BK214.out (by decide)))
            have n4_ := sd_ (blk_grown (g := gb215) (o := .cells #[.int .i64 0, .slice none 0 0, .slice none 0 0, .slice none 0 0] 27 (0, 0)) (bz_ BK215.out) hg (Kd.R_ne HO_218001.out BK215.out (by decide)))
            have n5_ := sd_ (blk_grown (g := gb217) (o := .cells #[.int .i64 (wrap64 (a0_0 * a1_0)), u218001, u218002, u218003] 27 (0, 0)) (bz_ BK217.out) hg (Kd.R_ne HO_218001.out BK217.out (by decide)))
            have n6_ := sd_ (hb)
            have n7_ := sd_ (ho)
            clear HO_218002
            clear HO_218003
            clear BK213
            clear BK214
            clear BK215
            clear BK217
            clear HB
            clear HO_218001
            have HO_218002 := n0_
            have HO_218003 := n1_
            have BK213 := n2_
            have BK214 := n3_
            have BK215 := n4_
            have BK217 := n5_
            have HB := n6_
            have HO227 := n7_
            clear n0_ n1_ n2_ n3_ n4_ n5_ n6_ n7_
            clear ho hb hg hat
            obtain ⟨Ao51, co51, eo51⟩ := Kd.R_slice HO227.out
            (first | subst eo51 | (injection eo51 with f1_ f2_ f3_; have f4_ := f1_.symm; have f5_ := f3_.symm; clear f1_ f2_ f3_; subst f4_; subst f5_))
            refine hK.out _ _ ⟨(blk_cell BK217.out 0).trans rfl, (blk_cell BK217.out 1).trans rfl, (blk_cell BK217.out 2).trans rfl, (blk_cell BK217.out 3).trans rfl, (blk_cell BK213.out 0).trans rfl, (blk_cell BK213.out 1).trans rfl, (blk_cell BK213.out 2).trans rfl, (blk_cell BK213.out 3).trans rfl, (blk_cell BK214.out 0).trans rfl, (blk_cell BK214.out 1).trans rfl, (blk_cell BK214.out 2).trans rfl, (blk_cell BK214.out 3).trans rfl⟩ (fun hHeld => ?_)
            clear hK K
            refine norm_ (a' := ?_) ?_ ?_
            rotate_left
            ·show Act.put _ (some 63) _ = _
             simp only [Act.put, List.setIfInBounds_toArray, List.set_cons_zero, List.set_cons_succ, i64_w, i32_w]
             rfl
            refine pure_ (i := 14) (N := some 64) (v := ?_) (a' := ?_) #[true, true, true, true, true, true, true, true, true, true, true, true, true, true, true, false] rfl rfl (any_of HT_.out (by kernel_rfl)) (fun _ _ _ h => h) (Or.inl ⟨by rfl, ?_⟩) ?_ ?_
            rotate_left
            ·intro w'
             go_simp
             with_reducible rfl
            rotate_left
            ·simp only [Act.put, List.setIfInBounds_toArray, List.set_cons_zero, List.set_cons_succ, i64_w, i32_w]
             rfl
            refine last_ (i := 15) (N := none) #[true, true, true, true, true, true, true, true, true, true, true, true, true, true, true, true] rfl rfl (one_of HT_.out (by kernel_rfl)) (by decide) (fun K hK => ?_)
            have hs52 : w50.cell? ⟨gb217, 1, none⟩ = some (u218001) := (blk_cell BK217.out 1).trans rfl
            have hfs52 := blk_frozen BK217.out 1
            have hns52_0 := NB213_217.out
            have hns52_1 := NB214_217.out
            have hns52_2 := NB215_217.out
            have hms52_0 := NB217_213.out
            have hms52_1 := NB217_214.out
            have hms52_2 := NB217_215.out
            refine skip_ (w1 := ?_) (by rfl) rfl ?_ ?_
            rotate_left
            ·go_simp
             rfl
            refine hK.out _ _ ?_
            clear hK K
            refine done_ (done_of HT_.out (by kernel_rfl)) ?_
            try go_wp2
            have n0_ : Aside0 (Kd.R (Kd.int .i64) 3 (w50.setCell ⟨gb217, 1, none⟩ (.slice Ao51 y225.length co51)) w.heap.size (fun k_ => some k_ ≠ (.slice Ao51 y225.length co51 : Value).ownBlock) u218002 x218002_2) := ⟨by (with_reducible repeat (first | apply Kd.R_alloc | apply Kd.R_drewN | apply Kd.R_drew)); exact Kd.R_mono (Kd.R_far (p := ⟨gb217, 1, none⟩) (Kd.R_types HO_218002.out BK217.out (by decide)) (fun _ hk => hk.2) (.slice Ao51 y225.length co51)) (fun _ hk => hk.1.2)⟩
            have n1_ : Aside0 (Kd.R Kd.bool 4 (w50.setCell ⟨gb217, 1, none⟩ (.slice Ao51 y225.length co51)) w.heap.size (fun _ => True) u218003 x218003_2) := ⟨by (with_reducible repeat (first | apply Kd.R_alloc | apply Kd.R_drewN | apply Kd.R_drew)); exact Kd.R_mono (Kd.R_far (p := ⟨gb217, 1, none⟩) (Kd.R_types HO_218003.out BK217.out (by decide)) (fun _ hk => hk.2) (.slice Ao51 y225.length co51)) (fun _ hk => trivial)⟩
            have n2_ : Aside0 (Kd.R (Kd.int .i64) 3 (w50.setCell ⟨gb217, 1, none⟩ (.slice Ao51 y225.length co51)) w.heap.size (fun k_ => some k_ ≠ (u218002 : Value).ownBlock) (.slice Ao51 y225.length co51) y225) := ⟨by (with_reducible repeat (first | apply Kd.R_alloc | apply Kd.R_drewN | apply Kd.R_drew)); exact rf_ HO227.out BK217.out⟩
            have n3_ : Aside0 ((w50.setCell ⟨gb217, 1, none⟩ (.slice Ao51 y225.length co51)).heap[gb213]? = some (.cells #[.int .i64 a0_0, .slice A0_1 l0_1.length c0_1, .slice A0_2 l0_2.length c0_2, .slice A0_3 l0_3.length c0_3] 27 (0, 0))) := ⟨by exact zf1_ BK213.out NB213_217.out⟩
            have n4_ : Aside0 ((w50.setCell ⟨gb217, 1, none⟩ (.slice Ao51 y225.length co51)).heap[gb214]? = some (.cells #[.int .i64 a1_0, .slice A1_1 l1_1.length c1_1, .slice A1_2 l1_2.length c1_2, .slice A1_3 l1_3.length c1_3] 27 (0, 0))) := ⟨by exact zf1_ BK214.out NB214_217.out⟩
            have n5_ : Aside0 ((w50.setCell ⟨gb217, 1, none⟩ (.slice Ao51 y225.length co51)).heap[gb215]? = some (.cells #[.int .i64 0, .slice none 0 0, .slice none 0 0, .slice none 0 0] 27 (0, 0))) := ⟨by exact zf1_ BK215.out NB215_217.out⟩
            have n6_ : Aside0 ((w50.setCell ⟨gb217, 1, none⟩ (.slice Ao51 y225.length co51)).heap[gb217]? = some (.cells #[.int .i64 (wrap64 (a0_0 * a1_0)), .slice Ao51 y225.length co51, u218002, u218003] 27 (0, 0))) := ⟨by (with_reducible repeat (first | refine blk_drewN ?_ _ | refine blk_drew ?_ | refine blk_alloc ?_ _)); refine blk_put (cs := #[.int .i64 (wrap64 (a0_0 * a1_0)), u218001, u218002, u218003]) ?_ 1 _ rfl; exact bz_ BK217.out⟩
            have n7_ : Aside0 (Below w.heap.size w (w50.setCell ⟨gb217, 1, none⟩ (.slice Ao51 y225.length co51))) := ⟨bw4_ HB.out GE213.out GE214.out GE215.out GE217.out⟩
            (try clear HO_218002)
            (try clear HO_218003)
            (try clear HO227)
            (try clear BK213)
            (try clear BK214)
            (try clear BK215)
            (try clear BK217)
            (try clear HB)
            generalize (w50.setCell ⟨gb217, 1, none⟩ (.slice Ao51 y225.length co51)) = w53 at n0_ n1_ n2_ n3_ n4_ n5_ n6_ n7_ ⊢
            have HO_218002 := n0_
            have HO_218003 := n1_
            have HO227 := n2_
            have BK213 := n3_
            have BK214 := n4_
            have BK215 := n5_
            have BK217 := n6_
            have HB := n7_
            clear n0_ n1_ n2_ n3_ n4_ n5_ n6_ n7_
            replace HO_218002 := sd_ (Kd.R_drew HO_218002.out)
            replace HO_218003 := sd_ (Kd.R_drew HO_218003.out)
            replace HO227 := sd_ (Kd.R_drew HO227.out)
            replace BK213 := sd_ (blk_drew BK213.out)
            replace BK214 := sd_ (blk_drew BK214.out)
            replace BK215 := sd_ (blk_drew BK215.out)
            replace BK217 := sd_ (blk_drew BK217.out)
            replace HB := sd_ (below_drew1 HB.out)
            refine start_ (n := 16) (S := fun w' => w'.cell? ⟨gb217, 0, none⟩ = some (.int .i64 (wrap64 (a0_0 * a1_0))) ∧ w'.cell? ⟨gb217, 1, none⟩ = some (.slice Ao51 y225.length co51) ∧ w'.cell? ⟨gb217, 2, none⟩ = some (u218002) ∧ w'.cell? ⟨gb217, 3, none⟩ = some (u218003) ∧ w'.cell? ⟨gb213, 0, none⟩ = some (.int .i64 a0_0) ∧ w'.cell? ⟨gb213, 1, none⟩ = some (.slice A0_1 l0_1.length c0_1) ∧ w'.cell? ⟨gb213, 2, none⟩ = some (.slice A0_2 l0_2.length c0_2) ∧ w'.cell? ⟨gb213, 3, none⟩ = some (.slice A0_3 l0_3.length c0_3) ∧ w'.cell? ⟨gb214, 0, none⟩ = some (.int .i64 a1_0) ∧ w'.cell? ⟨gb214, 1, none⟩ = some (.slice A1_1 l1_1.length c1_1) ∧ w'.cell? ⟨gb214, 2, none⟩ = some (.slice A1_2 l1_2.length c1_2) ∧ w'.cell? ⟨gb214, 3, none⟩ = some (.slice A1_3 l1_3.length c1_3)) (ds := [15]) #[false, false, false, false, false, false, false, false, false, false, false, false, false, false, false, false] (by kernel_rfl) rfl rfl ⟨(blk_cell BK217.out 0).trans rfl, (blk_cell BK217.out 1).trans rfl, (blk_cell BK217.out 2).trans rfl, (blk_cell BK217.out 3).trans rfl, (blk_cell BK213.out 0).trans rfl, (blk_cell BK213.out 1).trans rfl, (blk_cell BK213.out 2).trans rfl, (blk_cell BK213.out 3).trans rfl, (blk_cell BK214.out 0).trans rfl, (blk_cell BK214.out 1).trans rfl, (blk_cell BK214.out 2).trans rfl, (blk_cell BK214.out 3).trans rfl⟩ (fun hHeld => ?_); refine with_tabW spec_ProductSystem.tab16 spec_ProductSystem.bits16 (fun HT_ HW_ => ?_)
            generalize w53.drew = w54 at HO_218002 HO_218003 HO227 BK213 BK214 BK215 BK217 HB hHeld ⊢
            refine pure_ (i := 0) (N := some 65) (v := ?_) (a' := ?_) #[true, false, false, false, false, false, false, false, false, false, false, false, false, false, false, false] rfl rfl (any_of HT_.out (by kernel_rfl)) (fun _ _ _ h => h) (Or.inl ⟨by rfl, ?_⟩) ?_ ?_
            rotate_left
            ·intro w'
             go_simp
             with_reducible rfl
            rotate_left
            ·simp only [Act.put, List.setIfInBounds_toArray, List.set_cons_zero, List.set_cons_succ, i64_w, i32_w]
             rfl
            refine pure_ (i := 2) (N := some 67) (v := ?_) (a' := ?_) #[true, false, true, false, false, false, false, false, false, false, false, false, false, false, false, false] rfl rfl (any_of HT_.out (by kernel_rfl)) (fun _ _ _ h => h) (Or.inl ⟨by rfl, ?_⟩) ?_ ?_
            rotate_left
            ·intro w'
             go_simp
             with_reducible rfl
            rotate_left
            ·simp only [Act.put, List.setIfInBounds_toArray, List.set_cons_zero, List.set_cons_succ, i64_w, i32_w]
             rfl
            refine pure_ (i := 4) (N := some 69) (v := ?_) (a' := ?_) #[true, false, true, false, true, false, false, false, false, false, false, false, false, false, false, false] rfl rfl (any_of HT_.out (by kernel_rfl)) (fun _ _ _ h => h) (Or.inl ⟨by rfl, ?_⟩) ?_ ?_
            rotate_left
            ·intro w'
             go_simp
             with_reducible rfl
            rotate_left
            ·simp only [Act.put, List.setIfInBounds_toArray, List.set_cons_zero, List.set_cons_succ, i64_w, i32_w]
             rfl
            refine pure_ (i := 5) (N := some 70) (v := ?_) (a' := ?_) #[true, false, true, false, true, true, false, false, false, false, false, false, false, false, false, false] rfl rfl (any_of HT_.out (by kernel_rfl)) (fun _ _ _ h => h) (Or.inl ⟨by rfl, ?_⟩) ?_ ?_
            rotate_left
            ·intro w'
             go_simp
             with_reducible rfl
            rotate_left
            ·simp only [Act.put, List.setIfInBounds_toArray, List.set_cons_zero, List.set_cons_succ, i64_w, i32_w]
             rfl
            refine pure_ (i := 8) (N := some 73) (v := ?_) (a' := ?_) #[true, false, true, false, true, true, false, false, true, false, false, false, false, false, false, false] rfl rfl (any_of HT_.out (by kernel_rfl)) (fun _ _ _ h => h) (Or.inl ⟨by rfl, ?_⟩) ?_ ?_
            rotate_left
            ·intro w'
             go_simp
             with_reducible rfl
            rotate_left
            ·simp only [Act.put, List.setIfInBounds_toArray, List.set_cons_zero, List.set_cons_succ, i64_w, i32_w]
             rfl
            refine pure_ (i := 9) (N := some 74) (v := ?_) (a' := ?_) #[true, false, true, false, true, true, false, false, true, true, false, false, false, false, false, false] rfl rfl (any_of HT_.out (by kernel_rfl)) (fun _ _ _ h => h) (Or.inl ⟨by rfl, ?_⟩) ?_ ?_
            rotate_left
            ·intro w'
             go_simp
             with_reducible rfl
            rotate_left
            ·simp only [Act.put, List.setIfInBounds_toArray, List.set_cons_zero, List.set_cons_succ, i64_w, i32_w]
             rfl
            refine take_ (i := 1) (N := some 66) (v := ?_) (a' := ?_) #[true, true, true, false, true, true, false, false, true, true, false, false, false, false, false, false] rfl rfl (take_ofW HT_.out HW_.out (by kernel_rfl)) (fun _ _ _ h => h) (Or.inl ⟨by rfl, ?_⟩) hHeld ?_ ?_
            rotate_left
            ·rintro w' ⟨s0, s1, s2, s3, s4, s5, s6, s7, s8, s9, s10, s11⟩
             go_simp
             with_reducible rfl
            rotate_left
            ·simp only [Act.put, List.setIfInBounds_toArray, List.set_cons_zero, List.set_cons_succ, i64_w, i32_w]
             rfl
            refine take_ (i := 3) (N := some 68) (v := ?_) (a' := ?_) #[true, true, true, true, true, true, false, false, true, true, false, false, false, false, false, false] rfl rfl (take_ofW HT_.out HW_.out (by kernel_rfl)) (fun _ _ _ h => h) (Or.inl ⟨by rfl, ?_⟩) hHeld ?_ ?_
            rotate_left
            ·rintro w' ⟨s0, s1, s2, s3, s4, s5, s6, s7, s8, s9, s10, s11⟩
             go_simp
             with_reducible rfl
            rotate_left
            ·simp only [Act.put, List.setIfInBounds_toArray, List.set_cons_zero, List.set_cons_succ, i64_w, i32_w]
             rfl
            refine take_ (i := 7) (N := some 72) (v := ?_) (a' := ?_) #[true, true, true, true, true, true, false, true, true, true, false, false, false, false, false, false] rfl rfl (take_ofW HT_.out HW_.out (by kernel_rfl)) (fun _ _ _ h => h) (Or.inl ⟨by rfl, ?_⟩) hHeld ?_ ?_
            rotate_left
            ·rintro w' ⟨s0, s1, s2, s3, s4, s5, s6, s7, s8, s9, s10, s11⟩
             go_simp
             with_reducible rfl
            rotate_left
            ·simp only [Act.put, List.setIfInBounds_toArray, List.set_cons_zero, List.set_cons_succ, i64_w, i32_w]
             rfl
            refine one_ (i := 6) (N := some 71) #[true, true, true, true, true, true, true, true, true, true, false, false, false, false, false, false] rfl rfl (one_of HT_.out (by kernel_rfl)) (by decide) (fun K hK => ?_)
            refine goes_ Try.func89 (by kernel_rfl) rfl #[.agg #[.int .i64 a0_0, .slice A0_1 l0_1.length c0_1, .slice A0_2 l0_2.length c0_2, .slice A0_3 l0_3.length c0_3], .int .i64 t218, .int .i64 t220] (by rfl) rfl rfl la_ ?_
            with_reducible refine (spec_l1Mul.calls a0_0 _ _ l0_1 _ _ l0_2 _ _ l0_3 t218 t220 t228 _ ?side1 ?side2 ?side3 ?side4 ?side5 ?side6 A35.out).mono ?_
            (case side1 => exact kc_ HR0_1.out HB.out)
            (case side2 => exact HC0_1.out)
            (case side3 => exact kc_ HR0_2.out HB.out)
            (case side4 => exact HC0_2.out)
            (case side5 => exact kc_ HR0_3.out HB.out)
            (case side6 => exact HC0_3.out)
            rintro e w55 ⟨rfl, hb⟩
            refine ⟨_, rfl, ?_⟩
            replace HO_218002 := sd_ (Kd.R_below (ro_ HO_218002.out) hb)
            replace HO_218003 := sd_ (Kd.R_below (ro_ HO_218003.out) hb)
            replace HO227 := sd_ (Kd.R_below (ro_ HO227.out) hb)
            replace BK213 := sd_ (bb_ BK213.out hb)
            replace BK214 := sd_ (bb_ BK214.out hb)
            replace BK215 := sd_ (bb_ BK215.out hb)
            replace BK217 := sd_ (bb_ BK217.out hb)
            replace HB := sd_ (below_step (bw4_ HB.out GE213.out GE214.out GE215.out GE217.out) hb)
            (try clear hb)
            (try clear hb2)
            (try clear hk)
            (try clear hi)
            refine hK.out _ _ ⟨(blk_cell BK217.out 0).trans rfl, (blk_cell BK217.out 1).trans rfl, (blk_cell BK217.out 2).trans rfl, (blk_cell BK217.out 3).trans rfl, (blk_cell BK213.out 0).trans rfl, (blk_cell BK213.out 1).trans rfl, (blk_cell BK213.out 2).trans rfl, (blk_cell BK213.out 3).trans rfl, (blk_cell BK214.out 0).trans rfl, (blk_cell BK214.out 1).trans rfl, (blk_cell BK214.out 2).trans rfl, (blk_cell BK214.out 3).trans rfl⟩ (fun hHeld => ?_)
            clear hK K
            refine norm_ (a' := ?_) ?_ ?_
            rotate_left
            ·show Act.put _ (some 71) _ = _
             simp only [Act.put, List.setIfInBounds_toArray, List.set_cons_zero, List.set_cons_succ, i64_w, i32_w]
             rfl
            refine one_ (i := 10) (N := some 75) #[true, true, true, true, true, true, true, true, true, true, true, false, false, false, false, false] rfl rfl (one_of HT_.out (by kernel_rfl)) (by decide) (fun K hK => ?_)
            refine goes_ Try.func89 (by kernel_rfl) rfl #[.agg #[.int .i64 a1_0, .slice A1_1 l1_1.length c1_1, .slice A1_2 l1_2.length c1_2, .slice A1_3 l1_3.length c1_3], .int .i64 t219, .int .i64 t221] (by rfl) rfl rfl la_ ?_
            with_reducible refine (spec_l1Mul.calls a1_0 _ _ l1_1 _ _ l1_2 _ _ l1_3 t219 t221 t229 _ ?side1 ?side2 ?side3 ?side4 ?side5 ?side6 A36.out).mono ?_
            (case side1 => exact kc_ HR1_1.out HB.out)
            (case side2 => exact HC1_1.out)
            (case side3 => exact kc_ HR1_2.out HB.out)
            (case side4 => exact HC1_2.out)
            (case side5 => exact kc_ HR1_3.out HB.out)
            (case side6 => exact HC1_3.out)
            rintro e w56 ⟨rfl, hb⟩
            refine ⟨_, rfl, ?_⟩
            replace HO_218002 := sd_ (Kd.R_below (ro_ HO_218002.out) hb)
            replace HO_218003 := sd_ (Kd.R_below (ro_ HO_218003.out) hb)
            replace HO227 := sd_ (Kd.R_below (ro_ HO227.out) hb)
            replace BK213 := sd_ (bb_ BK213.out hb)
            replace BK214 := sd_ (bb_ BK214.out hb)
            replace BK215 := sd_ (bb_ BK215.out hb)
            replace BK217 := sd_ (bb_ BK217.out hb)
            replace HB := sd_ (below_step (bw4_ HB.out GE213.out GE214.out GE215.out GE217.out) hb)
            (try clear hb)
            (try clear hb2)
            (try clear hk)
            (try clear hi)
            refine hK.out _ _ ⟨(blk_cell BK217.out 0).trans rfl, (blk_cell BK217.out 1).trans rfl, (blk_cell BK217.out 2).trans rfl, (blk_cell BK217.out 3).trans rfl, (blk_cell BK213.out 0).trans rfl, (blk_cell BK213.out 1).trans rfl, (blk_cell BK213.out 2).trans rfl, (blk_cell BK213.out 3).trans rfl, (blk_cell BK214.out 0).trans rfl, (blk_cell BK214.out 1).trans rfl, (blk_cell BK214.out 2).trans rfl, (blk_cell BK214.out 3).trans rfl⟩ (fun hHeld => ?_)
            clear hK K
            refine norm_ (a' := ?_) ?_ ?_
            rotate_left
            ·show Act.put _ (some 75) _ = _
             simp only [Act.put, List.setIfInBounds_toArray, List.set_cons_zero, List.set_cons_succ, i64_w, i32_w]
             rfl
            refine one_ (i := 11) (N := some 76) #[true, true, true, true, true, true, true, true, true, true, true, true, false, false, false, false] rfl rfl (one_of HT_.out (by kernel_rfl)) (by decide) (fun K hK => ?_)
            refine goes_ Try.func81 (by kernel_rfl) rfl #[.int .i64 a1_0, .int .i64 t228, .int .i64 t229] (by rfl) rfl rfl la_ ?_
            with_reducible refine (spec_l1Pair.calls a1_0 t228 t229 t230 _ A37.out).mono ?_
            rintro e w' ⟨rfl, ⟨nd, rfl⟩⟩
            refine ⟨_, rfl, ?_⟩
            refine hK.out _ _ ⟨(blk_cell BK217.out 0).trans rfl, (blk_cell BK217.out 1).trans rfl, (blk_cell BK217.out 2).trans rfl, (blk_cell BK217.out 3).trans rfl, (blk_cell BK213.out 0).trans rfl, (blk_cell BK213.out 1).trans rfl, (blk_cell BK213.out 2).trans rfl, (blk_cell BK213.out 3).trans rfl, (blk_cell BK214.out 0).trans rfl, (blk_cell BK214.out 1).trans rfl, (blk_cell BK214.out 2).trans rfl, (blk_cell BK214.out 3).trans rfl⟩ (fun hHeld => ?_)
            clear hK K
            refine norm_ (a' := ?_) ?_ ?_
            rotate_left
            ·show Act.put _ (some 76) _ = _
             simp only [Act.put, List.setIfInBounds_toArray, List.set_cons_zero, List.set_cons_succ, i64_w, i32_w]
             rfl
            refine one_ (i := 12) (N := some 77) #[true, true, true, true, true, true, true, true, true, true, true, true, true, false, false, false] rfl rfl (one_of HT_.out (by kernel_rfl)) (by decide) (fun K hK => ?_)
            refine value_ (w1 := ?_) (v := ?_) (by rfl) rfl ?_ ?_
            rotate_left 2
            ·go_simp
             constructor
             ·rfl
             rfl
            refine hK.out _ _ ⟨(blk_cell (blk_alloc BK217.out _) 0).trans rfl, (blk_cell (blk_alloc BK217.out _) 1).trans rfl, (blk_cell (blk_alloc BK217.out _) 2).trans rfl, (blk_cell (blk_alloc BK217.out _) 3).trans rfl, (blk_cell (blk_alloc BK213.out _) 0).trans rfl, (blk_cell (blk_alloc BK213.out _) 1).trans rfl, (blk_cell (blk_alloc BK213.out _) 2).trans rfl, (blk_cell (blk_alloc BK213.out _) 3).trans rfl, (blk_cell (blk_alloc BK214.out _) 0).trans rfl, (blk_cell (blk_alloc BK214.out _) 1).trans rfl, (blk_cell (blk_alloc BK214.out _) 2).trans rfl, (blk_cell (blk_alloc BK214.out _) 3).trans rfl⟩ (fun hHeld => ?_)
            clear hK K
            refine norm_ (a' := ?_) ?_ ?_
            rotate_left
            ·show Act.put _ (some 77) _ = _
             simp only [Act.put, List.setIfInBounds_toArray, List.set_cons_zero, List.set_cons_succ, i64_w, i32_w]
             rfl
            refine one_ (i := 13) (N := some 78) #[true, true, true, true, true, true, true, true, true, true, true, true, true, true, false, false] rfl rfl (one_of HT_.out (by kernel_rfl)) (by decide) (fun K hK => ?_)
            refine Kd.R_append_step (Kd.int .i64) (w0 := w) w.heap.size (by rfl) (.tmp 66) (.tmp 77) 24 3 (.int .i64 0) 8 rfl Try.underlying24 info3 rfl (by decide) (by omega) u218002 x218002_2 t230 [.int .i64 t230] (fun k_ => some k_ ≠ (.slice Ao51 y225.length co51 : Value).ownBlock) (fun _ => False) rfl rfl ?aP (fun _ hk => hk.elim) ?aF ?aO ?aB ?aS ?aL ?_
            (case aP => exact rfl)
            (case aB => exact (bw4_ HB.out GE213.out GE214.out GE215.out GE217.out))
            (case aF => exact (fun k_ hk => Kd.fresh' (Kd.R_lt (ro_ HO227.out)) k_ hk))
            (case aO => exact (ro_ HO_218002.out))
            (case aS => exact (below_size (bw4_ HB.out GE213.out GE214.out GE215.out GE217.out)))
            (case aL => have := LMc38.out; omega)
            intro v232 w57 ho hb hg hat
            rw [← Ny231.out] at ho
            have n0_ := sd_ (Kd.R_over' (ro_ HO_218003.out) (Kd.R_typed (ro_ HO_218002.out)) (by decide) hg)
            have n1_ := sd_ (blk_grown (g := gb213) (o := .cells #[.int .i64 a0_0, .slice A0_1 l0_1.length c0_1, .slice A0_2 l0_2.length c0_2, .slice A0_3 l0_3.length c0_3] 27 (0, 0)) (bz_ BK213.out) hg (Kd.R_ne HO_218002.out BK213.out (by decide)))
            have n2_ := sd_ (blk_grown (g := gb214) (o := .cells #[.int .i64 a1_0, .slice A1_1 l1_1.length c1_1, .slice A1_2 l1_2.length c1_2, .slice A1_3 l1_3.length c1_3] 27 (0, 0)) (bz_ BK214.out) hg (Kd.R_ne HO_218002.out BK214.out (by decide)))
            have n3_ := sd_ (blk_grown (g := gb215) (o := .cells #[.int .i64 0, .slice none 0 0, .slice none 0 0, .slice none 0 0] 27 (0, 0)) (bz_ BK215.out) hg (Kd.R_ne HO_218002.out BK215.out (by decide)))
            have n4_ := sd_ (blk_grown (g := gb217) (o := .cells #[.int .i64 (wrap64 (a0_0 * a1_0)), .slice Ao51 y225.length co51, u218002, u218003] 27 (0, 0)) (bz_ BK217.out) hg (Kd.R_ne HO_218002.out BK217.out (by decide)))
            have n5_ := sd_ (Kd.R_after (ok := (fun _ => True)) (by (with_reducible repeat (first | apply Kd.R_alloc | apply Kd.R_drewN | apply Kd.R_drew)); exact Kd.R_mono HO227.out (fun _ hk => ⟨trivial, hk⟩)) hg hat)
            have n6_ := sd_ (hb)
            have n7_ := sd_ (ho)
            clear HO_218003
            clear BK213
            clear BK214
            clear BK215
            clear BK217
            clear HO227
            clear HB
            clear HO_218002
            have HO_218003 := n0_
            have BK213 := n1_
            have BK214 := n2_
            have BK215 := n3_
            have BK217 := n4_
            have HO227 := n5_
            have HB := n6_
            have HO233 := n7_
            clear n0_ n1_ n2_ n3_ n4_ n5_ n6_ n7_
            clear ho hb hg hat
            obtain ⟨Ao58, co58, eo58⟩ := Kd.R_slice HO233.out
            (first | subst eo58 | (injection eo58 with f1_ f2_ f3_; have f4_ := f1_.symm; have f5_ := f3_.symm; clear f1_ f2_ f3_; subst f4_; subst f5_))
            refine hK.out _ _ ⟨(blk_cell BK217.out 0).trans rfl, (blk_cell BK217.out 1).trans rfl, (blk_cell BK217.out 2).trans rfl, (blk_cell BK217.out 3).trans rfl, (blk_cell BK213.out 0).trans rfl, (blk_cell BK213.out 1).trans rfl, (blk_cell BK213.out 2).trans rfl, (blk_cell BK213.out 3).trans rfl, (blk_cell BK214.out 0).trans rfl, (blk_cell BK214.out 1).trans rfl, (blk_cell BK214.out 2).trans rfl, (blk_cell BK214.out 3).trans rfl⟩ (fun hHeld => ?_)
            clear hK K
            refine norm_ (a' := ?_) ?_ ?_
            rotate_left
            ·show Act.put _ (some 78) _ = _
             simp only [Act.put, List.setIfInBounds_toArray, List.set_cons_zero, List.set_cons_succ, i64_w, i32_w]
             rfl
            refine pure_ (i := 14) (N := some 79) (v := ?_) (a' := ?_) #[true, true, true, true, true, true, true, true, true, true, true, true, true, true, true, false] rfl rfl (any_of HT_.out (by kernel_rfl)) (fun _ _ _ h => h) (Or.inl ⟨by rfl, ?_⟩) ?_ ?_
            rotate_left
            ·intro w'
             go_simp
             with_reducible rfl
            rotate_left
            ·simp only [Act.put, List.setIfInBounds_toArray, List.set_cons_zero, List.set_cons_succ, i64_w, i32_w]
             rfl
            refine last_ (i := 15) (N := none) #[true, true, true, true, true, true, true, true, true, true, true, true, true, true, true, true] rfl rfl (one_of HT_.out (by kernel_rfl)) (by decide) (fun K hK => ?_)
            have hs59 : w57.cell? ⟨gb217, 2, none⟩ = some (u218002) := (blk_cell BK217.out 2).trans rfl
            have hfs59 := blk_frozen BK217.out 2
            have hns59_0 := NB213_217.out
            have hns59_1 := NB214_217.out
            have hns59_2 := NB215_217.out
            have hms59_0 := NB217_213.out
            have hms59_1 := NB217_214.out
            have hms59_2 := NB217_215.out
            refine skip_ (w1 := ?_) (by rfl) rfl ?_ ?_
            rotate_left
            ·go_simp
             rfl
            refine hK.out _ _ ?_
            clear hK K
            refine done_ (done_of HT_.out (by kernel_rfl)) ?_
            try go_wp2
            have n0_ : Aside0 (Kd.R Kd.bool 4 (w57.setCell ⟨gb217, 2, none⟩ (.slice Ao58 y231.length co58)) w.heap.size (fun _ => True) u218003 x218003_2) := ⟨by (with_reducible repeat (first | apply Kd.R_alloc | apply Kd.R_drewN | apply Kd.R_drew)); exact Kd.R_mono (Kd.R_far (p := ⟨gb217, 2, none⟩) (Kd.R_types HO_218003.out BK217.out (by decide)) (fun _ hk => hk.2) (.slice Ao58 y231.length co58)) (fun _ hk => trivial)⟩
            have n1_ : Aside0 (Kd.R (Kd.int .i64) 3 (w57.setCell ⟨gb217, 2, none⟩ (.slice Ao58 y231.length co58)) w.heap.size (fun k_ => some k_ ≠ (.slice Ao58 y231.length co58 : Value).ownBlock) (.slice Ao51 y225.length co51) y225) := ⟨by (with_reducible repeat (first | apply Kd.R_alloc | apply Kd.R_drewN | apply Kd.R_drew)); exact Kd.R_mono (Kd.R_far (p := ⟨gb217, 2, none⟩) (Kd.R_types HO227.out BK217.out (by decide)) (fun _ hk => hk.2) (.slice Ao58 y231.length co58)) (fun _ hk => hk.1.2)⟩
            have n2_ : Aside0 (Kd.R (Kd.int .i64) 3 (w57.setCell ⟨gb217, 2, none⟩ (.slice Ao58 y231.length co58)) w.heap.size (fun k_ => some k_ ≠ (.slice Ao51 y225.length co51 : Value).ownBlock) (.slice Ao58 y231.length co58) y231) := ⟨by (with_reducible repeat (first | apply Kd.R_alloc | apply Kd.R_drewN | apply Kd.R_drew)); exact rf_ HO233.out BK217.out⟩
            have n3_ : Aside0 ((w57.setCell ⟨gb217, 2, none⟩ (.slice Ao58 y231.length co58)).heap[gb213]? = some (.cells #[.int .i64 a0_0, .slice A0_1 l0_1.length c0_1, .slice A0_2 l0_2.length c0_2, .slice A0_3 l0_3.length c0_3] 27 (0, 0))) := ⟨by exact zf1_ BK213.out NB213_217.out⟩
            have n4_ : Aside0 ((w57.setCell ⟨gb217, 2, none⟩ (.slice Ao58 y231.length co58)).heap[gb214]? = some (.cells #[.int .i64 a1_0, .slice A1_1 l1_1.length c1_1, .slice A1_2 l1_2.length c1_2, .slice A1_3 l1_3.length c1_3] 27 (0, 0))) := ⟨by exact zf1_ BK214.out NB214_217.out⟩
            have n5_ : Aside0 ((w57.setCell ⟨gb217, 2, none⟩ (.slice Ao58 y231.length co58)).heap[gb215]? = some (.cells #[.int .i64 0, .slice none 0 0, .slice none 0 0, .slice none 0 0] 27 (0, 0))) := ⟨by exact zf1_ BK215.out NB215_217.out⟩
            have n6_ : Aside0 ((w57.setCell ⟨gb217, 2, none⟩ (.slice Ao58 y231.length co58)).heap[gb217]? = some (.cells #[.int .i64 (wrap64 (a0_0 * a1_0)), .slice Ao51 y225.length co51, .slice Ao58 y231.length co58, u218003] 27 (0, 0))) := ⟨by (with_reducible repeat (first | refine blk_drewN ?_ _ | refine blk_drew ?_ | refine blk_alloc ?_ _)); refine blk_put (cs := #[.int .i64 (wrap64 (a0_0 * a1_0)), .slice Ao51 y225.length co51, u218002, u218003]) ?_ 2 _ rfl; exact bz_ BK217.out⟩
            have n7_ : Aside0 (Below w.heap.size w (w57.setCell ⟨gb217, 2, none⟩ (.slice Ao58 y231.length co58))) := ⟨bw4_ HB.out GE213.out GE214.out GE215.out GE217.out⟩
            (try clear HO_218003)
            (try clear HO227)
            (try clear HO233)
            (try clear BK213)
            (try clear BK214)
            (try clear BK215)
            (try clear BK217)
            (try clear HB)
            generalize (w57.setCell ⟨gb217, 2, none⟩ (.slice Ao58 y231.length co58)) = w60 at n0_ n1_ n2_ n3_ n4_ n5_ n6_ n7_ ⊢
            have HO_218003 := n0_
            have HO227 := n1_
            have HO233 := n2_
            have BK213 := n3_
            have BK214 := n4_
            have BK215 := n5_
            have BK217 := n6_
            have HB := n7_
            clear n0_ n1_ n2_ n3_ n4_ n5_ n6_ n7_
            replace HO_218003 := sd_ (Kd.R_drew HO_218003.out)
            replace HO227 := sd_ (Kd.R_drew HO227.out)
            replace HO233 := sd_ (Kd.R_drew HO233.out)
            replace BK213 := sd_ (blk_drew BK213.out)
            replace BK214 := sd_ (blk_drew BK214.out)
            replace BK215 := sd_ (blk_drew BK215.out)
            replace BK217 := sd_ (blk_drew BK217.out)
            replace HB := sd_ (below_drew1 HB.out)
            refine start_ (n := 16) (S := fun w' => w'.cell? ⟨gb217, 0, none⟩ = some (.int .i64 (wrap64 (a0_0 * a1_0))) ∧ w'.cell? ⟨gb217, 1, none⟩ = some (.slice Ao51 y225.length co51) ∧ w'.cell? ⟨gb217, 2, none⟩ = some (.slice Ao58 y231.length co58) ∧ w'.cell? ⟨gb217, 3, none⟩ = some (u218003) ∧ w'.cell? ⟨gb213, 0, none⟩ = some (.int .i64 a0_0) ∧ w'.cell? ⟨gb213, 1, none⟩ = some (.slice A0_1 l0_1.length c0_1) ∧ w'.cell? ⟨gb213, 2, none⟩ = some (.slice A0_2 l0_2.length c0_2) ∧ w'.cell? ⟨gb213, 3, none⟩ = some (.slice A0_3 l0_3.length c0_3) ∧ w'.cell? ⟨gb214, 0, none⟩ = some (.int .i64 a1_0) ∧ w'.cell? ⟨gb214, 1, none⟩ = some (.slice A1_1 l1_1.length c1_1) ∧ w'.cell? ⟨gb214, 2, none⟩ = some (.slice A1_2 l1_2.length c1_2) ∧ w'.cell? ⟨gb214, 3, none⟩ = some (.slice A1_3 l1_3.length c1_3)) (ds := [15]) #[false, false, false, false, false, false, false, false, false, false, false, false, false, false, false, false] (by kernel_rfl) rfl rfl ⟨(blk_cell BK217.out 0).trans rfl, (blk_cell BK217.out 1).trans rfl, (blk_cell BK217.out 2).trans rfl, (blk_cell BK217.out 3).trans rfl, (blk_cell BK213.out 0).trans rfl, (blk_cell BK213.out 1).trans rfl, (blk_cell BK213.out 2).trans rfl, (blk_cell BK213.out 3).trans rfl, (blk_cell BK214.out 0).trans rfl, (blk_cell BK214.out 1).trans rfl, (blk_cell BK214.out 2).trans rfl, (blk_cell BK214.out 3).trans rfl⟩ (fun hHeld => ?_); refine with_tabW spec_ProductSystem.tab17 spec_ProductSystem.bits17 (fun HT_ HW_ => ?_)
            generalize w60.drew = w61 at HO_218003 HO227 HO233 BK213 BK214 BK215 BK217 HB hHeld ⊢
            refine pure_ (i := 0) (N := some 80) (v := ?_) (a' := ?_) #[true, false, false, false, false, false, false, false, false, false, false, false, false, false, false, false] rfl rfl (any_of HT_.out (by kernel_rfl)) (fun _ _ _ h => h) (Or.inl ⟨by rfl, ?_⟩) ?_ ?_
            rotate_left
            ·intro w'
             go_simp
             with_reducible rfl
            rotate_left
            ·simp only [Act.put, List.setIfInBounds_toArray, List.set_cons_zero, List.set_cons_succ, i64_w, i32_w]
             rfl
            refine pure_ (i := 3) (N := some 83) (v := ?_) (a' := ?_) #[true, false, false, true, false, false, false, false, false, false, false, false, false, false, false, false] rfl rfl (any_of HT_.out (by kernel_rfl)) (fun _ _ _ h => h) (Or.inl ⟨by rfl, ?_⟩) ?_ ?_
            rotate_left
            ·intro w'
             go_simp
             with_reducible rfl
            rotate_left
            ·simp only [Act.put, List.setIfInBounds_toArray, List.set_cons_zero, List.set_cons_succ, i64_w, i32_w]
             rfl
            refine pure_ (i := 4) (N := some 84) (v := ?_) (a' := ?_) #[true, false, false, true, true, false, false, false, false, false, false, false, false, false, false, false] rfl rfl (any_of HT_.out (by kernel_rfl)) (fun _ _ _ h => h) (Or.inl ⟨by rfl, ?_⟩) ?_ ?_
            rotate_left
            ·intro w'
             go_simp
             with_reducible rfl
            rotate_left
            ·simp only [Act.put, List.setIfInBounds_toArray, List.set_cons_zero, List.set_cons_succ, i64_w, i32_w]
             rfl
            refine take_ (i := 1) (N := some 81) (v := ?_) (a' := ?_) #[true, true, false, true, true, false, false, false, false, false, false, false, false, false, false, false] rfl rfl (take_ofW HT_.out HW_.out (by kernel_rfl)) (fun _ _ _ h => h) (Or.inl ⟨by rfl, ?_⟩) hHeld ?_ ?_
            rotate_left
            ·rintro w' ⟨s0, s1, s2, s3, s4, s5, s6, s7, s8, s9, s10, s11⟩
             go_simp
             with_reducible rfl
            rotate_left
            ·simp only [Act.put, List.setIfInBounds_toArray, List.set_cons_zero, List.set_cons_succ, i64_w, i32_w]
             rfl
            refine take_ (i := 2) (N := some 82) (v := ?_) (a' := ?_) #[true, true, true, true, true, false, false, false, false, false, false, false, false, false, false, false] rfl rfl (take_ofW HT_.out HW_.out (by kernel_rfl)) (fun _ _ _ h => h) (Or.inl ⟨by rfl, ?_⟩) hHeld ?_ ?_
            rotate_left
            ·rintro w' ⟨s0, s1, s2, s3, s4, s5, s6, s7, s8, s9, s10, s11⟩
             go_simp
             with_reducible rfl
            rotate_left
            ·simp only [Act.put, List.setIfInBounds_toArray, List.set_cons_zero, List.set_cons_succ, i64_w, i32_w]
             rfl
            refine one_ (i := 5) (N := some 85) #[true, true, true, true, true, true, false, false, false, false, false, false, false, false, false, false] rfl rfl (one_of HT_.out (by kernel_rfl)) (by decide) (fun K hK => ?_)
            refine goes_ Try.func90 (by kernel_rfl) rfl #[.agg #[.int .i64 a0_0, .slice A0_1 l0_1.length c0_1, .slice A0_2 l0_2.length c0_2, .slice A0_3 l0_3.length c0_3], .int .i64 t218, .int .i64 t220] (by rfl) rfl rfl la_ ?_
            with_reducible refine (spec_l1Le.calls a0_0 _ _ l0_1 _ _ l0_2 _ _ l0_3 t218 t220 true _ ?side1 ?side2 ?side3 ?side4 ?side5 ?side6 A39.out).mono ?_
            (case side1 => exact kc_ HR0_1.out HB.out)
            (case side2 => exact HC0_1.out)
            (case side3 => exact kc_ HR0_2.out HB.out)
            (case side4 => exact HC0_2.out)
            (case side5 => exact kc_ HR0_3.out HB.out)
            (case side6 => exact HC0_3.out)
            rintro e w62 ⟨rfl, hb⟩
            refine ⟨_, rfl, ?_⟩
            replace HO_218003 := sd_ (Kd.R_below (ro_ HO_218003.out) hb)
            replace HO227 := sd_ (Kd.R_below (ro_ HO227.out) hb)
            replace HO233 := sd_ (Kd.R_below (ro_ HO233.out) hb)
            replace BK213 := sd_ (bb_ BK213.out hb)
            replace BK214 := sd_ (bb_ BK214.out hb)
            replace BK215 := sd_ (bb_ BK215.out hb)
            replace BK217 := sd_ (bb_ BK217.out hb)
            replace HB := sd_ (below_step (bw4_ HB.out GE213.out GE214.out GE215.out GE217.out) hb)
            (try clear hb)
            (try clear hb2)
            (try clear hk)
            (try clear hi)
            refine hK.out _ _ ⟨(blk_cell BK217.out 0).trans rfl, (blk_cell BK217.out 1).trans rfl, (blk_cell BK217.out 2).trans rfl, (blk_cell BK217.out 3).trans rfl, (blk_cell BK213.out 0).trans rfl, (blk_cell BK213.out 1).trans rfl, (blk_cell BK213.out 2).trans rfl, (blk_cell BK213.out 3).trans rfl, (blk_cell BK214.out 0).trans rfl, (blk_cell BK214.out 1).trans rfl, (blk_cell BK214.out 2).trans rfl, (blk_cell BK214.out 3).trans rfl⟩ (fun hHeld => ?_)
            clear hK K
            refine norm_ (a' := ?_) ?_ ?_
            rotate_left
            ·show Act.put _ (some 85) _ = _
             simp only [Act.put, List.setIfInBounds_toArray, List.set_cons_zero, List.set_cons_succ, i64_w, i32_w]
             rfl
            refine pure_ (i := 6) (N := some 86) (v := ?_) (a' := ?_) #[true, true, true, true, true, true, true, false, false, false, false, false, false, false, false, false] rfl rfl (any_of HT_.out (by kernel_rfl)) (fun _ _ _ h => h) (Or.inl ⟨by rfl, ?_⟩) ?_ ?_
            rotate_left
            ·intro w'
             go_simp
             with_reducible rfl
            rotate_left
            ·simp only [Act.put, List.setIfInBounds_toArray, List.set_cons_zero, List.set_cons_succ, i64_w, i32_w]
             rfl
            refine pure_ (i := 8) (N := some 88) (v := ?_) (a' := ?_) #[true, true, true, true, true, true, true, false, true, false, false, false, false, false, false, false] rfl rfl (any_of HT_.out (by kernel_rfl)) (fun _ _ _ h => h) (Or.inl ⟨by rfl, ?_⟩) ?_ ?_
            rotate_left
            ·intro w'
             go_simp
             with_reducible rfl
            rotate_left
            ·simp only [Act.put, List.setIfInBounds_toArray, List.set_cons_zero, List.set_cons_succ, i64_w, i32_w]
             rfl
            refine pure_ (i := 9) (N := some 89) (v := ?_) (a' := ?_) #[true, true, true, true, true, true, true, false, true, true, false, false, false, false, false, false] rfl rfl (any_of HT_.out (by kernel_rfl)) (fun _ _ _ h => h) (Or.inl ⟨by rfl, ?_⟩) ?_ ?_
            rotate_left
            ·intro w'
             go_simp
             with_reducible rfl
            rotate_left
            ·simp only [Act.put, List.setIfInBounds_toArray, List.set_cons_zero, List.set_cons_succ, i64_w, i32_w]
             rfl
            refine take_ (i := 7) (N := some 87) (v := ?_) (a' := ?_) #[true, true, true, true, true, true, true, true, true, true, false, false, false, false, false, false] rfl rfl (take_ofW HT_.out HW_.out (by kernel_rfl)) (fun _ _ _ h => h) (Or.inl ⟨by rfl, ?_⟩) hHeld ?_ ?_
            rotate_left
            ·rintro w' ⟨s0, s1, s2, s3, s4, s5, s6, s7, s8, s9, s10, s11⟩
             go_simp
             with_reducible rfl
            rotate_left
            ·simp only [Act.put, List.setIfInBounds_toArray, List.set_cons_zero, List.set_cons_succ, i64_w, i32_w]
             rfl
            refine one_ (i := 10) (N := some 90) #[true, true, true, true, true, true, true, true, true, true, true, false, false, false, false, false] rfl rfl (one_of HT_.out (by kernel_rfl)) (by decide) (fun K hK => ?_)
            refine goes_ Try.func90 (by kernel_rfl) rfl #[.agg #[.int .i64 a1_0, .slice A1_1 l1_1.length c1_1, .slice A1_2 l1_2.length c1_2, .slice A1_3 l1_3.length c1_3], .int .i64 t219, .int .i64 t221] (by rfl) rfl rfl la_ ?_
            with_reducible refine (spec_l1Le.calls a1_0 _ _ l1_1 _ _ l1_2 _ _ l1_3 t219 t221 t235 _ ?side1 ?side2 ?side3 ?side4 ?side5 ?side6 A41.out).mono ?_
            (case side1 => exact kc_ HR1_1.out HB.out)
            (case side2 => exact HC1_1.out)
            (case side3 => exact kc_ HR1_2.out HB.out)
            (case side4 => exact HC1_2.out)
            (case side5 => exact kc_ HR1_3.out HB.out)
            (case side6 => exact HC1_3.out)
            rintro e w63 ⟨rfl, hb⟩
            refine ⟨_, rfl, ?_⟩
            replace HO_218003 := sd_ (Kd.R_below (ro_ HO_218003.out) hb)
            replace HO227 := sd_ (Kd.R_below (ro_ HO227.out) hb)
            replace HO233 := sd_ (Kd.R_below (ro_ HO233.out) hb)
            replace BK213 := sd_ (bb_ BK213.out hb)
            replace BK214 := sd_ (bb_ BK214.out hb)
            replace BK215 := sd_ (bb_ BK215.out hb)
            replace BK217 := sd_ (bb_ BK217.out hb)
            replace HB := sd_ (below_step (bw4_ HB.out GE213.out GE214.out GE215.out GE217.out) hb)
            (try clear hb)
            (try clear hb2)
            (try clear hk)
            (try clear hi)
            refine hK.out _ _ ⟨(blk_cell BK217.out 0).trans rfl, (blk_cell BK217.out 1).trans rfl, (blk_cell BK217.out 2).trans rfl, (blk_cell BK217.out 3).trans rfl, (blk_cell BK213.out 0).trans rfl, (blk_cell BK213.out 1).trans rfl, (blk_cell BK213.out 2).trans rfl, (blk_cell BK213.out 3).trans rfl, (blk_cell BK214.out 0).trans rfl, (blk_cell BK214.out 1).trans rfl, (blk_cell BK214.out 2).trans rfl, (blk_cell BK214.out 3).trans rfl⟩ (fun hHeld => ?_)
            clear hK K
            refine norm_ (a' := ?_) ?_ ?_
            rotate_left
            ·show Act.put _ (some 90) _ = _
             simp only [Act.put, List.setIfInBounds_toArray, List.set_cons_zero, List.set_cons_succ, i64_w, i32_w]
             rfl
            refine pure_ (i := 11) (N := some 91) (v := ?_) (a' := ?_) #[true, true, true, true, true, true, true, true, true, true, true, true, false, false, false, false] rfl rfl (any_of HT_.out (by kernel_rfl)) (fun _ _ _ h => h) (Or.inl ⟨by rfl, ?_⟩) ?_ ?_
            rotate_left
            ·intro w'
             go_simp
             with_reducible rfl
            rotate_left
            ·simp only [Act.put, List.setIfInBounds_toArray, List.set_cons_zero, List.set_cons_succ, i64_w, i32_w]
             rfl
            refine one_ (i := 12) (N := some 92) #[true, true, true, true, true, true, true, true, true, true, true, true, true, false, false, false] rfl rfl (one_of HT_.out (by kernel_rfl)) (by decide) (fun K hK => ?_)
            refine value_ (w1 := ?_) (v := ?_) (by rfl) rfl ?_ ?_
            rotate_left 2
            ·go_simp
             constructor
             ·rfl
             rfl
            refine hK.out _ _ ⟨(blk_cell (blk_alloc BK217.out _) 0).trans rfl, (blk_cell (blk_alloc BK217.out _) 1).trans rfl, (blk_cell (blk_alloc BK217.out _) 2).trans rfl, (blk_cell (blk_alloc BK217.out _) 3).trans rfl, (blk_cell (blk_alloc BK213.out _) 0).trans rfl, (blk_cell (blk_alloc BK213.out _) 1).trans rfl, (blk_cell (blk_alloc BK213.out _) 2).trans rfl, (blk_cell (blk_alloc BK213.out _) 3).trans rfl, (blk_cell (blk_alloc BK214.out _) 0).trans rfl, (blk_cell (blk_alloc BK214.out _) 1).trans rfl, (blk_cell (blk_alloc BK214.out _) 2).trans rfl, (blk_cell (blk_alloc BK214.out _) 3).trans rfl⟩ (fun hHeld => ?_)
            clear hK K
            refine norm_ (a' := ?_) ?_ ?_
            rotate_left
            ·show Act.put _ (some 92) _ = _
             simp only [Act.put, List.setIfInBounds_toArray, List.set_cons_zero, List.set_cons_succ, i64_w, i32_w]
             rfl
            refine one_ (i := 13) (N := some 93) #[true, true, true, true, true, true, true, true, true, true, true, true, true, true, false, false] rfl rfl (one_of HT_.out (by kernel_rfl)) (by decide) (fun K hK => ?_)
            refine Kd.R_append_step Kd.bool (w0 := w) w.heap.size (by rfl) (.tmp 81) (.tmp 92) 25 4 (.bool false) 1 rfl Try.underlying25 info4 rfl (by decide) (by omega) u218003 x218003_2 t235 [.bool t235] (fun _ => True) (fun _ => False) rfl rfl ?aP (fun _ hk => hk.elim) ?aF ?aO ?aB ?aS ?aL ?_
            (case aP => exact rfl)
            (case aB => exact (bw4_ HB.out GE213.out GE214.out GE215.out GE217.out))
            (case aF => exact (fun _ _ => trivial))
            (case aO => exact (ro_ HO_218003.out))
            (case aS => exact (below_size (bw4_ HB.out GE213.out GE214.out GE215.out GE217.out)))
            (case aL => have := LMc42.out; omega)
            intro v237 w64 ho hb hg hat
            rw [← Ny236.out] at ho
            have n0_ := sd_ (blk_grown (g := gb213) (o := .cells #[.int .i64 a0_0, .slice A0_1 l0_1.length c0_1, .slice A0_2 l0_2.length c0_2, .slice A0_3 l0_3.length c0_3] 27 (0, 0)) (bz_ BK213.out) hg (Kd.R_ne HO_218003.out BK213.out (by decide)))
            have n1_ := sd_ (blk_grown (g := gb214) (o := .cells #[.int .i64 a1_0, .slice A1_1 l1_1.length c1_1, .slice A1_2 l1_2.length c1_2, .slice A1_3 l1_3.length c1_3] 27 (0, 0)) (bz_ BK214.out) hg (Kd.R_ne HO_218003.out BK214.out (by decide)))
            have n2_ := sd_ (blk_grown (g := gb215) (o := .cells #[.int .i64 0, .slice none 0 0, .slice none 0 0, .slice none 0 0] 27 (0, 0)) (bz_ BK215.out) hg (Kd.R_ne HO_218003.out BK215.out (by decide)))
            have n3_ := sd_ (blk_grown (g := gb217) (o := .cells #[.int .i64 (wrap64 (a0_0 * a1_0)), .slice Ao51 y225.length co51, .slice Ao58 y231.length co58, u218003] 27 (0, 0)) (bz_ BK217.out) hg (Kd.R_ne HO_218003.out BK217.out (by decide)))
            have n4_ := sd_ (Kd.R_over' (ro_ HO227.out) (Kd.R_typed (ro_ HO_218003.out)) (by decide) hg)
            have n5_ := sd_ (Kd.R_over' (ro_ HO233.out) (Kd.R_typed (ro_ HO_218003.out)) (by decide) hg)
            have n6_ := sd_ (hb)
            have n7_ := sd_ (ho)
            clear BK213
            clear BK214
            clear BK215
            clear BK217
            clear HO227
            clear HO233
            clear HB
            clear HO_218003
            have BK213 := n0_
            have BK214 := n1_
            have BK215 := n2_
            have BK217 := n3_
            have HO227 := n4_
            have HO233 := n5_
            have HB := n6_
            have HO238 := n7_
            clear n0_ n1_ n2_ n3_ n4_ n5_ n6_ n7_
            clear ho hb hg hat
            obtain ⟨Ao65, co65, eo65⟩ := Kd.R_slice HO238.out
            (first | subst eo65 | (injection eo65 with f1_ f2_ f3_; have f4_ := f1_.symm; have f5_ := f3_.symm; clear f1_ f2_ f3_; subst f4_; subst f5_))
            refine hK.out _ _ ⟨(blk_cell BK217.out 0).trans rfl, (blk_cell BK217.out 1).trans rfl, (blk_cell BK217.out 2).trans rfl, (blk_cell BK217.out 3).trans rfl, (blk_cell BK213.out 0).trans rfl, (blk_cell BK213.out 1).trans rfl, (blk_cell BK213.out 2).trans rfl, (blk_cell BK213.out 3).trans rfl, (blk_cell BK214.out 0).trans rfl, (blk_cell BK214.out 1).trans rfl, (blk_cell BK214.out 2).trans rfl, (blk_cell BK214.out 3).trans rfl⟩ (fun hHeld => ?_)
            clear hK K
            refine norm_ (a' := ?_) ?_ ?_
            rotate_left
            ·show Act.put _ (some 93) _ = _
             simp only [Act.put, List.setIfInBounds_toArray, List.set_cons_zero, List.set_cons_succ, i64_w, i32_w]
             rfl
            refine pure_ (i := 14) (N := some 94) (v := ?_) (a' := ?_) #[true, true, true, true, true, true, true, true, true, true, true, true, true, true, true, false] rfl rfl (any_of HT_.out (by kernel_rfl)) (fun _ _ _ h => h) (Or.inl ⟨by rfl, ?_⟩) ?_ ?_
            rotate_left
            ·intro w'
             go_simp
             with_reducible rfl
            rotate_left
            ·simp only [Act.put, List.setIfInBounds_toArray, List.set_cons_zero, List.set_cons_succ, i64_w, i32_w]
             rfl
            refine last_ (i := 15) (N := none) #[true, true, true, true, true, true, true, true, true, true, true, true, true, true, true, true] rfl rfl (one_of HT_.out (by kernel_rfl)) (by decide) (fun K hK => ?_)
            have hs66 : w64.cell? ⟨gb217, 3, none⟩ = some (u218003) := (blk_cell BK217.out 3).trans rfl
            have hfs66 := blk_frozen BK217.out 3
            have hns66_0 := NB213_217.out
            have hns66_1 := NB214_217.out
            have hns66_2 := NB215_217.out
            have hms66_0 := NB217_213.out
            have hms66_1 := NB217_214.out
            have hms66_2 := NB217_215.out
            refine skip_ (w1 := ?_) (by rfl) rfl ?_ ?_
            rotate_left
            ·go_simp
             rfl
            refine hK.out _ _ ?_
            clear hK K
            refine done_ (done_of HT_.out (by kernel_rfl)) ?_
            try go_wp2
            go_roundg k2
            case measure => have := HK1.out; have := HK2.out; omega
            case rel => exact ⟨(wrap64 (x9_2 + 1)), (y225), (y231), (y236), (.slice Ao51 y225.length co51), (.slice Ao58 y231.length co58), (.slice Ao65 y236.length co65), sm_, H', ⟨by have := HK1.out; have := HK2.out; omega⟩, ⟨by (with_reducible repeat (first | apply Kd.R_alloc | apply Kd.R_drewN | apply Kd.R_drew)); exact rf_ HO227.out BK217.out⟩, ⟨by (with_reducible repeat (first | apply Kd.R_alloc | apply Kd.R_drewN | apply Kd.R_drew)); exact rf_ HO233.out BK217.out⟩, ⟨by (with_reducible repeat (first | apply Kd.R_alloc | apply Kd.R_drewN | apply Kd.R_drew)); exact Kd.R_mono (Kd.R_far (p := ⟨gb217, 3, none⟩) (Kd.R_types HO238.out BK217.out (by decide)) (fun _ hk => hk.2) (.slice Ao65 y236.length co65)) (fun _ hk => trivial)⟩, ⟨by exact zf1_ BK213.out NB213_217.out⟩, ⟨by exact zf1_ BK214.out NB214_217.out⟩, ⟨by exact zf1_ BK215.out NB215_217.out⟩, ⟨by (with_reducible repeat (first | refine blk_drewN ?_ _ | refine blk_drew ?_ | refine blk_alloc ?_ _)); refine blk_put (cs := #[.int .i64 (wrap64 (a0_0 * a1_0)), .slice Ao51 y225.length co51, .slice Ao58 y231.length co58, u218003]) ?_ 3 _ rfl; exact bz_ BK217.out⟩, ⟨bw4_ HB.out GE213.out GE214.out GE215.out GE217.out⟩⟩
           rw [if_neg c42] at H
           exact absurd H (by simp)
          replace c40 := Bool.eq_false_iff.mpr c40
          subst c40
          have H1 : (if x218003_2.length < 140737488355328 then (spec_ProductSystem.l1 k2 a1_0 x8_1 (wrap64 (x9_2 + 1)) a0_0 l0_1 l0_2 l0_3 a1_0 l1_1 l1_2 l1_3 (wrap64 (a0_0 * a1_0)) y225 y231 (x218003_2 ++ [false])) else (none)) = some (r1, r2, r3, r4, r5) := by rw [if_neg (show ¬ (false = true) by decide)] at H; exact H
          clear H
          have H := H1
          clear H1
          by_cases c67 : x218003_2.length < 140737488355328
          ·rw [if_pos c67] at H
           have LMc67 := sd_ c67
           clear c67
           obtain ⟨y239, hy239⟩ : ∃ y_ : List Bool, y_ = (x218003_2 ++ [false]) := ⟨_, rfl⟩
           replace H : (spec_ProductSystem.l1 k2 a1_0 x8_1 (wrap64 (x9_2 + 1)) a0_0 l0_1 l0_2 l0_3 a1_0 l1_1 l1_2 l1_3 (wrap64 (a0_0 * a1_0)) y225 y231 y239) = some (r1, r2, r3, r4, r5) := by first | (rw [hy239]; with_reducible exact H) | (have H2_ := (Option.bind_some _ _).symm.trans H; rw [hy239]; with_reducible exact H2_) | (have H2_ := (Option.bind_some _ _).symm.trans H; with_reducible exact H2_) | with_reducible exact H | (rw [hy239]; exact H) | exact H
           have Ny239 := sd_ hy239
           clear hy239
           have H' := sd_ H
           clear H
           have hnb68 := NB217_213.out
           have hnc68 := NB213_217.out
           have hnb69 := NB217_214.out
           have hnc69 := NB214_217.out
           have hnb70 := NB217_215.out
           have hnc70 := NB215_217.out
           obtain ⟨hcz71_0, hcz71_1, hcz71_2, hcz71_3, hfz71_0, hfz71_1, hfz71_2, hfz71_3⟩ := bf4_ BK217.out
           try go_wp2_with (first | ((with_reducible refine gate_callee (f := 86) rfl ?_); refine goesL_ (some 40) rfl rfl Try.func86 (by kernel_rfl) rfl #[.int .i64 a1_0, .int .i64 x8_1] rfl la_ ?_; (with_reducible refine (spec_l1First.calls a1_0 x8_1 t218 _ A27.out).mono ?_); rintro e w' ⟨rfl, ⟨nd, rfl⟩⟩; refine ⟨_, rfl, ?_⟩; (try (rw [drewN_self wr]; generalize hq_ : World.drewN wr _ = wr; have n0_ : Aside0 (Kd.R (Kd.int .i64) 3 wr w.heap.size (fun k_ => some k_ ≠ (u218002 : Value).ownBlock) u218001 x218001_2) := ⟨by rw [← hq_]; exact (ro_ HO_218001.out)⟩; have n1_ : Aside0 (Kd.R (Kd.int .i64) 3 wr w.heap.size (fun k_ => some k_ ≠ (u218001 : Value).ownBlock) u218002 x218002_2) := ⟨by rw [← hq_]; exact (ro_ HO_218002.out)⟩; have n2_ : Aside0 (Kd.R Kd.bool 4 wr w.heap.size (fun _ => True) u218003 x218003_2) := ⟨by rw [← hq_]; exact (ro_ HO_218003.out)⟩; have n3_ : Aside0 (wr.heap[gb213]? = some (.cells #[.int .i64 a0_0, .slice A0_1 l0_1.length c0_1, .slice A0_2 l0_2.length c0_2, .slice A0_3 l0_3.length c0_3] 27 (0, 0))) := ⟨by rw [← hq_]; exact (bz_ BK213.out)⟩; have n4_ : Aside0 (wr.heap[gb214]? = some (.cells #[.int .i64 a1_0, .slice A1_1 l1_1.length c1_1, .slice A1_2 l1_2.length c1_2, .slice A1_3 l1_3.length c1_3] 27 (0, 0))) := ⟨by rw [← hq_]; exact (bz_ BK214.out)⟩; have n5_ : Aside0 (wr.heap[gb215]? = some (.cells #[.int .i64 0, .slice none 0 0, .slice none 0 0, .slice none 0 0] 27 (0, 0))) := ⟨by rw [← hq_]; exact (bz_ BK215.out)⟩; have n6_ : Aside0 (wr.heap[gb217]? = some (.cells #[.int .i64 (wrap64 (a0_0 * a1_0)), u218001, u218002, u218003] 27 (0, 0))) := ⟨by rw [← hq_]; exact (bz_ BK217.out)⟩; have n7_ : Aside0 (Below w.heap.size w wr) := ⟨by rw [← hq_]; exact (bw4_ HB.out GE213.out GE214.out GE215.out GE217.out)⟩; clear HO_218001 HO_218002 HO_218003 BK213 BK214 BK215 BK217 HB hq_; have HO_218001 := n0_; have HO_218002 := n1_; have HO_218003 := n2_; have BK213 := n3_; have BK214 := n4_; have BK215 := n5_; have BK217 := n6_; have HB := n7_; clear n0_ n1_ n2_ n3_ n4_ n5_ n6_ n7_))) | ((with_reducible refine gate_callee (f := 87) rfl ?_); refine goesL_ (some 43) rfl rfl Try.func87 (by kernel_rfl) rfl #[.int .i64 a1_0, .int .i64 x8_1] rfl la_ ?_; (with_reducible refine (spec_l1Second.calls a1_0 x8_1 t219 _ A28.out).mono ?_); rintro e w' ⟨rfl, ⟨nd, rfl⟩⟩; refine ⟨_, rfl, ?_⟩; (try (rw [drewN_self wr]; generalize hq_ : World.drewN wr _ = wr; have n0_ : Aside0 (Kd.R (Kd.int .i64) 3 wr w.heap.size (fun k_ => some k_ ≠ (u218002 : Value).ownBlock) u218001 x218001_2) := ⟨by rw [← hq_]; exact (ro_ HO_218001.out)⟩; have n1_ : Aside0 (Kd.R (Kd.int .i64) 3 wr w.heap.size (fun k_ => some k_ ≠ (u218001 : Value).ownBlock) u218002 x218002_2) := ⟨by rw [← hq_]; exact (ro_ HO_218002.out)⟩; have n2_ : Aside0 (Kd.R Kd.bool 4 wr w.heap.size (fun _ => True) u218003 x218003_2) := ⟨by rw [← hq_]; exact (ro_ HO_218003.out)⟩; have n3_ : Aside0 (wr.heap[gb213]? = some (.cells #[.int .i64 a0_0, .slice A0_1 l0_1.length c0_1, .slice A0_2 l0_2.length c0_2, .slice A0_3 l0_3.length c0_3] 27 (0, 0))) := ⟨by rw [← hq_]; exact (bz_ BK213.out)⟩; have n4_ : Aside0 (wr.heap[gb214]? = some (.cells #[.int .i64 a1_0, .slice A1_1 l1_1.length c1_1, .slice A1_2 l1_2.length c1_2, .slice A1_3 l1_3.length c1_3] 27 (0, 0))) := ⟨by rw [← hq_]; exact (bz_ BK214.out)⟩; have n5_ : Aside0 (wr.heap[gb215]? = some (.cells #[.int .i64 0, .slice none 0 0, .slice none 0 0, .slice none 0 0] 27 (0, 0))) := ⟨by rw [← hq_]; exact (bz_ BK215.out)⟩; have n6_ : Aside0 (wr.heap[gb217]? = some (.cells #[.int .i64 (wrap64 (a0_0 * a1_0)), u218001, u218002, u218003] 27 (0, 0))) := ⟨by rw [← hq_]; exact (bz_ BK217.out)⟩; have n7_ : Aside0 (Below w.heap.size w wr) := ⟨by rw [← hq_]; exact (bw4_ HB.out GE213.out GE214.out GE215.out GE217.out)⟩; clear HO_218001 HO_218002 HO_218003 BK213 BK214 BK215 BK217 HB hq_; have HO_218001 := n0_; have HO_218002 := n1_; have HO_218003 := n2_; have BK213 := n3_; have BK214 := n4_; have BK215 := n5_; have BK217 := n6_; have HB := n7_; clear n0_ n1_ n2_ n3_ n4_ n5_ n6_ n7_))) | ((with_reducible refine gate_callee (f := 86) rfl ?_); refine goesL_ (some 46) rfl rfl Try.func86 (by kernel_rfl) rfl #[.int .i64 a1_0, .int .i64 x9_2] rfl la_ ?_; (with_reducible refine (spec_l1First.calls a1_0 x9_2 t220 _ A29.out).mono ?_); rintro e w' ⟨rfl, ⟨nd, rfl⟩⟩; refine ⟨_, rfl, ?_⟩; (try (rw [drewN_self wr]; generalize hq_ : World.drewN wr _ = wr; have n0_ : Aside0 (Kd.R (Kd.int .i64) 3 wr w.heap.size (fun k_ => some k_ ≠ (u218002 : Value).ownBlock) u218001 x218001_2) := ⟨by rw [← hq_]; exact (ro_ HO_218001.out)⟩; have n1_ : Aside0 (Kd.R (Kd.int .i64) 3 wr w.heap.size (fun k_ => some k_ ≠ (u218001 : Value).ownBlock) u218002 x218002_2) := ⟨by rw [← hq_]; exact (ro_ HO_218002.out)⟩; have n2_ : Aside0 (Kd.R Kd.bool 4 wr w.heap.size (fun _ => True) u218003 x218003_2) := ⟨by rw [← hq_]; exact (ro_ HO_218003.out)⟩; have n3_ : Aside0 (wr.heap[gb213]? = some (.cells #[.int .i64 a0_0, .slice A0_1 l0_1.length c0_1, .slice A0_2 l0_2.length c0_2, .slice A0_3 l0_3.length c0_3] 27 (0, 0))) := ⟨by rw [← hq_]; exact (bz_ BK213.out)⟩; have n4_ : Aside0 (wr.heap[gb214]? = some (.cells #[.int .i64 a1_0, .slice A1_1 l1_1.length c1_1, .slice A1_2 l1_2.length c1_2, .slice A1_3 l1_3.length c1_3] 27 (0, 0))) := ⟨by rw [← hq_]; exact (bz_ BK214.out)⟩; have n5_ : Aside0 (wr.heap[gb215]? = some (.cells #[.int .i64 0, .slice none 0 0, .slice none 0 0, .slice none 0 0] 27 (0, 0))) := ⟨by rw [← hq_]; exact (bz_ BK215.out)⟩; have n6_ : Aside0 (wr.heap[gb217]? = some (.cells #[.int .i64 (wrap64 (a0_0 * a1_0)), u218001, u218002, u218003] 27 (0, 0))) := ⟨by rw [← hq_]; exact (bz_ BK217.out)⟩; have n7_ : Aside0 (Below w.heap.size w wr) := ⟨by rw [← hq_]; exact (bw4_ HB.out GE213.out GE214.out GE215.out GE217.out)⟩; clear HO_218001 HO_218002 HO_218003 BK213 BK214 BK215 BK217 HB hq_; have HO_218001 := n0_; have HO_218002 := n1_; have HO_218003 := n2_; have BK213 := n3_; have BK214 := n4_; have BK215 := n5_; have BK217 := n6_; have HB := n7_; clear n0_ n1_ n2_ n3_ n4_ n5_ n6_ n7_))) | ((with_reducible refine gate_callee (f := 87) rfl ?_); refine goesL_ (some 49) rfl rfl Try.func87 (by kernel_rfl) rfl #[.int .i64 a1_0, .int .i64 x9_2] rfl la_ ?_; (with_reducible refine (spec_l1Second.calls a1_0 x9_2 t221 _ A30.out).mono ?_); rintro e w' ⟨rfl, ⟨nd, rfl⟩⟩; refine ⟨_, rfl, ?_⟩; (try (rw [drewN_self wr]; generalize hq_ : World.drewN wr _ = wr; have n0_ : Aside0 (Kd.R (Kd.int .i64) 3 wr w.heap.size (fun k_ => some k_ ≠ (u218002 : Value).ownBlock) u218001 x218001_2) := ⟨by rw [← hq_]; exact (ro_ HO_218001.out)⟩; have n1_ : Aside0 (Kd.R (Kd.int .i64) 3 wr w.heap.size (fun k_ => some k_ ≠ (u218001 : Value).ownBlock) u218002 x218002_2) := ⟨by rw [← hq_]; exact (ro_ HO_218002.out)⟩; have n2_ : Aside0 (Kd.R Kd.bool 4 wr w.heap.size (fun _ => True) u218003 x218003_2) := ⟨by rw [← hq_]; exact (ro_ HO_218003.out)⟩; have n3_ : Aside0 (wr.heap[gb213]? = some (.cells #[.int .i64 a0_0, .slice A0_1 l0_1.length c0_1, .slice A0_2 l0_2.length c0_2, .slice A0_3 l0_3.length c0_3] 27 (0, 0))) := ⟨by rw [← hq_]; exact (bz_ BK213.out)⟩; have n4_ : Aside0 (wr.heap[gb214]? = some (.cells #[.int .i64 a1_0, .slice A1_1 l1_1.length c1_1, .slice A1_2 l1_2.length c1_2, .slice A1_3 l1_3.length c1_3] 27 (0, 0))) := ⟨by rw [← hq_]; exact (bz_ BK214.out)⟩; have n5_ : Aside0 (wr.heap[gb215]? = some (.cells #[.int .i64 0, .slice none 0 0, .slice none 0 0, .slice none 0 0] 27 (0, 0))) := ⟨by rw [← hq_]; exact (bz_ BK215.out)⟩; have n6_ : Aside0 (wr.heap[gb217]? = some (.cells #[.int .i64 (wrap64 (a0_0 * a1_0)), u218001, u218002, u218003] 27 (0, 0))) := ⟨by rw [← hq_]; exact (bz_ BK217.out)⟩; have n7_ : Aside0 (Below w.heap.size w wr) := ⟨by rw [← hq_]; exact (bw4_ HB.out GE213.out GE214.out GE215.out GE217.out)⟩; clear HO_218001 HO_218002 HO_218003 BK213 BK214 BK215 BK217 HB hq_; have HO_218001 := n0_; have HO_218002 := n1_; have HO_218003 := n2_; have BK213 := n3_; have BK214 := n4_; have BK215 := n5_; have BK217 := n6_; have HB := n7_; clear n0_ n1_ n2_ n3_ n4_ n5_ n6_ n7_))))
           replace HO_218001 := sd_ (Kd.R_drew HO_218001.out)
           replace HO_218002 := sd_ (Kd.R_drew HO_218002.out)
           replace HO_218003 := sd_ (Kd.R_drew HO_218003.out)
           replace BK213 := sd_ (blk_drew BK213.out)
           replace BK214 := sd_ (blk_drew BK214.out)
           replace BK215 := sd_ (blk_drew BK215.out)
           replace BK217 := sd_ (blk_drew BK217.out)
           replace HB := sd_ (below_drew1 HB.out)
           refine start_ (n := 16) (S := fun w' => w'.cell? ⟨gb217, 0, none⟩ = some (.int .i64 (wrap64 (a0_0 * a1_0))) ∧ w'.cell? ⟨gb217, 1, none⟩ = some (u218001) ∧ w'.cell? ⟨gb217, 2, none⟩ = some (u218002) ∧ w'.cell? ⟨gb217, 3, none⟩ = some (u218003) ∧ w'.cell? ⟨gb213, 0, none⟩ = some (.int .i64 a0_0) ∧ w'.cell? ⟨gb213, 1, none⟩ = some (.slice A0_1 l0_1.length c0_1) ∧ w'.cell? ⟨gb213, 2, none⟩ = some (.slice A0_2 l0_2.length c0_2) ∧ w'.cell? ⟨gb213, 3, none⟩ = some (.slice A0_3 l0_3.length c0_3) ∧ w'.cell? ⟨gb214, 0, none⟩ = some (.int .i64 a1_0) ∧ w'.cell? ⟨gb214, 1, none⟩ = some (.slice A1_1 l1_1.length c1_1) ∧ w'.cell? ⟨gb214, 2, none⟩ = some (.slice A1_2 l1_2.length c1_2) ∧ w'.cell? ⟨gb214, 3, none⟩ = some (.slice A1_3 l1_3.length c1_3)) (ds := [15]) #[false, false, false, false, false, false, false, false, false, false, false, false, false, false, false, false] (by kernel_rfl) rfl rfl ⟨(blk_cell BK217.out 0).trans rfl, (blk_cell BK217.out 1).trans rfl, (blk_cell BK217.out 2).trans rfl, (blk_cell BK217.out 3).trans rfl, (blk_cell BK213.out 0).trans rfl, (blk_cell BK213.out 1).trans rfl, (blk_cell BK213.out 2).trans rfl, (blk_cell BK213.out 3).trans rfl, (blk_cell BK214.out 0).trans rfl, (blk_cell BK214.out 1).trans rfl, (blk_cell BK214.out 2).trans rfl, (blk_cell BK214.out 3).trans rfl⟩ (fun hHeld => ?_); refine with_tabW spec_ProductSystem.tab15 spec_ProductSystem.bits15 (fun HT_ HW_ => ?_)
           generalize wr.drew = w72 at HO_218001 HO_218002 HO_218003 BK213 BK214 BK215 BK217 HB hHeld ⊢
           refine pure_ (i := 0) (N := some 50) (v := ?_) (a' := ?_) #[true, false, false, false, false, false, false, false, false, false, false, false, false, false, false, false] rfl rfl (any_of HT_.out (by kernel_rfl)) (fun _ _ _ h => h) (Or.inl ⟨by rfl, ?_⟩) ?_ ?_
           rotate_left
           ·intro w'
            go_simp
            with_reducible rfl
           rotate_left
           ·simp only [Act.put, List.setIfInBounds_toArray, List.set_cons_zero, List.set_cons_succ, i64_w, i32_w]
            rfl
           refine pure_ (i := 2) (N := some 52) (v := ?_) (a' := ?_) #[true, false, true, false, false, false, false, false, false, false, false, false, false, false, false, false] rfl rfl (any_of HT_.out (by kernel_rfl)) (fun _ _ _ h => h) (Or.inl ⟨by rfl, ?_⟩) ?_ ?_
           rotate_left
           ·intro w'
            go_simp
            with_reducible rfl
           rotate_left
           ·simp only [Act.put, List.setIfInBounds_toArray, List.set_cons_zero, List.set_cons_succ, i64_w, i32_w]
            rfl
           refine pure_ (i := 4) (N := some 54) (v := ?_) (a' := ?_) #[true, false, true, false, true, false, false, false, false, false, false, false, false, false, false, false] rfl rfl (any_of HT_.out (by kernel_rfl)) (fun _ _ _ h => h) (Or.inl ⟨by rfl, ?_⟩) ?_ ?_
           rotate_left
           ·intro w'
            go_simp
            with_reducible rfl
           rotate_left
           ·simp only [Act.put, List.setIfInBounds_toArray, List.set_cons_zero, List.set_cons_succ, i64_w, i32_w]
            rfl
           refine pure_ (i := 5) (N := some 55) (v := ?_) (a' := ?_) #[true, false, true, false, true, true, false, false, false, false, false, false, false, false, false, false] rfl rfl (any_of HT_.out (by kernel_rfl)) (fun _ _ _ h => h) (Or.inl ⟨by rfl, ?_⟩) ?_ ?_
           rotate_left
           ·intro w'
            go_simp
            with_reducible rfl
           rotate_left
           ·simp only [Act.put, List.setIfInBounds_toArray, List.set_cons_zero, List.set_cons_succ, i64_w, i32_w]
            rfl
           refine pure_ (i := 8) (N := some 58) (v := ?_) (a' := ?_) #[true, false, true, false, true, true, false, false, true, false, false, false, false, false, false, false] rfl rfl (any_of HT_.out (by kernel_rfl)) (fun _ _ _ h => h) (Or.inl ⟨by rfl, ?_⟩) ?_ ?_
           rotate_left
           ·intro w'
            go_simp
            with_reducible rfl
           rotate_left
           ·simp only [Act.put, List.setIfInBounds_toArray, List.set_cons_zero, List.set_cons_succ, i64_w, i32_w]
            rfl
           refine pure_ (i := 9) (N := some 59) (v := ?_) (a' := ?_) #[true, false, true, false, true, true, false, false, true, true, false, false, false, false, false, false] rfl rfl (any_of HT_.out (by kernel_rfl)) (fun _ _ _ h => h) (Or.inl ⟨by rfl, ?_⟩) ?_ ?_
           rotate_left
           ·intro w'
            go_simp
            with_reducible rfl
           rotate_left
           ·simp only [Act.put, List.setIfInBounds_toArray, List.set_cons_zero, List.set_cons_succ, i64_w, i32_w]
            rfl
           refine take_ (i := 1) (N := some 51) (v := ?_) (a' := ?_) #[true, true, true, false, true, true, false, false, true, true, false, false, false, false, false, false] rfl rfl (take_ofW HT_.out HW_.out (by kernel_rfl)) (fun _ _ _ h => h) (Or.inl ⟨by rfl, ?_⟩) hHeld ?_ ?_
           rotate_left
           ·rintro w' ⟨s0, s1, s2, s3, s4, s5, s6, s7, s8, s9, s10, s11⟩
            go_simp
            with_reducible rfl
           rotate_left
           ·simp only [Act.put, List.setIfInBounds_toArray, List.set_cons_zero, List.set_cons_succ, i64_w, i32_w]
            rfl
           refine take_ (i := 3) (N := some 53) (v := ?_) (a' := ?_) #[true, true, true, true, true, true, false, false, true, true, false, false, false, false, false, false] rfl rfl (take_ofW HT_.out HW_.out (by kernel_rfl)) (fun _ _ _ h => h) (Or.inl ⟨by rfl, ?_⟩) hHeld ?_ ?_
           rotate_left
           ·rintro w' ⟨s0, s1, s2, s3, s4, s5, s6, s7, s8, s9, s10, s11⟩
            go_simp
            with_reducible rfl
           rotate_left
           ·simp only [Act.put, List.setIfInBounds_toArray, List.set_cons_zero, List.set_cons_succ, i64_w, i32_w]
            rfl
           refine take_ (i := 7) (N := some 57) (v := ?_) (a' := ?_) #[true, true, true, true, true, true, false, true, true, true, false, false, false, false, false, false] rfl rfl (take_ofW HT_.out HW_.out (by kernel_rfl)) (fun _ _ _ h => h) (Or.inl ⟨by rfl, ?_⟩) hHeld ?_ ?_
           rotate_left
           ·rintro w' ⟨s0, s1, s2, s3, s4, s5, s6, s7, s8, s9, s10, s11⟩
            go_simp
            with_reducible rfl
           rotate_left
           ·simp only [Act.put, List.setIfInBounds_toArray, List.set_cons_zero, List.set_cons_succ, i64_w, i32_w]
            rfl
           refine one_ (i := 6) (N := some 56) #[true, true, true, true, true, true, true, true, true, true, false, false, false, false, false, false] rfl rfl (one_of HT_.out (by kernel_rfl)) (by decide) (fun K hK => ?_)
           refine goes_ Try.func88 (by kernel_rfl) rfl #[.agg #[.int .i64 a0_0, .slice A0_1 l0_1.length c0_1, .slice A0_2 l0_2.length c0_2, .slice A0_3 l0_3.length c0_3], .int .i64 t218, .int .i64 t220] (by rfl) rfl rfl la_ ?_
           with_reducible refine (spec_l1Add.calls a0_0 _ _ l0_1 _ _ l0_2 _ _ l0_3 t218 t220 t222 _ ?side1 ?side2 ?side3 ?side4 ?side5 ?side6 A31.out).mono ?_
           (case side1 => exact kc_ HR0_1.out HB.out)
           (case side2 => exact HC0_1.out)
           (case side3 => exact kc_ HR0_2.out HB.out)
           (case side4 => exact HC0_2.out)
           (case side5 => exact kc_ HR0_3.out HB.out)
           (case side6 => exact HC0_3.out)
           rintro e w73 ⟨rfl, hb⟩
           refine ⟨_, rfl, ?_⟩
           replace HO_218001 := sd_ (Kd.R_below (ro_ HO_218001.out) hb)
           replace HO_218002 := sd_ (Kd.R_below (ro_ HO_218002.out) hb)
           replace HO_218003 := sd_ (Kd.R_below (ro_ HO_218003.out) hb)
           replace BK213 := sd_ (bb_ BK213.out hb)
           replace BK214 := sd_ (bb_ BK214.out hb)
           replace BK215 := sd_ (bb_ BK215.out hb)
           replace BK217 := sd_ (bb_ BK217.out hb)
           replace HB := sd_ (below_step (bw4_ HB.out GE213.out GE214.out GE215.out GE217.out) hb)
           (try clear hb)
           (try clear hb2)
           (try clear hk)
           (try clear hi)
           refine hK.out _ _ ⟨(blk_cell BK217.out 0).trans rfl, (blk_cell BK217.out 1).trans rfl, (blk_cell BK217.out 2).trans rfl, (blk_cell BK217.out 3).trans rfl, (blk_cell BK213.out 0).trans rfl, (blk_cell BK213.out 1).trans rfl, (blk_cell BK213.out 2).trans rfl, (blk_cell BK213.out 3).trans rfl, (blk_cell BK214.out 0).trans rfl, (blk_cell BK214.out 1).trans rfl, (blk_cell BK214.out 2).trans rfl, (blk_cell BK214.out 3).trans rfl⟩ (fun hHeld => ?_)
           clear hK K
           refine norm_ (a' := ?_) ?_ ?_
           rotate_left
           ·show Act.put _ (some 56) _ = _
            simp only [Act.put, List.setIfInBounds_toArray, List.set_cons_zero, List.set_cons_succ, i64_w, i32_w]
            rfl
           refine one_ (i := 10) (N := some 60) #[true, true, true, true, true, true, true, true, true, true, true, false, false, false, false, false] rfl rfl (one_of HT_.out (by kernel_rfl)) (by decide) (fun K hK => ?_)
           refine goes_ Try.func88 (by kernel_rfl) rfl #[.agg #[.int .i64 a1_0, .slice A1_1 l1_1.length c1_1, .slice A1_2 l1_2.length c1_2, .slice A1_3 l1_3.length c1_3], .int .i64 t219, .int .i64 t221] (by rfl) rfl rfl la_ ?_
           with_reducible refine (spec_l1Add.calls a1_0 _ _ l1_1 _ _ l1_2 _ _ l1_3 t219 t221 t223 _ ?side1 ?side2 ?side3 ?side4 ?side5 ?side6 A32.out).mono ?_
           (case side1 => exact kc_ HR1_1.out HB.out)
           (case side2 => exact HC1_1.out)
           (case side3 => exact kc_ HR1_2.out HB.out)
           (case side4 => exact HC1_2.out)
           (case side5 => exact kc_ HR1_3.out HB.out)
           (case side6 => exact HC1_3.out)
           rintro e w74 ⟨rfl, hb⟩
           refine ⟨_, rfl, ?_⟩
           replace HO_218001 := sd_ (Kd.R_below (ro_ HO_218001.out) hb)
           replace HO_218002 := sd_ (Kd.R_below (ro_ HO_218002.out) hb)
           replace HO_218003 := sd_ (Kd.R_below (ro_ HO_218003.out) hb)
           replace BK213 := sd_ (bb_ BK213.out hb)
           replace BK214 := sd_ (bb_ BK214.out hb)
           replace BK215 := sd_ (bb_ BK215.out hb)
           replace BK217 := sd_ (bb_ BK217.out hb)
           replace HB := sd_ (below_step (bw4_ HB.out GE213.out GE214.out GE215.out GE217.out) hb)
           (try clear hb)
           (try clear hb2)
           (try clear hk)
           (try clear hi)
           refine hK.out _ _ ⟨(blk_cell BK217.out 0).trans rfl, (blk_cell BK217.out 1).trans rfl, (blk_cell BK217.out 2).trans rfl, (blk_cell BK217.out 3).trans rfl, (blk_cell BK213.out 0).trans rfl, (blk_cell BK213.out 1).trans rfl, (blk_cell BK213.out 2).trans rfl, (blk_cell BK213.out 3).trans rfl, (blk_cell BK214.out 0).trans rfl, (blk_cell BK214.out 1).trans rfl, (blk_cell BK214.out 2).trans rfl, (blk_cell BK214.out 3).trans rfl⟩ (fun hHeld => ?_)
           clear hK K
           refine norm_ (a' := ?_) ?_ ?_
           rotate_left
           ·show Act.put _ (some 60) _ = _
            simp only [Act.put, List.setIfInBounds_toArray, List.set_cons_zero, List.set_cons_succ, i64_w, i32_w]
            rfl
           refine one_ (i := 11) (N := some 61) #[true, true, true, true, true, true, true, true, true, true, true, true, false, false, false, false] rfl rfl (one_of HT_.out (by kernel_rfl)) (by decide) (fun K hK => ?_)
           refine goes_ Try.func81 (by kernel_rfl) rfl #[.int .i64 a1_0, .int .i64 t222, .int .i64 t223] (by rfl) rfl rfl la_ ?_
           with_reducible refine (spec_l1Pair.calls a1_0 t222 t223 t224 _ A33.out).mono ?_
           rintro e w' ⟨rfl, ⟨nd, rfl⟩⟩
           refine ⟨_, rfl, ?_⟩
           refine hK.out _ _ ⟨(blk_cell BK217.out 0).trans rfl, (blk_cell BK217.out 1).trans rfl, (blk_cell BK217.out 2).trans rfl, (blk_cell BK217.out 3).trans rfl, (blk_cell BK213.out 0).trans rfl, (blk_cell BK213.out 1).trans rfl, (blk_cell BK213.out 2).trans rfl, (blk_cell BK213.out 3).trans rfl, (blk_cell BK214.out 0).trans rfl, (blk_cell BK214.out 1).trans rfl, (blk_cell BK214.out 2).trans rfl, (blk_cell BK214.out 3).trans rfl⟩ (fun hHeld => ?_)
           clear hK K
           refine norm_ (a' := ?_) ?_ ?_
           rotate_left
           ·show Act.put _ (some 61) _ = _
            simp only [Act.put, List.setIfInBounds_toArray, List.set_cons_zero, List.set_cons_succ, i64_w, i32_w]
            rfl
           refine one_ (i := 12) (N := some 62) #[true, true, true, true, true, true, true, true, true, true, true, true, true, false, false, false] rfl rfl (one_of HT_.out (by kernel_rfl)) (by decide) (fun K hK => ?_)
           refine value_ (w1 := ?_) (v := ?_) (by rfl) rfl ?_ ?_
           rotate_left 2
           ·go_simp
            constructor
            ·rfl
            rfl
           refine hK.out _ _ ⟨(blk_cell (blk_alloc BK217.out _) 0).trans rfl, (blk_cell (blk_alloc BK217.out _) 1).trans rfl, (blk_cell (blk_alloc BK217.out _) 2).trans rfl, (blk_cell (blk_alloc BK217.out _) 3).trans rfl, (blk_cell (blk_alloc BK213.out _) 0).trans rfl, (blk_cell (blk_alloc BK213.out _) 1).trans rfl, (blk_cell (blk_alloc BK213.out _) 2).trans rfl, (blk_cell (blk_alloc BK213.out _) 3).trans rfl, (blk_cell (blk_alloc BK214.out _) 0).trans rfl, (blk_cell (blk_alloc BK214.out _) 1).trans rfl, (blk_cell (blk_alloc BK214.out _) 2).trans rfl, (blk_cell (blk_alloc BK214.out _) 3).trans rfl⟩ (fun hHeld => ?_)
           clear hK K
           refine norm_ (a' := ?_) ?_ ?_
           rotate_left
           ·show Act.put _ (some 62) _ = _
            simp only [Act.put, List.setIfInBounds_toArray, List.set_cons_zero, List.set_cons_succ, i64_w, i32_w]
            rfl
           refine one_ (i := 13) (N := some 63) #[true, true, true, true, true, true, true, true, true, true, true, true, true, true, false, false] rfl rfl (one_of HT_.out (by kernel_rfl)) (by decide) (fun K hK => ?_)
           refine Kd.R_append_step (Kd.int .i64) (w0 := w) w.heap.size (by rfl) (.tmp 51) (.tmp 62) 24 3 (.int .i64 0) 8 rfl Try.underlying24 info3 rfl (by decide) (by omega) u218001 x218001_2 t224 [.int .i64 t224] (fun k_ => some k_ ≠ (u218002 : Value).ownBlock) (fun _ => False) rfl rfl ?aP (fun _ hk => hk.elim) ?aF ?aO ?aB ?aS ?aL ?_
           (case aP => exact rfl)
           (case aB => exact (bw4_ HB.out GE213.out GE214.out GE215.out GE217.out))
           (case aF => exact (fun k_ hk => Kd.fresh' (Kd.R_lt (ro_ HO_218002.out)) k_ hk))
           (case aO => exact (ro_ HO_218001.out))
           (case aS => exact (below_size (bw4_ HB.out GE213.out GE214.out GE215.out GE217.out)))
           (case aL => have := LMc34.out; omega)
           intro v226 w75 ho hb hg hat
           rw [← Ny225.out] at ho
           have n0_ := sd_ (Kd.R_after (ok := (fun _ => True)) (by (with_reducible repeat (first | apply Kd.R_alloc | apply Kd.R_drewN | apply Kd.R_drew)); exact Kd.R_mono HO_218002.out (fun _ hk => ⟨trivial, hk⟩)) hg hat)
           have n1_ := sd_ (Kd.R_over' (ro_ HO_218003.out) (Kd.R_typed (ro_ HO_218001.out)) (by decide) hg)
           have n2_ := sd_ (blk_grown (g := gb213) (o := .cells #[.int .i64 a0_0, .slice A0_1 l0_1.length c0_1, .slice A0_2 l0_2.length c0_2, .slice A0_3 l0_3.length c0_3] 27 (0, 0)) (bz_ BK213.out) hg (Kd.R_ne HO_218001.out BK213.out (by decide)))
           have n3_ := sd_ (blk_grown (g := gb214) (o := .cells #[.int .i64 a1_0, .slice A1_1 l1_1.length c1_1, .slice A1_2 l1_2.length c1_2, .slice A1_3 l1_3.length c1_3] 27 (0, 0)) (bz_ BK214.out) hg (Kd.R_ne HO_218001.out BK214.out (by decide)))
           have n4_ := sd_ (blk_grown (g := gb215) (o := .cells #[.int .i64 0, .slice none 0 0, .slice none 0 0, .slice none 0 0] 27 (0, 0)) (bz_ BK215.out) hg (Kd.R_ne HO_218001.out BK215.out (by decide)))
           have n5_ := sd_ (blk_grown (g := gb217) (o := .cells #[.int .i64 (wrap64 (a0_0 * a1_0)), u218001, u218002, u218003] 27 (0, 0)) (bz_ BK217.out) hg (Kd.R_ne HO_218001.out BK217.out (by decide)))
           have n6_ := sd_ (hb)
           have n7_ := sd_ (ho)
           clear HO_218002
           clear HO_218003
           clear BK213
           clear BK214
           clear BK215
           clear BK217
           clear HB
           clear HO_218001
           have HO_218002 := n0_
           have HO_218003 := n1_
           have BK213 := n2_
           have BK214 := n3_
           have BK215 := n4_
           have BK217 := n5_
           have HB := n6_
           have HO227 := n7_
           clear n0_ n1_ n2_ n3_ n4_ n5_ n6_ n7_
           clear ho hb hg hat
           obtain ⟨Ao76, co76, eo76⟩ := Kd.R_slice HO227.out
           (first | subst eo76 | (injection eo76 with f1_ f2_ f3_; have f4_ := f1_.symm; have f5_ := f3_.symm; clear f1_ f2_ f3_; subst f4_; subst f5_))
           refine hK.out _ _ ⟨(blk_cell BK217.out 0).trans rfl, (blk_cell BK217.out 1).trans rfl, (blk_cell BK217.out 2).trans rfl, (blk_cell BK217.out 3).trans rfl, (blk_cell BK213.out 0).trans rfl, (blk_cell BK213.out 1).trans rfl, (blk_cell BK213.out 2).trans rfl, (blk_cell BK213.out 3).trans rfl, (blk_cell BK214.out 0).trans rfl, (blk_cell BK214.out 1).trans rfl, (blk_cell BK214.out 2).trans rfl, (blk_cell BK214.out 3).trans rfl⟩ (fun hHeld => ?_)
           clear hK K
           refine norm_ (a' := ?_) ?_ ?_
           rotate_left
           ·show Act.put _ (some 63) _ = _
            simp only [Act.put, List.setIfInBounds_toArray, List.set_cons_zero, List.set_cons_succ, i64_w, i32_w]
            rfl
           refine pure_ (i := 14) (N := some 64) (v := ?_) (a' := ?_) #[true, true, true, true, true, true, true, true, true, true, true, true, true, true, true, false] rfl rfl (any_of HT_.out (by kernel_rfl)) (fun _ _ _ h => h) (Or.inl ⟨by rfl, ?_⟩) ?_ ?_
           rotate_left
           ·intro w'
            go_simp
            with_reducible rfl
           rotate_left
           ·simp only [Act.put, List.setIfInBounds_toArray, List.set_cons_zero, List.set_cons_succ, i64_w, i32_w]
            rfl
           refine last_ (i := 15) (N := none) #[true, true, true, true, true, true, true, true, true, true, true, true, true, true, true, true] rfl rfl (one_of HT_.out (by kernel_rfl)) (by decide) (fun K hK => ?_)
           have hs77 : w75.cell? ⟨gb217, 1, none⟩ = some (u218001) := (blk_cell BK217.out 1).trans rfl
           have hfs77 := blk_frozen BK217.out 1
           have hns77_0 := NB213_217.out
           have hns77_1 := NB214_217.out
           have hns77_2 := NB215_217.out
           have hms77_0 := NB217_213.out
           have hms77_1 := NB217_214.out
           have hms77_2 := NB217_215.out
           refine skip_ (w1 := ?_) (by rfl) rfl ?_ ?_
           rotate_left
           ·go_simp
            rfl
           refine hK.out _ _ ?_
           clear hK K
           refine done_ (done_of HT_.out (by kernel_rfl)) ?_
           try go_wp2
           have n0_ : Aside0 (Kd.R (Kd.int .i64) 3 (w75.setCell ⟨gb217, 1, none⟩ (.slice Ao76 y225.length co76)) w.heap.size (fun k_ => some k_ ≠ (.slice Ao76 y225.length co76 : Value).ownBlock) u218002 x218002_2) := ⟨by (with_reducible repeat (first | apply Kd.R_alloc | apply Kd.R_drewN | apply Kd.R_drew)); exact Kd.R_mono (Kd.R_far (p := ⟨gb217, 1, none⟩) (Kd.R_types HO_218002.out BK217.out (by decide)) (fun _ hk => hk.2) (.slice Ao76 y225.length co76)) (fun _ hk => hk.1.2)⟩
           have n1_ : Aside0 (Kd.R Kd.bool 4 (w75.setCell ⟨gb217, 1, none⟩ (.slice Ao76 y225.length co76)) w.heap.size (fun _ => True) u218003 x218003_2) := ⟨by (with_reducible repeat (first | apply Kd.R_alloc | apply Kd.R_drewN | apply Kd.R_drew)); exact Kd.R_mono (Kd.R_far (p := ⟨gb217, 1, none⟩) (Kd.R_types HO_218003.out BK217.out (by decide)) (fun _ hk => hk.2) (.slice Ao76 y225.length co76)) (fun _ hk => trivial)⟩
           have n2_ : Aside0 (Kd.R (Kd.int .i64) 3 (w75.setCell ⟨gb217, 1, none⟩ (.slice Ao76 y225.length co76)) w.heap.size (fun k_ => some k_ ≠ (u218002 : Value).ownBlock) (.slice Ao76 y225.length co76) y225) := ⟨by (with_reducible repeat (first | apply Kd.R_alloc | apply Kd.R_drewN | apply Kd.R_drew)); exact rf_ HO227.out BK217.out⟩
           have n3_ : Aside0 ((w75.setCell ⟨gb217, 1, none⟩ (.slice Ao76 y225.length co76)).heap[gb213]? = some (.cells #[.int .i64 a0_0, .slice A0_1 l0_1.length c0_1, .slice A0_2 l0_2.length c0_2, .slice A0_3 l0_3.length c0_3] 27 (0, 0))) := ⟨by exact zf1_ BK213.out NB213_217.out⟩
           have n4_ : Aside0 ((w75.setCell ⟨gb217, 1, none⟩ (.slice Ao76 y225.length co76)).heap[gb214]? = some (.cells #[.int .i64 a1_0, .slice A1_1 l1_1.length c1_1, .slice A1_2 l1_2.length c1_2, .slice A1_3 l1_3.length c1_3] 27 (0, 0))) := ⟨by exact zf1_ BK214.out NB214_217.out⟩
           have n5_ : Aside0 ((w75.setCell ⟨gb217, 1, none⟩ (.slice Ao76 y225.length co76)).heap[gb215]? = some (.cells #[.int .i64 0, .slice none 0 0, .slice none 0 0, .slice none 0 0] 27 (0, 0))) := ⟨by exact zf1_ BK215.out NB215_217.out⟩
           have n6_ : Aside0 ((w75.setCell ⟨gb217, 1, none⟩ (.slice Ao76 y225.length co76)).heap[gb217]? = some (.cells #[.int .i64 (wrap64 (a0_0 * a1_0)), .slice Ao76 y225.length co76, u218002, u218003] 27 (0, 0))) := ⟨by (with_reducible repeat (first | refine blk_drewN ?_ _ | refine blk_drew ?_ | refine blk_alloc ?_ _)); refine blk_put (cs := #[.int .i64 (wrap64 (a0_0 * a1_0)), u218001, u218002, u218003]) ?_ 1 _ rfl; exact bz_ BK217.out⟩
           have n7_ : Aside0 (Below w.heap.size w (w75.setCell ⟨gb217, 1, none⟩ (.slice Ao76 y225.length co76))) := ⟨bw4_ HB.out GE213.out GE214.out GE215.out GE217.out⟩
           (try clear HO_218002)
           (try clear HO_218003)
           (try clear HO227)
           (try clear BK213)
           (try clear BK214)
           (try clear BK215)
           (try clear BK217)
           (try clear HB)
           generalize (w75.setCell ⟨gb217, 1, none⟩ (.slice Ao76 y225.length co76)) = w78 at n0_ n1_ n2_ n3_ n4_ n5_ n6_ n7_ ⊢
           have HO_218002 := n0_
           have HO_218003 := n1_
           have HO227 := n2_
           have BK213 := n3_
           have BK214 := n4_
           have BK215 := n5_
           have BK217 := n6_
           have HB := n7_
           clear n0_ n1_ n2_ n3_ n4_ n5_ n6_ n7_
           replace HO_218002 := sd_ (Kd.R_drew HO_218002.out)
           replace HO_218003 := sd_ (Kd.R_drew HO_218003.out)
           replace HO227 := sd_ (Kd.R_drew HO227.out)
           replace BK213 := sd_ (blk_drew BK213.out)
           replace BK214 := sd_ (blk_drew BK214.out)
           replace BK215 := sd_ (blk_drew BK215.out)
           replace BK217 := sd_ (blk_drew BK217.out)
           replace HB := sd_ (below_drew1 HB.out)
           refine start_ (n := 16) (S := fun w' => w'.cell? ⟨gb217, 0, none⟩ = some (.int .i64 (wrap64 (a0_0 * a1_0))) ∧ w'.cell? ⟨gb217, 1, none⟩ = some (.slice Ao76 y225.length co76) ∧ w'.cell? ⟨gb217, 2, none⟩ = some (u218002) ∧ w'.cell? ⟨gb217, 3, none⟩ = some (u218003) ∧ w'.cell? ⟨gb213, 0, none⟩ = some (.int .i64 a0_0) ∧ w'.cell? ⟨gb213, 1, none⟩ = some (.slice A0_1 l0_1.length c0_1) ∧ w'.cell? ⟨gb213, 2, none⟩ = some (.slice A0_2 l0_2.length c0_2) ∧ w'.cell? ⟨gb213, 3, none⟩ = some (.slice A0_3 l0_3.length c0_3) ∧ w'.cell? ⟨gb214, 0, none⟩ = some (.int .i64 a1_0) ∧ w'.cell? ⟨gb214, 1, none⟩ = some (.slice A1_1 l1_1.length c1_1) ∧ w'.cell? ⟨gb214, 2, none⟩ = some (.slice A1_2 l1_2.length c1_2) ∧ w'.cell? ⟨gb214, 3, none⟩ = some (.slice A1_3 l1_3.length c1_3)) (ds := [15]) #[false, false, false, false, false, false, false, false, false, false, false, false, false, false, false, false] (by kernel_rfl) rfl rfl ⟨(blk_cell BK217.out 0).trans rfl, (blk_cell BK217.out 1).trans rfl, (blk_cell BK217.out 2).trans rfl, (blk_cell BK217.out 3).trans rfl, (blk_cell BK213.out 0).trans rfl, (blk_cell BK213.out 1).trans rfl, (blk_cell BK213.out 2).trans rfl, (blk_cell BK213.out 3).trans rfl, (blk_cell BK214.out 0).trans rfl, (blk_cell BK214.out 1).trans rfl, (blk_cell BK214.out 2).trans rfl, (blk_cell BK214.out 3).trans rfl⟩ (fun hHeld => ?_); refine with_tabW spec_ProductSystem.tab16 spec_ProductSystem.bits16 (fun HT_ HW_ => ?_)
           generalize w78.drew = w79 at HO_218002 HO_218003 HO227 BK213 BK214 BK215 BK217 HB hHeld ⊢
           refine pure_ (i := 0) (N := some 65) (v := ?_) (a' := ?_) #[true, false, false, false, false, false, false, false, false, false, false, false, false, false, false, false] rfl rfl (any_of HT_.out (by kernel_rfl)) (fun _ _ _ h => h) (Or.inl ⟨by rfl, ?_⟩) ?_ ?_
           rotate_left
           ·intro w'
            go_simp
            with_reducible rfl
           rotate_left
           ·simp only [Act.put, List.setIfInBounds_toArray, List.set_cons_zero, List.set_cons_succ, i64_w, i32_w]
            rfl
           refine pure_ (i := 2) (N := some 67) (v := ?_) (a' := ?_) #[true, false, true, false, false, false, false, false, false, false, false, false, false, false, false, false] rfl rfl (any_of HT_.out (by kernel_rfl)) (fun _ _ _ h => h) (Or.inl ⟨by rfl, ?_⟩) ?_ ?_
           rotate_left
           ·intro w'
            go_simp
            with_reducible rfl
           rotate_left
           ·simp only [Act.put, List.setIfInBounds_toArray, List.set_cons_zero, List.set_cons_succ, i64_w, i32_w]
            rfl
           refine pure_ (i := 4) (N := some 69) (v := ?_) (a' := ?_) #[true, false, true, false, true, false, false, false, false, false, false, false, false, false, false, false] rfl rfl (any_of HT_.out (by kernel_rfl)) (fun _ _ _ h => h) (Or.inl ⟨by rfl, ?_⟩) ?_ ?_
           rotate_left
           ·intro w'
            go_simp
            with_reducible rfl
           rotate_left
           ·simp only [Act.put, List.setIfInBounds_toArray, List.set_cons_zero, List.set_cons_succ, i64_w, i32_w]
            rfl
           refine pure_ (i := 5) (N := some 70) (v := ?_) (a' := ?_) #[true, false, true, false, true, true, false, false, false, false, false, false, false, false, false, false] rfl rfl (any_of HT_.out (by kernel_rfl)) (fun _ _ _ h => h) (Or.inl ⟨by rfl, ?_⟩) ?_ ?_
           rotate_left
           ·intro w'
            go_simp
            with_reducible rfl
           rotate_left
           ·simp only [Act.put, List.setIfInBounds_toArray, List.set_cons_zero, List.set_cons_succ, i64_w, i32_w]
            rfl
           refine pure_ (i := 8) (N := some 73) (v := ?_) (a' := ?_) #[true, false, true, false, true, true, false, false, true, false, false, false, false, false, false, false] rfl rfl (any_of HT_.out (by kernel_rfl)) (fun _ _ _ h => h) (Or.inl ⟨by rfl, ?_⟩) ?_ ?_
           rotate_left
           ·intro w'
            go_simp
            with_reducible rfl
           rotate_left
           ·simp only [Act.put, List.setIfInBounds_toArray, List.set_cons_zero, List.set_cons_succ, i64_w, i32_w]
            rfl
           refine pure_ (i := 9) (N := some 74) (v := ?_) (a' := ?_) #[true, false, true, false, true, true, false, false, true, true, false, false, false, false, false, false] rfl rfl (any_of HT_.out (by kernel_rfl)) (fun _ _ _ h => h) (Or.inl ⟨by rfl, ?_⟩) ?_ ?_
           rotate_left
           ·intro w'
            go_simp
            with_reducible rfl
           rotate_left
           ·simp only [Act.put, List.setIfInBounds_toArray, List.set_cons_zero, List.set_cons_succ, i64_w, i32_w]
            rfl
           refine take_ (i := 1) (N := some 66) (v := ?_) (a' := ?_) #[true, true, true, false, true, true, false, false, true, true, false, false, false, false, false, false] rfl rfl (take_ofW HT_.out HW_.out (by kernel_rfl)) (fun _ _ _ h => h) (Or.inl ⟨by rfl, ?_⟩) hHeld ?_ ?_
           rotate_left
           ·rintro w' ⟨s0, s1, s2, s3, s4, s5, s6, s7, s8, s9, s10, s11⟩
            go_simp
            with_reducible rfl
           rotate_left
           ·simp only [Act.put, List.setIfInBounds_toArray, List.set_cons_zero, List.set_cons_succ, i64_w, i32_w]
            rfl
           refine take_ (i := 3) (N := some 68) (v := ?_) (a' := ?_) #[true, true, true, true, true, true, false, false, true, true, false, false, false, false, false, false] rfl rfl (take_ofW HT_.out HW_.out (by kernel_rfl)) (fun _ _ _ h => h) (Or.inl ⟨by rfl, ?_⟩) hHeld ?_ ?_
           rotate_left
           ·rintro w' ⟨s0, s1, s2, s3, s4, s5, s6, s7, s8, s9, s10, s11⟩
            go_simp
            with_reducible rfl
           rotate_left
           ·simp only [Act.put, List.setIfInBounds_toArray, List.set_cons_zero, List.set_cons_succ, i64_w, i32_w]
            rfl
           refine take_ (i := 7) (N := some 72) (v := ?_) (a' := ?_) #[true, true, true, true, true, true, false, true, true, true, false, false, false, false, false, false] rfl rfl (take_ofW HT_.out HW_.out (by kernel_rfl)) (fun _ _ _ h => h) (Or.inl ⟨by rfl, ?_⟩) hHeld ?_ ?_
           rotate_left
           ·rintro w' ⟨s0, s1, s2, s3, s4, s5, s6, s7, s8, s9, s10, s11⟩
            go_simp
            with_reducible rfl
           rotate_left
           ·simp only [Act.put, List.setIfInBounds_toArray, List.set_cons_zero, List.set_cons_succ, i64_w, i32_w]
            rfl
           refine one_ (i := 6) (N := some 71) #[true, true, true, true, true, true, true, true, true, true, false, false, false, false, false, false] rfl rfl (one_of HT_.out (by kernel_rfl)) (by decide) (fun K hK => ?_)
           refine goes_ Try.func89 (by kernel_rfl) rfl #[.agg #[.int .i64 a0_0, .slice A0_1 l0_1.length c0_1, .slice A0_2 l0_2.length c0_2, .slice A0_3 l0_3.length c0_3], .int .i64 t218, .int .i64 t220] (by rfl) rfl rfl la_ ?_
           with_reducible refine (spec_l1Mul.calls a0_0 _ _ l0_1 _ _ l0_2 _ _ l0_3 t218 t220 t228 _ ?side1 ?side2 ?side3 ?side4 ?side5 ?side6 A35.out).mono ?_
           (case side1 => exact kc_ HR0_1.out HB.out)
           (case side2 => exact HC0_1.out)
           (case side3 => exact kc_ HR0_2.out HB.out)
           (case side4 => exact HC0_2.out)
           (case side5 => exact kc_ HR0_3.out HB.out)
           (case side6 => exact HC0_3.out)
           rintro e w80 ⟨rfl, hb⟩
           refine ⟨_, rfl, ?_⟩
           replace HO_218002 := sd_ (Kd.R_below (ro_ HO_218002.out) hb)
           replace HO_218003 := sd_ (Kd.R_below (ro_ HO_218003.out) hb)
           replace HO227 := sd_ (Kd.R_below (ro_ HO227.out) hb)
           replace BK213 := sd_ (bb_ BK213.out hb)
           replace BK214 := sd_ (bb_ BK214.out hb)
           replace BK215 := sd_ (bb_ BK215.out hb)
           replace BK217 := sd_ (bb_ BK217.out hb)
           replace HB := sd_ (below_step (bw4_ HB.out GE213.out GE214.out GE215.out GE217.out) hb)
           (try clear hb)
           (try clear hb2)
           (try clear hk)
           (try clear hi)
           refine hK.out _ _ ⟨(blk_cell BK217.out 0).trans rfl, (blk_cell BK217.out 1).trans rfl, (blk_cell BK217.out 2).trans rfl, (blk_cell BK217.out 3).trans rfl, (blk_cell BK213.out 0).trans rfl, (blk_cell BK213.out 1).trans rfl, (blk_cell BK213.out 2).trans rfl, (blk_cell BK213.out 3).trans rfl, (blk_cell BK214.out 0).trans rfl, (blk_cell BK214.out 1).trans rfl, (blk_cell BK214.out 2).trans rfl, (blk_cell BK214.out 3).trans rfl⟩ (fun hHeld => ?_)
           clear hK K
           refine norm_ (a' := ?_) ?_ ?_
           rotate_left
           ·show Act.put _ (some 71) _ = _
            simp only [Act.put, List.setIfInBounds_toArray, List.set_cons_zero, List.set_cons_succ, i64_w, i32_w]
            rfl
           refine one_ (i := 10) (N := some 75) #[true, true, true, true, true, true, true, true, true, true, true, false, false, false, false, false] rfl rfl (one_of HT_.out (by kernel_rfl)) (by decide) (fun K hK => ?_)
           refine goes_ Try.func89 (by kernel_rfl) rfl #[.agg #[.int .i64 a1_0, .slice A1_1 l1_1.length c1_1, .slice A1_2 l1_2.length c1_2, .slice A1_3 l1_3.length c1_3], .int .i64 t219, .int .i64 t221] (by rfl) rfl rfl la_ ?_
           with_reducible refine (spec_l1Mul.calls a1_0 _ _ l1_1 _ _ l1_2 _ _ l1_3 t219 t221 t229 _ ?side1 ?side2 ?side3 ?side4 ?side5 ?side6 A36.out).mono ?_
           (case side1 => exact kc_ HR1_1.out HB.out)
           (case side2 => exact HC1_1.out)
           (case side3 => exact kc_ HR1_2.out HB.out)
           (case side4 => exact HC1_2.out)
           (case side5 => exact kc_ HR1_3.out HB.out)
           (case side6 => exact HC1_3.out)
           rintro e w81 ⟨rfl, hb⟩
           refine ⟨_, rfl, ?_⟩
           replace HO_218002 := sd_ (Kd.R_below (ro_ HO_218002.out) hb)
           replace HO_218003 := sd_ (Kd.R_below (ro_ HO_218003.out) hb)
           replace HO227 := sd_ (Kd.R_below (ro_ HO227.out) hb)
           replace BK213 := sd_ (bb_ BK213.out hb)
           replace BK214 := sd_ (bb_ BK214.out hb)
           replace BK215 := sd_ (bb_ BK215.out hb)
           replace BK217 := sd_ (bb_ BK217.out hb)
           replace HB := sd_ (below_step (bw4_ HB.out GE213.out GE214.out GE215.out GE217.out) hb)
           (try clear hb)
           (try clear hb2)
           (try clear hk)
           (try clear hi)
           refine hK.out _ _ ⟨(blk_cell BK217.out 0).trans rfl, (blk_cell BK217.out 1).trans rfl, (blk_cell BK217.out 2).trans rfl, (blk_cell BK217.out 3).trans rfl, (blk_cell BK213.out 0).trans rfl, (blk_cell BK213.out 1).trans rfl, (blk_cell BK213.out 2).trans rfl, (blk_cell BK213.out 3).trans rfl, (blk_cell BK214.out 0).trans rfl, (blk_cell BK214.out 1).trans rfl, (blk_cell BK214.out 2).trans rfl, (blk_cell BK214.out 3).trans rfl⟩ (fun hHeld => ?_)
           clear hK K
           refine norm_ (a' := ?_) ?_ ?_
           rotate_left
           ·show Act.put _ (some 75) _ = _
            simp only [Act.put, List.setIfInBounds_toArray, List.set_cons_zero, List.set_cons_succ, i64_w, i32_w]
            rfl
           refine one_ (i := 11) (N := some 76) #[true, true, true, true, true, true, true, true, true, true, true, true, false, false, false, false] rfl rfl (one_of HT_.out (by kernel_rfl)) (by decide) (fun K hK => ?_)
           refine goes_ Try.func81 (by kernel_rfl) rfl #[.int .i64 a1_0, .int .i64 t228, .int .i64 t229] (by rfl) rfl rfl la_ ?_
           with_reducible refine (spec_l1Pair.calls a1_0 t228 t229 t230 _ A37.out).mono ?_
           rintro e w' ⟨rfl, ⟨nd, rfl⟩⟩
           refine ⟨_, rfl, ?_⟩
           refine hK.out _ _ ⟨(blk_cell BK217.out 0).trans rfl, (blk_cell BK217.out 1).trans rfl, (blk_cell BK217.out 2).trans rfl, (blk_cell BK217.out 3).trans rfl, (blk_cell BK213.out 0).trans rfl, (blk_cell BK213.out 1).trans rfl, (blk_cell BK213.out 2).trans rfl, (blk_cell BK213.out 3).trans rfl, (blk_cell BK214.out 0).trans rfl, (blk_cell BK214.out 1).trans rfl, (blk_cell BK214.out 2).trans rfl, (blk_cell BK214.out 3).trans rfl⟩ (fun hHeld => ?_)
           clear hK K
           refine norm_ (a' := ?_) ?_ ?_
           rotate_left
           ·show Act.put _ (some 76) _ = _
            simp only [Act.put, List.setIfInBounds_toArray, List.set_cons_zero, List.set_cons_succ, i64_w, i32_w]
            rfl
           refine one_ (i := 12) (N := some 77) #[true, true, true, true, true, true, true, true, true, true, true, true, true, false, false, false] rfl rfl (one_of HT_.out (by kernel_rfl)) (by decide) (fun K hK => ?_)
           refine value_ (w1 := ?_) (v := ?_) (by rfl) rfl ?_ ?_
           rotate_left 2
           ·go_simp
            constructor
            ·rfl
            rfl
           refine hK.out _ _ ⟨(blk_cell (blk_alloc BK217.out _) 0).trans rfl, (blk_cell (blk_alloc BK217.out _) 1).trans rfl, (blk_cell (blk_alloc BK217.out _) 2).trans rfl, (blk_cell (blk_alloc BK217.out _) 3).trans rfl, (blk_cell (blk_alloc BK213.out _) 0).trans rfl, (blk_cell (blk_alloc BK213.out _) 1).trans rfl, (blk_cell (blk_alloc BK213.out _) 2).trans rfl, (blk_cell (blk_alloc BK213.out _) 3).trans rfl, (blk_cell (blk_alloc BK214.out _) 0).trans rfl, (blk_cell (blk_alloc BK214.out _) 1).trans rfl, (blk_cell (blk_alloc BK214.out _) 2).trans rfl, (blk_cell (blk_alloc BK214.out _) 3).trans rfl⟩ (fun hHeld => ?_)
           clear hK K
           refine norm_ (a' := ?_) ?_ ?_
           rotate_left
           ·show Act.put _ (some 77) _ = _
            simp only [Act.put, List.setIfInBounds_toArray, List.set_cons_zero, List.set_cons_succ, i64_w, i32_w]
            rfl
           refine one_ (i := 13) (N := some 78) #[true, true, true, true, true, true, true, true, true, true, true, true, true, true, false, false] rfl rfl (one_of HT_.out (by kernel_rfl)) (by decide) (fun K hK => ?_)
           refine Kd.R_append_step (Kd.int .i64) (w0 := w) w.heap.size (by rfl) (.tmp 66) (.tmp 77) 24 3 (.int .i64 0) 8 rfl Try.underlying24 info3 rfl (by decide) (by omega) u218002 x218002_2 t230 [.int .i64 t230] (fun k_ => some k_ ≠ (.slice Ao76 y225.length co76 : Value).ownBlock) (fun _ => False) rfl rfl ?aP (fun _ hk => hk.elim) ?aF ?aO ?aB ?aS ?aL ?_
           (case aP => exact rfl)
           (case aB => exact (bw4_ HB.out GE213.out GE214.out GE215.out GE217.out))
           (case aF => exact (fun k_ hk => Kd.fresh' (Kd.R_lt (ro_ HO227.out)) k_ hk))
           (case aO => exact (ro_ HO_218002.out))
           (case aS => exact (below_size (bw4_ HB.out GE213.out GE214.out GE215.out GE217.out)))
           (case aL => have := LMc38.out; omega)
           intro v232 w82 ho hb hg hat
           rw [← Ny231.out] at ho
           have n0_ := sd_ (Kd.R_over' (ro_ HO_218003.out) (Kd.R_typed (ro_ HO_218002.out)) (by decide) hg)
           have n1_ := sd_ (blk_grown (g := gb213) (o := .cells #[.int .i64 a0_0, .slice A0_1 l0_1.length c0_1, .slice A0_2 l0_2.length c0_2, .slice A0_3 l0_3.length c0_3] 27 (0, 0)) (bz_ BK213.out) hg (Kd.R_ne HO_218002.out BK213.out (by decide)))
           have n2_ := sd_ (blk_grown (g := gb214) (o := .cells #[.int .i64 a1_0, .slice A1_1 l1_1.length c1_1, .slice A1_2 l1_2.length c1_2, .slice A1_3 l1_3.length c1_3] 27 (0, 0)) (bz_ BK214.out) hg (Kd.R_ne HO_218002.out BK214.out (by decide)))
           have n3_ := sd_ (blk_grown (g := gb215) (o := .cells #[.int .i64 0, .slice none 0 0, .slice none 0 0, .slice none 0 0] 27 (0, 0)) (bz_ BK215.out) hg (Kd.R_ne HO_218002.out BK215.out (by decide)))
           have n4_ := sd_ (blk_grown (g := gb217) (o := .cells #[.int .i64 (wrap64 (a0_0 * a1_0)), .slice Ao76 y225.length co76, u218002, u218003] 27 (0, 0)) (bz_ BK217.out) hg (Kd.R_ne HO_218002.out BK217.out (by decide)))
           have n5_ := sd_ (Kd.R_after (ok := (fun _ => True)) (by (with_reducible repeat (first | apply Kd.R_alloc | apply Kd.R_drewN | apply Kd.R_drew)); exact Kd.R_mono HO227.out (fun _ hk => ⟨trivial, hk⟩)) hg hat)
           have n6_ := sd_ (hb)
           have n7_ := sd_ (ho)
           clear HO_218003
           clear BK213
           clear BK214
           clear BK215
           clear BK217
           clear HO227
           clear HB
           clear HO_218002
           have HO_218003 := n0_
           have BK213 := n1_
           have BK214 := n2_
           have BK215 := n3_
           have BK217 := n4_
           have HO227 := n5_
           have HB := n6_
           have HO233 := n7_
           clear n0_ n1_ n2_ n3_ n4_ n5_ n6_ n7_
           clear ho hb hg hat
           obtain ⟨Ao83, co83, eo83⟩ := Kd.R_slice HO233.out
           (first | subst eo83 | (injection eo83 with f1_ f2_ f3_; have f4_ := f1_.symm; have f5_ := f3_.symm; clear f1_ f2_ f3_; subst f4_; subst f5_))
           refine hK.out _ _ ⟨(blk_cell BK217.out 0).trans rfl, (blk_cell BK217.out 1).trans rfl, (blk_cell BK217.out 2).trans rfl, (blk_cell BK217.out 3).trans rfl, (blk_cell BK213.out 0).trans rfl, (blk_cell BK213.out 1).trans rfl, (blk_cell BK213.out 2).trans rfl, (blk_cell BK213.out 3).trans rfl, (blk_cell BK214.out 0).trans rfl, (blk_cell BK214.out 1).trans rfl, (blk_cell BK214.out 2).trans rfl, (blk_cell BK214.out 3).trans rfl⟩ (fun hHeld => ?_)
           clear hK K
           refine norm_ (a' := ?_) ?_ ?_
           rotate_left
           ·show Act.put _ (some 78) _ = _
            simp only [Act.put, List.setIfInBounds_toArray, List.set_cons_zero, List.set_cons_succ, i64_w, i32_w]
            rfl
           refine pure_ (i := 14) (N := some 79) (v := ?_) (a' := ?_) #[true, true, true, true, true, true, true, true, true, true, true, true, true, true, true, false] rfl rfl (any_of HT_.out (by kernel_rfl)) (fun _ _ _ h => h) (Or.inl ⟨by rfl, ?_⟩) ?_ ?_
           rotate_left
           ·intro w'
            go_simp
            with_reducible rfl
           rotate_left
           ·simp only [Act.put, List.setIfInBounds_toArray, List.set_cons_zero, List.set_cons_succ, i64_w, i32_w]
            rfl
           refine last_ (i := 15) (N := none) #[true, true, true, true, true, true, true, true, true, true, true, true, true, true, true, true] rfl rfl (one_of HT_.out (by kernel_rfl)) (by decide) (fun K hK => ?_)
           have hs84 : w82.cell? ⟨gb217, 2, none⟩ = some (u218002) := (blk_cell BK217.out 2).trans rfl
           have hfs84 := blk_frozen BK217.out 2
           have hns84_0 := NB213_217.out
           have hns84_1 := NB214_217.out
           have hns84_2 := NB215_217.out
           have hms84_0 := NB217_213.out
           have hms84_1 := NB217_214.out
           have hms84_2 := NB217_215.out
           refine skip_ (w1 := ?_) (by rfl) rfl ?_ ?_
           rotate_left
           ·go_simp
            rfl
           refine hK.out _ _ ?_
           clear hK K
           refine done_ (done_of HT_.out (by kernel_rfl)) ?_
           try go_wp2
           have n0_ : Aside0 (Kd.R Kd.bool 4 (w82.setCell ⟨gb217, 2, none⟩ (.slice Ao83 y231.length co83)) w.heap.size (fun _ => True) u218003 x218003_2) := ⟨by (with_reducible repeat (first | apply Kd.R_alloc | apply Kd.R_drewN | apply Kd.R_drew)); exact Kd.R_mono (Kd.R_far (p := ⟨gb217, 2, none⟩) (Kd.R_types HO_218003.out BK217.out (by decide)) (fun _ hk => hk.2) (.slice Ao83 y231.length co83)) (fun _ hk => trivial)⟩
           have n1_ : Aside0 (Kd.R (Kd.int .i64) 3 (w82.setCell ⟨gb217, 2, none⟩ (.slice Ao83 y231.length co83)) w.heap.size (fun k_ => some k_ ≠ (.slice Ao83 y231.length co83 : Value).ownBlock) (.slice Ao76 y225.length co76) y225) := ⟨by (with_reducible repeat (first | apply Kd.R_alloc | apply Kd.R_drewN | apply Kd.R_drew)); exact Kd.R_mono (Kd.R_far (p := ⟨gb217, 2, none⟩) (Kd.R_types HO227.out BK217.out (by decide)) (fun _ hk => hk.2) (.slice Ao83 y231.length co83)) (fun _ hk => hk.1.2)⟩
           have n2_ : Aside0 (Kd.R (Kd.int .i64) 3 (w82.setCell ⟨gb217, 2, none⟩ (.slice Ao83 y231.length co83)) w.heap.size (fun k_ => some k_ ≠ (.slice Ao76 y225.length co76 : Value).ownBlock) (.slice Ao83 y231.length co83) y231) := ⟨by (with_reducible repeat (first | apply Kd.R_alloc | apply Kd.R_drewN | apply Kd.R_drew)); exact rf_ HO233.out BK217.out⟩
           have n3_ : Aside0 ((w82.setCell ⟨gb217, 2, none⟩ (.slice Ao83 y231.length co83)).heap[gb213]? = some (.cells #[.int .i64 a0_0, .slice A0_1 l0_1.length c0_1, .slice A0_2 l0_2.length c0_2, .slice A0_3 l0_3.length c0_3] 27 (0, 0))) := ⟨by exact zf1_ BK213.out NB213_217.out⟩
           have n4_ : Aside0 ((w82.setCell ⟨gb217, 2, none⟩ (.slice Ao83 y231.length co83)).heap[gb214]? = some (.cells #[.int .i64 a1_0, .slice A1_1 l1_1.length c1_1, .slice A1_2 l1_2.length c1_2, .slice A1_3 l1_3.length c1_3] 27 (0, 0))) := ⟨by exact zf1_ BK214.out NB214_217.out⟩
           have n5_ : Aside0 ((w82.setCell ⟨gb217, 2, none⟩ (.slice Ao83 y231.length co83)).heap[gb215]? = some (.cells #[.int .i64 0, .slice none 0 0, .slice none 0 0, .slice none 0 0] 27 (0, 0))) := ⟨by exact zf1_ BK215.out NB215_217.out⟩
           have n6_ : Aside0 ((w82.setCell ⟨gb217, 2, none⟩ (.slice Ao83 y231.length co83)).heap[gb217]? = some (.cells #[.int .i64 (wrap64 (a0_0 * a1_0)), .slice Ao76 y225.length co76, .slice Ao83 y231.length co83, u218003] 27 (0, 0))) := ⟨by (with_reducible repeat (first | refine blk_drewN ?_ _ | refine blk_drew ?_ | refine blk_alloc ?_ _)); refine blk_put (cs := #[.int .i64 (wrap64 (a0_0 * a1_0)), .slice Ao76 y225.length co76, u218002, u218003]) ?_ 2 _ rfl; exact bz_ BK217.out⟩
           have n7_ : Aside0 (Below w.heap.size w (w82.setCell ⟨gb217, 2, none⟩ (.slice Ao83 y231.length co83))) := ⟨bw4_ HB.out GE213.out GE214.out GE215.out GE217.out⟩
           (try clear HO_218003)
           (try clear HO227)
           (try clear HO233)
           (try clear BK213)
           (try clear BK214)
           (try clear BK215)
           (try clear BK217)
           (try clear HB)
           generalize (w82.setCell ⟨gb217, 2, none⟩ (.slice Ao83 y231.length co83)) = w85 at n0_ n1_ n2_ n3_ n4_ n5_ n6_ n7_ ⊢
           have HO_218003 := n0_
           have HO227 := n1_
           have HO233 := n2_
           have BK213 := n3_
           have BK214 := n4_
           have BK215 := n5_
           have BK217 := n6_
           have HB := n7_
           clear n0_ n1_ n2_ n3_ n4_ n5_ n6_ n7_
           replace HO_218003 := sd_ (Kd.R_drew HO_218003.out)
           replace HO227 := sd_ (Kd.R_drew HO227.out)
           replace HO233 := sd_ (Kd.R_drew HO233.out)
           replace BK213 := sd_ (blk_drew BK213.out)
           replace BK214 := sd_ (blk_drew BK214.out)
           replace BK215 := sd_ (blk_drew BK215.out)
           replace BK217 := sd_ (blk_drew BK217.out)
           replace HB := sd_ (below_drew1 HB.out)
           refine start_ (n := 16) (S := fun w' => w'.cell? ⟨gb217, 0, none⟩ = some (.int .i64 (wrap64 (a0_0 * a1_0))) ∧ w'.cell? ⟨gb217, 1, none⟩ = some (.slice Ao76 y225.length co76) ∧ w'.cell? ⟨gb217, 2, none⟩ = some (.slice Ao83 y231.length co83) ∧ w'.cell? ⟨gb217, 3, none⟩ = some (u218003) ∧ w'.cell? ⟨gb213, 0, none⟩ = some (.int .i64 a0_0) ∧ w'.cell? ⟨gb213, 1, none⟩ = some (.slice A0_1 l0_1.length c0_1) ∧ w'.cell? ⟨gb213, 2, none⟩ = some (.slice A0_2 l0_2.length c0_2) ∧ w'.cell? ⟨gb213, 3, none⟩ = some (.slice A0_3 l0_3.length c0_3)) (ds := [15]) #[false, false, false, false, false, false, false, false, false, false, false, false, false, false, false, false] (by kernel_rfl) rfl rfl ⟨(blk_cell BK217.out 0).trans rfl, (blk_cell BK217.out 1).trans rfl, (blk_cell BK217.out 2).trans rfl, (blk_cell BK217.out 3).trans rfl, (blk_cell BK213.out 0).trans rfl, (blk_cell BK213.out 1).trans rfl, (blk_cell BK213.out 2).trans rfl, (blk_cell BK213.out 3).trans rfl⟩ (fun hHeld => ?_); refine with_tabW spec_ProductSystem.tab17 spec_ProductSystem.bits17 (fun HT_ HW_ => ?_)
           generalize w85.drew = w86 at HO_218003 HO227 HO233 BK213 BK214 BK215 BK217 HB hHeld ⊢
           refine pure_ (i := 0) (N := some 80) (v := ?_) (a' := ?_) #[true, false, false, false, false, false, false, false, false, false, false, false, false, false, false, false] rfl rfl (any_of HT_.out (by kernel_rfl)) (fun _ _ _ h => h) (Or.inl ⟨by rfl, ?_⟩) ?_ ?_
           rotate_left
           ·intro w'
            go_simp
            with_reducible rfl
           rotate_left
           ·simp only [Act.put, List.setIfInBounds_toArray, List.set_cons_zero, List.set_cons_succ, i64_w, i32_w]
            rfl
           refine pure_ (i := 3) (N := some 83) (v := ?_) (a' := ?_) #[true, false, false, true, false, false, false, false, false, false, false, false, false, false, false, false] rfl rfl (any_of HT_.out (by kernel_rfl)) (fun _ _ _ h => h) (Or.inl ⟨by rfl, ?_⟩) ?_ ?_
           rotate_left
           ·intro w'
            go_simp
            with_reducible rfl
           rotate_left
           ·simp only [Act.put, List.setIfInBounds_toArray, List.set_cons_zero, List.set_cons_succ, i64_w, i32_w]
            rfl
           refine pure_ (i := 4) (N := some 84) (v := ?_) (a' := ?_) #[true, false, false, true, true, false, false, false, false, false, false, false, false, false, false, false] rfl rfl (any_of HT_.out (by kernel_rfl)) (fun _ _ _ h => h) (Or.inl ⟨by rfl, ?_⟩) ?_ ?_
           rotate_left
           ·intro w'
            go_simp
            with_reducible rfl
           rotate_left
           ·simp only [Act.put, List.setIfInBounds_toArray, List.set_cons_zero, List.set_cons_succ, i64_w, i32_w]
            rfl
           refine take_ (i := 1) (N := some 81) (v := ?_) (a' := ?_) #[true, true, false, true, true, false, false, false, false, false, false, false, false, false, false, false] rfl rfl (take_ofW HT_.out HW_.out (by kernel_rfl)) (fun _ _ _ h => h) (Or.inl ⟨by rfl, ?_⟩) hHeld ?_ ?_
           rotate_left
           ·rintro w' ⟨s0, s1, s2, s3, s4, s5, s6, s7⟩
            go_simp
            with_reducible rfl
           rotate_left
           ·simp only [Act.put, List.setIfInBounds_toArray, List.set_cons_zero, List.set_cons_succ, i64_w, i32_w]
            rfl
           refine take_ (i := 2) (N := some 82) (v := ?_) (a' := ?_) #[true, true, true, true, true, false, false, false, false, false, false, false, false, false, false, false] rfl rfl (take_ofW HT_.out HW_.out (by kernel_rfl)) (fun _ _ _ h => h) (Or.inl ⟨by rfl, ?_⟩) hHeld ?_ ?_
           rotate_left
           ·rintro w' ⟨s0, s1, s2, s3, s4, s5, s6, s7⟩
            go_simp
            with_reducible rfl
           rotate_left
           ·simp only [Act.put, List.setIfInBounds_toArray, List.set_cons_zero, List.set_cons_succ, i64_w, i32_w]
            rfl
           refine one_ (i := 5) (N := some 85) #[true, true, true, true, true, true, false, false, false, false, false, false, false, false, false, false] rfl rfl (one_of HT_.out (by kernel_rfl)) (by decide) (fun K hK => ?_)
           refine goes_ Try.func90 (by kernel_rfl) rfl #[.agg #[.int .i64 a0_0, .slice A0_1 l0_1.length c0_1, .slice A0_2 l0_2.length c0_2, .slice A0_3 l0_3.length c0_3], .int .i64 t218, .int .i64 t220] (by rfl) rfl rfl la_ ?_
           with_reducible refine (spec_l1Le.calls a0_0 _ _ l0_1 _ _ l0_2 _ _ l0_3 t218 t220 false _ ?side1 ?side2 ?side3 ?side4 ?side5 ?side6 A39.out).mono ?_
           (case side1 => exact kc_ HR0_1.out HB.out)
           (case side2 => exact HC0_1.out)
           (case side3 => exact kc_ HR0_2.out HB.out)
           (case side4 => exact HC0_2.out)
           (case side5 => exact kc_ HR0_3.out HB.out)
           (case side6 => exact HC0_3.out)
           rintro e w87 ⟨rfl, hb⟩
           refine ⟨_, rfl, ?_⟩
           replace HO_218003 := sd_ (Kd.R_below (ro_ HO_218003.out) hb)
           replace HO227 := sd_ (Kd.R_below (ro_ HO227.out) hb)
           replace HO233 := sd_ (Kd.R_below (ro_ HO233.out) hb)
           replace BK213 := sd_ (bb_ BK213.out hb)
           replace BK214 := sd_ (bb_ BK214.out hb)
           replace BK215 := sd_ (bb_ BK215.out hb)
           replace BK217 := sd_ (bb_ BK217.out hb)
           replace HB := sd_ (below_step (bw4_ HB.out GE213.out GE214.out GE215.out GE217.out) hb)
           (try clear hb)
           (try clear hb2)
           (try clear hk)
           (try clear hi)
           refine hK.out _ _ ⟨(blk_cell BK217.out 0).trans rfl, (blk_cell BK217.out 1).trans rfl, (blk_cell BK217.out 2).trans rfl, (blk_cell BK217.out 3).trans rfl, (blk_cell BK213.out 0).trans rfl, (blk_cell BK213.out 1).trans rfl, (blk_cell BK213.out 2).trans rfl, (blk_cell BK213.out 3).trans rfl⟩ (fun hHeld => ?_)
           clear hK K
           refine norm_ (a' := ?_) ?_ ?_
           rotate_left
           ·show Act.put _ (some 85) _ = _
            simp only [Act.put, List.setIfInBounds_toArray, List.set_cons_zero, List.set_cons_succ, i64_w, i32_w]
            rfl
           refine pure_ (i := 6) (N := some 86) (v := ?_) (a' := ?_) #[true, true, true, true, true, true, true, false, false, false, false, false, false, false, false, false] rfl rfl (any_of HT_.out (by kernel_rfl)) (fun _ _ _ h => h) (Or.inl ⟨by rfl, ?_⟩) ?_ ?_
           rotate_left
           ·intro w'
            go_simp
            with_reducible rfl
           rotate_left
           ·simp only [Act.put, List.setIfInBounds_toArray, List.set_cons_zero, List.set_cons_succ, i64_w, i32_w]
            rfl
           refine pure_ (i := 7) (N := some 87) (v := undef) (a' := ?_) #[true, true, true, true, true, true, true, true, false, false, false, false, false, false, false, false] rfl rfl (any_of HT_.out (by kernel_rfl)) (fun _ _ _ h => h) (Or.inr ⟨by rfl, rfl⟩) ?_ ?_
           rotate_left
           ·simp only [Act.put, List.setIfInBounds_toArray, List.set_cons_zero, List.set_cons_succ, i64_w, i32_w]
            rfl
           refine pure_ (i := 8) (N := some 88) (v := undef) (a' := ?_) #[true, true, true, true, true, true, true, true, true, false, false, false, false, false, false, false] rfl rfl (any_of HT_.out (by kernel_rfl)) (fun _ _ _ h => h) (Or.inr ⟨by rfl, rfl⟩) ?_ ?_
           rotate_left
           ·simp only [Act.put, List.setIfInBounds_toArray, List.set_cons_zero, List.set_cons_succ, i64_w, i32_w]
            rfl
           refine pure_ (i := 9) (N := some 89) (v := undef) (a' := ?_) #[true, true, true, true, true, true, true, true, true, true, false, false, false, false, false, false] rfl rfl (any_of HT_.out (by kernel_rfl)) (fun _ _ _ h => h) (Or.inr ⟨by rfl, rfl⟩) ?_ ?_
           rotate_left
           ·simp only [Act.put, List.setIfInBounds_toArray, List.set_cons_zero, List.set_cons_succ, i64_w, i32_w]
            rfl
           refine pure_ (i := 10) (N := some 90) (v := undef) (a' := ?_) #[true, true, true, true, true, true, true, true, true, true, true, false, false, false, false, false] rfl rfl (any_of HT_.out (by kernel_rfl)) (fun _ _ _ h => h) (Or.inr ⟨by rfl, rfl⟩) ?_ ?_
           rotate_left
           ·simp only [Act.put, List.setIfInBounds_toArray, List.set_cons_zero, List.set_cons_succ, i64_w, i32_w]
            rfl
           refine pure_ (i := 11) (N := some 91) (v := ?_) (a' := ?_) #[true, true, true, true, true, true, true, true, true, true, true, true, false, false, false, false] rfl rfl (any_of HT_.out (by kernel_rfl)) (fun _ _ _ h => h) (Or.inl ⟨by rfl, ?_⟩) ?_ ?_
           rotate_left
           ·intro w'
            go_simp
            with_reducible rfl
           rotate_left
           ·simp only [Act.put, List.setIfInBounds_toArray, List.set_cons_zero, List.set_cons_succ, i64_w, i32_w]
            rfl
           refine one_ (i := 12) (N := some 92) #[true, true, true, true, true, true, true, true, true, true, true, true, true, false, false, false] rfl rfl (one_of HT_.out (by kernel_rfl)) (by decide) (fun K hK => ?_)
           refine value_ (w1 := ?_) (v := ?_) (by rfl) rfl ?_ ?_
           rotate_left 2
           ·go_simp
            constructor
            ·rfl
            rfl
           refine hK.out _ _ ⟨(blk_cell (blk_alloc BK217.out _) 0).trans rfl, (blk_cell (blk_alloc BK217.out _) 1).trans rfl, (blk_cell (blk_alloc BK217.out _) 2).trans rfl, (blk_cell (blk_alloc BK217.out _) 3).trans rfl, (blk_cell (blk_alloc BK213.out _) 0).trans rfl, (blk_cell (blk_alloc BK213.out _) 1).trans rfl, (blk_cell (blk_alloc BK213.out _) 2).trans rfl, (blk_cell (blk_alloc BK213.out _) 3).trans rfl⟩ (fun hHeld => ?_)
           clear hK K
           refine norm_ (a' := ?_) ?_ ?_
           rotate_left
           ·show Act.put _ (some 92) _ = _
            simp only [Act.put, List.setIfInBounds_toArray, List.set_cons_zero, List.set_cons_succ, i64_w, i32_w]
            rfl
           refine one_ (i := 13) (N := some 93) #[true, true, true, true, true, true, true, true, true, true, true, true, true, true, false, false] rfl rfl (one_of HT_.out (by kernel_rfl)) (by decide) (fun K hK => ?_)
           refine Kd.R_append_step Kd.bool (w0 := w) w.heap.size (by rfl) (.tmp 81) (.tmp 92) 25 4 (.bool false) 1 rfl Try.underlying25 info4 rfl (by decide) (by omega) u218003 x218003_2 false [.bool false] (fun _ => True) (fun _ => False) rfl rfl ?aP (fun _ hk => hk.elim) ?aF ?aO ?aB ?aS ?aL ?_
           (case aP => exact rfl)
           (case aB => exact (bw4_ HB.out GE213.out GE214.out GE215.out GE217.out))
           (case aF => exact (fun _ _ => trivial))
           (case aO => exact (ro_ HO_218003.out))
           (case aS => exact (below_size (bw4_ HB.out GE213.out GE214.out GE215.out GE217.out)))
           (case aL => have := LMc67.out; omega)
           intro v240 w88 ho hb hg hat
           rw [← Ny239.out] at ho
           have n0_ := sd_ (blk_grown (g := gb213) (o := .cells #[.int .i64 a0_0, .slice A0_1 l0_1.length c0_1, .slice A0_2 l0_2.length c0_2, .slice A0_3 l0_3.length c0_3] 27 (0, 0)) (bz_ BK213.out) hg (Kd.R_ne HO_218003.out BK213.out (by decide)))
           have n1_ := sd_ (blk_grown (g := gb214) (o := .cells #[.int .i64 a1_0, .slice A1_1 l1_1.length c1_1, .slice A1_2 l1_2.length c1_2, .slice A1_3 l1_3.length c1_3] 27 (0, 0)) (bz_ BK214.out) hg (Kd.R_ne HO_218003.out BK214.out (by decide)))
           have n2_ := sd_ (blk_grown (g := gb215) (o := .cells #[.int .i64 0, .slice none 0 0, .slice none 0 0, .slice none 0 0] 27 (0, 0)) (bz_ BK215.out) hg (Kd.R_ne HO_218003.out BK215.out (by decide)))
           have n3_ := sd_ (blk_grown (g := gb217) (o := .cells #[.int .i64 (wrap64 (a0_0 * a1_0)), .slice Ao76 y225.length co76, .slice Ao83 y231.length co83, u218003] 27 (0, 0)) (bz_ BK217.out) hg (Kd.R_ne HO_218003.out BK217.out (by decide)))
           have n4_ := sd_ (Kd.R_over' (ro_ HO227.out) (Kd.R_typed (ro_ HO_218003.out)) (by decide) hg)
           have n5_ := sd_ (Kd.R_over' (ro_ HO233.out) (Kd.R_typed (ro_ HO_218003.out)) (by decide) hg)
           have n6_ := sd_ (hb)
           have n7_ := sd_ (ho)
           clear BK213
           clear BK214
           clear BK215
           clear BK217
           clear HO227
           clear HO233
           clear HB
           clear HO_218003
           have BK213 := n0_
           have BK214 := n1_
           have BK215 := n2_
           have BK217 := n3_
           have HO227 := n4_
           have HO233 := n5_
           have HB := n6_
           have HO241 := n7_
           clear n0_ n1_ n2_ n3_ n4_ n5_ n6_ n7_
           clear ho hb hg hat
           obtain ⟨Ao89, co89, eo89⟩ := Kd.R_slice HO241.out
           (first | subst eo89 | (injection eo89 with f1_ f2_ f3_; have f4_ := f1_.symm; have f5_ := f3_.symm; clear f1_ f2_ f3_; subst f4_; subst f5_))
           refine hK.out _ _ ⟨(blk_cell BK217.out 0).trans rfl, (blk_cell BK217.out 1).trans rfl, (blk_cell BK217.out 2).trans rfl, (blk_cell BK217.out 3).trans rfl, (blk_cell BK213.out 0).trans rfl, (blk_cell BK213.out 1).trans rfl, (blk_cell BK213.out 2).trans rfl, (blk_cell BK213.out 3).trans rfl⟩ (fun hHeld => ?_)
           clear hK K
           refine norm_ (a' := ?_) ?_ ?_
           rotate_left
           ·show Act.put _ (some 93) _ = _
            simp only [Act.put, List.setIfInBounds_toArray, List.set_cons_zero, List.set_cons_succ, i64_w, i32_w]
            rfl
           refine pure_ (i := 14) (N := some 94) (v := ?_) (a' := ?_) #[true, true, true, true, true, true, true, true, true, true, true, true, true, true, true, false] rfl rfl (any_of HT_.out (by kernel_rfl)) (fun _ _ _ h => h) (Or.inl ⟨by rfl, ?_⟩) ?_ ?_
           rotate_left
           ·intro w'
            go_simp
            with_reducible rfl
           rotate_left
           ·simp only [Act.put, List.setIfInBounds_toArray, List.set_cons_zero, List.set_cons_succ, i64_w, i32_w]
            rfl
           refine last_ (i := 15) (N := none) #[true, true, true, true, true, true, true, true, true, true, true, true, true, true, true, true] rfl rfl (one_of HT_.out (by kernel_rfl)) (by decide) (fun K hK => ?_)
           have hs90 : w88.cell? ⟨gb217, 3, none⟩ = some (u218003) := (blk_cell BK217.out 3).trans rfl
           have hfs90 := blk_frozen BK217.out 3
           have hns90_0 := NB213_217.out
           have hns90_1 := NB214_217.out
           have hns90_2 := NB215_217.out
           have hms90_0 := NB217_213.out
           have hms90_1 := NB217_214.out
           have hms90_2 := NB217_215.out
           refine skip_ (w1 := ?_) (by rfl) rfl ?_ ?_
           rotate_left
           ·go_simp
            rfl
           refine hK.out _ _ ?_
           clear hK K
           refine done_ (done_of HT_.out (by kernel_rfl)) ?_
           try go_wp2
           go_roundg k2
           case measure => have := HK1.out; have := HK2.out; omega
           case rel => exact ⟨(wrap64 (x9_2 + 1)), (y225), (y231), (y239), (.slice Ao76 y225.length co76), (.slice Ao83 y231.length co83), (.slice Ao89 y239.length co89), sm_, H', ⟨by have := HK1.out; have := HK2.out; omega⟩, ⟨by (with_reducible repeat (first | apply Kd.R_alloc | apply Kd.R_drewN | apply Kd.R_drew)); exact rf_ HO227.out BK217.out⟩, ⟨by (with_reducible repeat (first | apply Kd.R_alloc | apply Kd.R_drewN | apply Kd.R_drew)); exact rf_ HO233.out BK217.out⟩, ⟨by (with_reducible repeat (first | apply Kd.R_alloc | apply Kd.R_drewN | apply Kd.R_drew)); exact Kd.R_mono (Kd.R_far (p := ⟨gb217, 3, none⟩) (Kd.R_types HO241.out BK217.out (by decide)) (fun _ hk => hk.2) (.slice Ao89 y239.length co89)) (fun _ hk => trivial)⟩, ⟨by exact zf1_ BK213.out NB213_217.out⟩, ⟨by exact zf1_ BK214.out NB214_217.out⟩, ⟨by exact zf1_ BK215.out NB215_217.out⟩, ⟨by (with_reducible repeat (first | refine blk_drewN ?_ _ | refine blk_drew ?_ | refine blk_alloc ?_ _)); refine blk_put (cs := #[.int .i64 (wrap64 (a0_0 * a1_0)), .slice Ao76 y225.length co76, .slice Ao83 y231.length co83, u218003]) ?_ 3 _ rfl; exact bz_ BK217.out⟩, ⟨bw4_ HB.out GE213.out GE214.out GE215.out GE217.out⟩⟩
          rw [if_neg c67] at H
          exact absurd H (by simp)
         rw [if_neg c38] at H
         exact absurd H (by simp)
        rw [if_neg c34] at H
        exact absurd H (by simp)
       rw [if_neg c26] at H
       have c26b0 : decide (x9_2 < (wrap64 (a0_0 * a1_0))) = false := decide_eq_false c26
       clear c26
       have H' := sd_ H
       clear H
       have hnb91 := NB217_213.out
       have hnc91 := NB213_217.out
       have hnb92 := NB217_214.out
       have hnc92 := NB214_217.out
       have hnb93 := NB217_215.out
       have hnc93 := NB215_217.out
       obtain ⟨hcz94_0, hcz94_1, hcz94_2, hcz94_3, hfz94_0, hfz94_1, hfz94_2, hfz94_3⟩ := bf4_ BK217.out
       go_wp2
       go_roundg k2
       case measure => have := HK1.out; have := HK2.out; omega
       case rel => exact ⟨(wrap64 (x8_1 + 1)), (x218001_2), (x218002_2), (x218003_2), (u218001), (u218002), (u218003), sm_, H', ⟨by have := HK1.out; have := HK2.out; omega⟩, ⟨by (with_reducible repeat (first | apply Kd.R_alloc | apply Kd.R_drewN | apply Kd.R_drew)); exact HO_218001.out⟩, ⟨by (with_reducible repeat (first | apply Kd.R_alloc | apply Kd.R_drewN | apply Kd.R_drew)); exact HO_218002.out⟩, ⟨by (with_reducible repeat (first | apply Kd.R_alloc | apply Kd.R_drewN | apply Kd.R_drew)); exact HO_218003.out⟩, ⟨by exact bz_ BK213.out⟩, ⟨by exact bz_ BK214.out⟩, ⟨by exact bz_ BK215.out⟩, ⟨by exact bz_ BK217.out⟩, ⟨bw4_ HB.out GE213.out GE214.out GE215.out GE217.out⟩⟩
    rw [if_neg c21] at H
    have c21b0 : decide (x8_1 < (wrap64 (a0_0 * a1_0))) = false := decide_eq_false c21
    clear c21
    simp only [Option.some.injEq, Prod.mk.injEq] at H
    obtain ⟨rfl, rfl, rfl, rfl, rfl⟩ := H
    have hnb95 := NB217_213.out
    have hnc95 := NB213_217.out
    have hnb96 := NB217_214.out
    have hnc96 := NB214_217.out
    have hnb97 := NB217_215.out
    have hnc97 := NB215_217.out
    obtain ⟨hcz98_0, hcz98_1, hcz98_2, hcz98_3, hfz98_0, hfz98_1, hfz98_2, hfz98_3⟩ := bf4_ BK217.out
    have hnb99 := NB215_213.out
    have hnc99 := NB213_215.out
    have hnb100 := NB215_214.out
    have hnc100 := NB214_215.out
    obtain ⟨hcz101_0, hcz101_1, hcz101_2, hcz101_3, hfz101_0, hfz101_1, hfz101_2, hfz101_3⟩ := bf4_ BK215.out
    obtain ⟨Ao102, co102, eo102⟩ := Kd.R_slice HO_218001.out
    subst eo102
    obtain ⟨Ao103, co103, eo103⟩ := Kd.R_slice HO_218002.out
    subst eo103
    obtain ⟨Ao104, co104, eo104⟩ := Kd.R_slice HO_218003.out
    subst eo104
    go_wp2
    refine bodyPost_ret (results_ct rfl _ _ gb215 27 #[.int .i64 (wrap64 (a0_0 * a1_0)), .slice Ao102 x218001_1.length co102, .slice Ao103 x218002_1.length co103, .slice Ao104 x218003_1.length co104] (0, 0) _ rfl (by (with_reducible repeat (first | refine blk_drewN ?_ _ | refine blk_drew ?_ | refine blk_alloc ?_ _)); refine blk_put (cs := #[.int .i64 (wrap64 (a0_0 * a1_0)), .slice Ao102 x218001_1.length co102, .slice Ao103 x218002_1.length co103, .slice none 0 0]) ?_ 3 _ rfl; (with_reducible repeat (first | refine blk_drewN ?_ _ | refine blk_drew ?_ | refine blk_alloc ?_ _)); refine blk_put (cs := #[.int .i64 (wrap64 (a0_0 * a1_0)), .slice Ao102 x218001_1.length co102, .slice none 0 0, .slice none 0 0]) ?_ 2 _ rfl; (with_reducible repeat (first | refine blk_drewN ?_ _ | refine blk_drew ?_ | refine blk_alloc ?_ _)); refine blk_put (cs := #[.int .i64 (wrap64 (a0_0 * a1_0)), .slice none 0 0, .slice none 0 0, .slice none 0 0]) ?_ 1 _ rfl; (with_reducible repeat (first | refine blk_drewN ?_ _ | refine blk_drew ?_ | refine blk_alloc ?_ _)); refine blk_put (cs := #[.int .i64 0, .slice none 0 0, .slice none 0 0, .slice none 0 0]) ?_ 0 _ rfl; exact bz_ BK215.out) Try.underlying27 rfl (by kernel_rfl)) rfl ?_
    exact ⟨_, _, _, an_, by (with_reducible repeat (first | apply Kd.R_alloc | apply Kd.R_drewN | apply Kd.R_drew)); exact rf_ HO_218001.out BK215.out, by (with_reducible repeat (first | apply Kd.R_alloc | apply Kd.R_drewN | apply Kd.R_drew)); exact rf_ HO_218002.out BK215.out, by (with_reducible repeat (first | apply Kd.R_alloc | apply Kd.R_drewN | apply Kd.R_drew)); exact Kd.R_mono (Kd.R_far (p := ⟨gb215, 3, none⟩) (Kd.R_far (p := ⟨gb215, 2, none⟩) (Kd.R_far (p := ⟨gb215, 1, none⟩) (Kd.R_far (p := ⟨gb215, 0, none⟩) (Kd.R_types HO_218003.out BK215.out (by decide)) (fun _ hk => hk.2) (.int .i64 (wrap64 (a0_0 * a1_0)))) (fun _ hk => hk.2) (.slice Ao102 x218001_1.length co102)) (fun _ hk => hk.2) (.slice Ao103 x218002_1.length co103)) (fun _ hk => hk.2) (.slice Ao104 x218003_1.length co104)) (fun _ hk => trivial), bw4_ HB.out GE213.out GE214.out GE215.out GE217.out⟩
 replace c4 := Bool.eq_false_iff.mpr c4
 subst c4
 have H1 : (some (0, ([] : List Int), ([] : List Int), ([] : List Bool), false)) = some (r1, r2, r3, r4, r5) := by rw [if_neg (show ¬ (false = true) by decide)] at H; exact H
 clear H
 have H := H1
 clear H1
 simp only [Option.some.injEq, Prod.mk.injEq] at H
 obtain ⟨rfl, rfl, rfl, rfl, rfl⟩ := H
 go_enter Try.func27, Try.ntmps27
 go_wp2_with (first | ((with_reducible refine gate_dst (N := 2) rfl ?_); refine bx_ (N := 2) (cs := #[.int .i64 a0_0, .slice A0_1 l0_1.length c0_1, .slice A0_2 l0_2.length c0_2, .slice A0_3 l0_3.length c0_3]) (t := 27) ?_; intro gb213 hg w105 hbox hb; have BK213 := sd_ (hbox); have GW213 := sd_ (gs_ hg (bw0_ HB.out)); have GE213 := sd_ (gs_ hg (bw0_ HB.out)); replace HB := sd_ (below_step (bw0_ HB.out) hb); clear hb hbox hg) | ((with_reducible refine gate_dst (N := 3) rfl ?_); refine bx_ (N := 3) (cs := #[.int .i64 a1_0, .slice A1_1 l1_1.length c1_1, .slice A1_2 l1_2.length c1_2, .slice A1_3 l1_3.length c1_3]) (t := 27) ?_; intro gb214 hg w106 hbox hb; have BK214 := sd_ (hbox); have GW214 := sd_ (gs_ hg (bw1_ HB.out GE213.out)); have GE214 := sd_ (gs_ hg (bw1_ HB.out GE213.out)); replace HB := sd_ (below_step (bw1_ HB.out GE213.out) hb); have NB213_214 := sd_ (nl_ hg (bl_ BK213.out)); have NB214_213 := sd_ (ng_ hg (bl_ BK213.out)); replace BK213 := sd_ (bb_ BK213.out hb); clear hb hbox hg) | ((with_reducible refine gate_dst (N := 4) rfl ?_); refine bx_ (N := 4) (cs := #[.int .i64 0, .slice none 0 0, .slice none 0 0, .slice none 0 0]) (t := 27) ?_; intro gb215 hg w107 hbox hb; have BK215 := sd_ (hbox); have GW215 := sd_ (gs_ hg (bw2_ HB.out GE213.out GE214.out)); have GE215 := sd_ (gs_ hg (bw2_ HB.out GE213.out GE214.out)); replace HB := sd_ (below_step (bw2_ HB.out GE213.out GE214.out) hb); have NB213_215 := sd_ (nl_ hg (bl_ BK213.out)); have NB215_213 := sd_ (ng_ hg (bl_ BK213.out)); replace BK213 := sd_ (bb_ BK213.out hb); have NB214_215 := sd_ (nl_ hg (bl_ BK214.out)); have NB215_214 := sd_ (ng_ hg (bl_ BK214.out)); replace BK214 := sd_ (bb_ BK214.out hb); clear hb hbox hg; have hnb108 := NB213_214.out; have hnc108 := NB214_213.out; have hnb109 := NB213_215.out; have hnc109 := NB215_213.out; obtain ⟨hcz110_0, hcz110_1, hcz110_2, hcz110_3, hfz110_0, hfz110_1, hfz110_2, hfz110_3⟩ := bf4_ BK213.out; have hnb111 := NB214_215.out; have hnc111 := NB215_214.out; obtain ⟨hcz112_0, hcz112_1, hcz112_2, hcz112_3, hfz112_0, hfz112_1, hfz112_2, hfz112_3⟩ := bf4_ BK214.out) | ((with_reducible refine gate_callee (f := 79) rfl ?_); refine goesL_ (some 16) rfl rfl Try.func79 (by kernel_rfl) rfl #[.agg #[.int .i64 a0_0, .slice A0_1 l0_1.length c0_1, .slice A0_2 l0_2.length c0_2, .slice A0_3 l0_3.length c0_3], .agg #[.int .i64 a1_0, .slice A1_1 l1_1.length c1_1, .slice A1_2 l1_2.length c1_2, .slice A1_3 l1_3.length c1_3]] rfl la_ ?_; (with_reducible refine (spec_l1Product.calls k a0_0 _ _ l0_1 _ _ l0_2 _ _ l0_3 a1_0 _ _ l1_1 _ _ l1_2 _ _ l1_3 false _ (kc_ HR0_1.out HB.out) HC0_1.out (kc_ HR0_2.out HB.out) HC0_2.out (kc_ HR0_3.out HB.out) HC0_3.out (kc_ HR1_1.out HB.out) HC1_1.out (kc_ HR1_2.out HB.out) HC1_2.out (kc_ HR1_3.out HB.out) HC1_3.out A3.out).mono ?_); rintro e w113 ⟨rfl, hb⟩; refine ⟨_, rfl, ?_⟩; replace BK213 := sd_ (bb_ BK213.out hb); replace BK214 := sd_ (bb_ BK214.out hb); replace BK215 := sd_ (bb_ BK215.out hb); replace HB := sd_ (below_step (bw3_ HB.out GE213.out GE214.out GE215.out) hb); (try clear hb); obtain ⟨hcz114_0, hcz114_1, hcz114_2, hcz114_3, hfz114_0, hfz114_1, hfz114_2, hfz114_3⟩ := bf4_ BK215.out))
 refine bodyPost_ret (results_ct rfl _ _ gb215 27 #[.int .i64 0, .slice none 0 0, .slice none 0 0, .slice none 0 0] (0, 0) _ rfl (by (with_reducible repeat (first | refine blk_drewN ?_ _ | refine blk_drew ?_ | refine blk_alloc ?_ _)); refine blk_put (cs := #[.int .i64 0, .slice none 0 0, .slice none 0 0, .slice none 0 0]) ?_ 3 _ rfl; (with_reducible repeat (first | refine blk_drewN ?_ _ | refine blk_drew ?_ | refine blk_alloc ?_ _)); refine blk_put (cs := #[.int .i64 0, .slice none 0 0, .slice none 0 0, .slice none 0 0]) ?_ 2 _ rfl; (with_reducible repeat (first | refine blk_drewN ?_ _ | refine blk_drew ?_ | refine blk_alloc ?_ _)); refine blk_put (cs := #[.int .i64 0, .slice none 0 0, .slice none 0 0, .slice none 0 0]) ?_ 1 _ rfl; (with_reducible repeat (first | refine blk_drewN ?_ _ | refine blk_drew ?_ | refine blk_alloc ?_ _)); refine blk_put (cs := #[.int .i64 0, .slice none 0 0, .slice none 0 0, .slice none 0 0]) ?_ 0 _ rfl; exact bz_ BK215.out) Try.underlying27 rfl (by kernel_rfl)) rfl ?_
 exact ⟨_, _, _, an_, by first | exact Kd.R_nil _ _ _ _ _ | exact Kd.N_nil _ _ _ _ _ | exact Kd.V_nil _ _ _ _ _ | exact Kd.Q_nil _ _ _ _ _ | exact Kd.S_nil _ _ _ _ _, by first | exact Kd.R_nil _ _ _ _ _ | exact Kd.N_nil _ _ _ _ _ | exact Kd.V_nil _ _ _ _ _ | exact Kd.Q_nil _ _ _ _ _ | exact Kd.S_nil _ _ _ _ _, by first | exact Kd.R_nil _ _ _ _ _ | exact Kd.N_nil _ _ _ _ _ | exact Kd.V_nil _ _ _ _ _ | exact Kd.Q_nil _ _ _ _ _ | exact Kd.S_nil _ _ _ _ _, bw3_ HB.out GE213.out GE214.out GE215.out⟩

end Go.Proofs.Ytcdmnofomoadlaa.P
