-- Several texts in one (wip/tools/merge.py).
import Derived.Test.YtlhiacnmcckjgaaDoorPf26
import Derived.Test.YtlhiacnmcckjgaaDoorM10
import Derived.Test.YtlhiacnmcckjgaaDoorM1
import Derived.Test.YtlhiacnmcckjgaaDoorM9
import Derived.Test.YtlhiacnmcckjgaaDoorM2
import Derived.Test.YtlhiacnmcckjgaaDoorM3
section
namespace Go.Proofs.YtlhiacnmcckjgaaDoor.P
open Go.RowKit Go.Proofs.YtlhiacnmcckjgaaDoorW.PrintWords Go.Proofs.YtlhiacnmcckjgaaDoorW.PrintLast Go.Proofs.YtlhiacnmcckjgaaDoorW.PrintMore
set_option linter.unusedVariables false
set_option linter.unusedSimpArgs false
def impl_FormatTerm.f (k : Nat) (a0_0 : Int) (a0_1 : Int) (l0_2 : List Int) (l0_3 : List (S34)) : Option (ByteArray) := (impl_IsWritten.f k a0_0 a0_1 l0_2 l0_3).bind fun t => if t = true then impl_writeTerm.f k (⟨#[]⟩ : ByteArray) a0_0 a0_1 l0_2 l0_3 else some (⟨#[]⟩ : ByteArray)
set_option maxHeartbeats 8000000 in
set_option maxRecDepth 100000 in
theorem impl_FormatTerm.calls (k : Nat) (a0_0 : Int) (a0_1 : Int) (A0_2 : Option Addr) (c0_2 : Nat) (l0_2 : List Int) (A0_3 : Option Addr) (c0_3 : Nat) (l0_3 : List (S34)) (r : ByteArray) (w : World) (hr0_2 : Kd.C (Kd.int .i64) w A0_2 l0_2.length l0_2) (hc0_2 : l0_2.length ≤ c0_2) (hr0_3 : Kd.C k34 w A0_3 l0_3.length l0_3) (hc0_3 : l0_3.length ≤ c0_3) (h : impl_FormatTerm.f k a0_0 a0_1 l0_2 l0_3 = some r) (hT : Tabs w) :
  Calls Tryd.prog 12 #[.agg #[.int .i64 a0_0, .int .i64 a0_1, .slice A0_2 l0_2.length c0_2, .slice A0_3 l0_3.length c0_3]] w fun e w' => e = .returned (.string r) ∧ Below w.heap.size w w' := by
 have hu34 := Tryd.underlying34
 have HR2 := sd_ hr0_2
 have HC2 := sd_ hc0_2
 have HR3 := sd_ hr0_3
 have HC3 := sd_ hc0_3
 have HT0 := sd_ hT
 have HB := sd_ (Below.refl w.heap.size w)
 clear hr0_2 hc0_2 hr0_3 hc0_3 hT
 unfold impl_FormatTerm.f at h
 replace h := Option.bind_eq_some_iff.mp h
 obtain ⟨t, A60, h⟩ := h
 have A6 := sd_ A60
 have H := sd_ h
 clear A60 h
 go_enter Tryd.func12, Tryd.ntmps12
 go_upto_if 6 with (first | ((with_reducible refine gate_dst (N := 1) rfl ?_); (try (refine gate_guard (by rfl) ?_; dsimp only)); refine bx_ (N := 1) (cs := #[.int .i64 a0_0, .int .i64 a0_1, .slice A0_2 l0_2.length c0_2, .slice A0_3 l0_3.length c0_3]) (t := 34) ?_; intro gt hg w1 hbox hb; have n1_ := sd_ (below_step (by repeat (first | (with_reducible first | exact HB.out | apply pw_below_drewN) | exact HB.out)) hb); clear HB; have HB := n1_; have HT := sd_ hbox; clear n1_ hg hb hbox; have hc0 : w1.cell? ⟨gt, 0, none⟩ = some (.int .i64 a0_0) := (blk_cell HT.out 0).trans rfl; have hc1 : w1.cell? ⟨gt, 1, none⟩ = some (.int .i64 a0_1) := (blk_cell HT.out 1).trans rfl; have hc2 : w1.cell? ⟨gt, 2, none⟩ = some (.slice A0_2 l0_2.length c0_2) := (blk_cell HT.out 2).trans rfl; have hc3 : w1.cell? ⟨gt, 3, none⟩ = some (.slice A0_3 l0_3.length c0_3) := (blk_cell HT.out 3).trans rfl) | ((with_reducible refine gate_callee (f := 25) rfl ?_); refine goesL_ (some 5) rfl rfl Tryd.func25 (by kernel_rfl) rfl #[.agg #[.int .i64 a0_0, .int .i64 a0_1, .slice A0_2 l0_2.length c0_2, .slice A0_3 l0_3.length c0_3]] rfl la_ ?_; (with_reducible refine (impl_IsWritten.calls k a0_0 a0_1 _ _ l0_2 _ _ l0_3 t _ ?side1 ?side2 ?side3 ?side4 A6.out).mono ?_); (case side1 => first | exact Kd.C_below HR2.out HB.out | exact Kd.C_below HR2.out (pw_below_drewN HB.out _)); (case side2 => exact HC2.out); (case side3 => first | exact Kd.C_below HR3.out HB.out | exact Kd.C_below HR3.out (pw_below_drewN HB.out _)); (case side4 => exact HC3.out); rintro e w2 ⟨rfl, hb⟩; refine ⟨_, rfl, ?_⟩; have n1_ := sd_ (below_step (by repeat (first | (with_reducible first | exact HB.out | apply pw_below_drewN) | exact HB.out)) hb); have n2_ := sd_ (blk_below (g := gt) (o := .cells #[.int .i64 a0_0, .int .i64 a0_1, .slice A0_2 l0_2.length c0_2, .slice A0_3 l0_3.length c0_3] 34 (0, 0)) HT.out hb); clear HB HT; have HB := n1_; have HT := n2_; clear n1_ n2_ hb; have he0 : w2.cell? ⟨gt, 0, none⟩ = some (.int .i64 a0_0) := (blk_cell HT.out 0).trans rfl; have he1 : w2.cell? ⟨gt, 1, none⟩ = some (.int .i64 a0_1) := (blk_cell HT.out 1).trans rfl; have he2 : w2.cell? ⟨gt, 2, none⟩ = some (.slice A0_2 l0_2.length c0_2) := (blk_cell HT.out 2).trans rfl; have he3 : w2.cell? ⟨gt, 3, none⟩ = some (.slice A0_3 l0_3.length c0_3) := (blk_cell HT.out 3).trans rfl))
 have H1 := H.out
 clear H
 by_cases c1 : t = true
 ·subst c1
  rw [if_pos rfl] at H1
  have A7 := sd_ H1
  clear H1
  go_upto_region 4 with (fail)
  refine gen_wp (fun W => Go.Lib.IsBuilder 48 5 w.heap.size w2.heap.size (Go.Lib.strCells (⟨#[]⟩ : ByteArray)) W ∧ Below w.heap.size w W ∧ W.heap[gt]? = some (.cells #[.int .i64 a0_0, .int .i64 a0_1, .slice A0_2 l0_2.length c0_2, .slice A0_3 l0_3.length c0_3] 34 (0, 0))) ⟨isBuilder_mono (Go.Lib.fresh_isBuilder 48 5 _) HB.out.size, by repeat (first | (with_reducible first | exact HB.out | apply below_alloc | apply pw_below_drewN) | exact HB.out), blk_alloc HT.out _⟩ ?_
  intro w3 h3
  have HI := sd_ h3.1
  have HB3 := sd_ h3.2.1
  have HT3 := sd_ h3.2.2
  clear h3 HT HB
  have hf0 : w3.cell? ⟨gt, 0, none⟩ = some (.int .i64 a0_0) := (blk_cell HT3.out 0).trans rfl
  have hf1 : w3.cell? ⟨gt, 1, none⟩ = some (.int .i64 a0_1) := (blk_cell HT3.out 1).trans rfl
  have hf2 : w3.cell? ⟨gt, 2, none⟩ = some (.slice A0_2 l0_2.length c0_2) := (blk_cell HT3.out 2).trans rfl
  have hf3 : w3.cell? ⟨gt, 3, none⟩ = some (.slice A0_3 l0_3.length c0_3) := (blk_cell HT3.out 3).trans rfl
  go_wp2_with (first | ((with_reducible refine gate_callee (f := 26) rfl ?_); refine goesL_ (some 8) rfl rfl Tryd.func26 (by kernel_rfl) rfl #[.pointer (some ⟨w2.heap.size, 0, none⟩), .agg #[.int .i64 a0_0, .int .i64 a0_1, .slice A0_2 l0_2.length c0_2, .slice A0_3 l0_3.length c0_3]] rfl la_ ?_; (refine (impl_writeTerm.calls k w w2.heap.size (⟨#[]⟩ : ByteArray) a0_0 a0_1 _ _ l0_2 _ _ l0_3 r _ HR2.out HC2.out HR3.out HC3.out ?side1 ?side2 HT0.out A7.out).mono ?_); (case side1 => first | exact HB3.out | exact pw_below_drewN HB3.out _); (case side2 => exact HI.out); rintro e w4 ⟨rfl, hco⟩; refine ⟨_, rfl, ?_⟩; have HCo := sd_ hco; clear hco) | ((with_reducible refine gate_callee (f := 27) rfl ?_); refine goesL_ (some 9) rfl rfl Tryd.func27 (by kernel_rfl) rfl #[.pointer (some ⟨w2.heap.size, 0, none⟩)] rfl la_ ?_; (refine (builder_string w.heap.size w2.heap.size r.data.toList _ ?side1 ?side2).mono ?_); (case side1 => exact HCo.out.i); (case side2 => exact HCo.out.b.size); rintro e w5 ⟨rfl, b1⟩; refine ⟨_, rfl, ?_⟩; have HB5 := sd_ (show Below w.heap.size w w5 from Below.trans (by first | exact HCo.out.b | exact pw_below_drewN HCo.out.b _) b1); clear b1))
  go_ret
  exact ⟨by first | rfl | (simp; done), by repeat (first | (with_reducible first | exact HB5.out | apply pw_below_drewN) | exact HB5.out)⟩
 replace c1 := Bool.eq_false_iff.mpr c1
 subst c1
 rw [if_neg (by decide)] at H1
 obtain rfl := Option.some.inj H1
 go_wp2
 go_ret
 exact ⟨by first | rfl | (simp; done), by repeat (first | (with_reducible first | exact HB.out | apply pw_below_drewN) | exact HB.out)⟩
end Go.Proofs.YtlhiacnmcckjgaaDoor.P
end

section
namespace Go.Proofs.YtlhiacnmcckjgaaDoor.P
open Go.RowKit Go.Proofs.YtlhiacnmcckjgaaDoorW.PrintWords Go.Proofs.YtlhiacnmcckjgaaDoorW.PrintLast Go.Proofs.YtlhiacnmcckjgaaDoorW.PrintMore
attribute [local go_sem] max2_int min2_int max_two min_two max_three min_three max_four min_four   -- for this text's walks alone
set_option linter.unusedVariables false
set_option linter.unusedSimpArgs false

/-! ### laws_FnExactFormatTerm: function 4 -/
def laws_FnExactFormatTerm.f (k : Nat) (a0_0 : Int) (a0_1 : Int) (l0_2 : List Int) (l0_3 : List (S29)) : Option (Bool) := (laws_szTerm.f k a0_0 a0_1 l0_2 l0_3 1048576).bind fun t271 => (if t271 < 0 then (some true) else ((laws_toTerm.f k a0_0 a0_1 l0_2 l0_3).bind fun bt272 => ((spec_FormatTerm.f k bt272.1 bt272.2.1 bt272.2.2.1 bt272.2.2.2).bind fun t280 => ((laws_toTerm.f k a0_0 a0_1 l0_2 l0_3).bind fun bt281 => ((impl_FormatTerm.f k bt281.1 bt281.2.1 bt281.2.2.1 bt281.2.2.2).bind fun t290 => (if t290.toList = t280.toList then ((laws_toTerm.f k a0_0 a0_1 l0_2 l0_3).bind fun bt291 => ((laws_eqTerm.f k bt281.1 bt281.2.1 bt281.2.2.1 bt281.2.2.2 bt291.1 bt291.2.1 bt291.2.2.1 bt291.2.2.2).bind fun t299 => (if t299 = true then (some true) else (some false)))) else (some false)))))))
set_option maxHeartbeats 8000000 in
set_option maxRecDepth 100000 in
theorem laws_FnExactFormatTerm.calls (k : Nat) (a0_0 : Int) (a0_1 : Int) (A0_2 : Option Addr) (c0_2 : Nat) (l0_2 : List Int) (A0_3 : Option Addr) (c0_3 : Nat) (l0_3 : List (S29)) (r : Bool) (w : World) (hr0_2 : Kd.C (Kd.int .i64) w A0_2 l0_2.length l0_2) (hc0_2 : l0_2.length ≤ c0_2) (hr0_3 : Kd.C k29 w A0_3 l0_3.length l0_3) (hc0_3 : l0_3.length ≤ c0_3) (hTab : Tabs w) (h : laws_FnExactFormatTerm.f k a0_0 a0_1 l0_2 l0_3 = some r) (hr_ : r = true) :
  Calls Tryd.prog 4 #[.agg #[.int .i64 a0_0, .int .i64 a0_1, .slice A0_2 l0_2.length c0_2, .slice A0_3 l0_3.length c0_3]] w fun e w' => e = .returned (.bool r) ∧ Below w.heap.size w w' := by
 have hu29 := Tryd.underlying29
 have hu34 := Tryd.underlying34
 have HR0_2 := sd_ hr0_2
 have HC0_2 := sd_ hc0_2
 clear hr0_2 hc0_2
 have HR0_3 := sd_ hr0_3
 have HC0_3 := sd_ hc0_3
 clear hr0_3 hc0_3
 have HTab := sd_ hTab
 clear hTab
 have HB := sd_ (Below.refl w.heap.size w)
 have H : ((laws_szTerm.f k a0_0 a0_1 l0_2 l0_3 1048576).bind fun t271 => (if t271 < 0 then (some true) else ((laws_toTerm.f k a0_0 a0_1 l0_2 l0_3).bind fun bt272 => ((spec_FormatTerm.f k bt272.1 bt272.2.1 bt272.2.2.1 bt272.2.2.2).bind fun t280 => ((laws_toTerm.f k a0_0 a0_1 l0_2 l0_3).bind fun bt281 => ((impl_FormatTerm.f k bt281.1 bt281.2.1 bt281.2.2.1 bt281.2.2.2).bind fun t290 => (if t290.toList = t280.toList then ((laws_toTerm.f k a0_0 a0_1 l0_2 l0_3).bind fun bt291 => ((laws_eqTerm.f k bt281.1 bt281.2.1 bt281.2.2.1 bt281.2.2.2 bt291.1 bt291.2.1 bt291.2.2.1 bt291.2.2.2).bind fun t299 => (if t299 = true then (some true) else (some false)))) else (some false)))))))) = some r := h
 clear h
 replace H := Option.bind_eq_some_iff.mp H
 obtain ⟨t271, A20, H⟩ := H
 try dsimp only at H
 have A2 := sd_ A20
 clear A20
 by_cases c3 : t271 < 0
 ·rw [if_pos c3] at H
  have c3b0 : decide (t271 < 0) = true := decide_eq_true c3
  clear c3
  obtain rfl := Option.some.inj H
  go_enter Tryd.func4, Tryd.ntmps4
  go_wp2_with (first | ((with_reducible refine gate_dst (N := 1) rfl ?_); refine bx_ (N := 1) (cs := #[.int .i64 a0_0, .int .i64 a0_1, .slice A0_2 l0_2.length c0_2, .slice A0_3 l0_3.length c0_3]) (t := 29) ?_; intro gb270 hg w4 hbox hb; have BK270 := sd_ (hbox); have GW270 := sd_ (gs_ hg (bw0_ HB.out)); have GE270 := sd_ (gs_ hg (bw0_ HB.out)); replace HB := sd_ (below_step (bw0_ HB.out) hb); clear hb hbox hg; obtain ⟨hcz5_0, hcz5_1, hcz5_2, hcz5_3, hfz5_0, hfz5_1, hfz5_2, hfz5_3⟩ := bf4_ BK270.out) | ((with_reducible refine gate_callee (f := 9) rfl ?_); refine goesL_ (some 9) rfl rfl Tryd.func9 (by kernel_rfl) rfl #[.agg #[.int .i64 a0_0, .int .i64 a0_1, .slice A0_2 l0_2.length c0_2, .slice A0_3 l0_3.length c0_3], .int .i64 1048576] rfl la_ ?_; (with_reducible refine (laws_szTerm.calls k a0_0 a0_1 _ _ l0_2 _ _ l0_3 1048576 t271 _ (kc_ HR0_2.out HB.out) HC0_2.out (kc_ HR0_3.out HB.out) HC0_3.out A2.out).mono ?_); rintro e w6 ⟨rfl, hb⟩; refine ⟨_, rfl, ?_⟩; replace BK270 := sd_ (bb_ BK270.out hb); replace HB := sd_ (below_step (bw1_ HB.out GE270.out) hb); (try clear hb)))
  go_ret
  exact ⟨an_, bw1_ HB.out GE270.out⟩
 rw [if_neg c3] at H
 have c3b0 : decide (t271 < 0) = false := decide_eq_false c3
 clear c3
 replace H := Option.bind_eq_some_iff.mp H
 obtain ⟨⟨t272, t273, t274, t277⟩, A70, H⟩ := H
 try dsimp only at H
 have A7 := sd_ A70
 clear A70
 replace H := Option.bind_eq_some_iff.mp H
 obtain ⟨t280, A80, H⟩ := H
 try dsimp only at H
 have A8 := sd_ A80
 clear A80
 replace H := Option.bind_eq_some_iff.mp H
 obtain ⟨⟨t281, t282, t283, t286⟩, A90, H⟩ := H
 try dsimp only at H
 have A9 := sd_ A90
 clear A90
 replace H := Option.bind_eq_some_iff.mp H
 obtain ⟨t290, A100, H⟩ := H
 try dsimp only at H
 have A10 := sd_ A100
 clear A100
 by_cases c11 : t290.toList = t280.toList
 ·rw [if_pos c11] at H
  have c11b0 : (t290.toList == t280.toList) = true := beq_iff_eq.mpr c11
  have c11b1 : (t290.toList != t280.toList) = false := bne_eq_false_iff_eq.mpr c11
  clear c11
  replace H := Option.bind_eq_some_iff.mp H
  obtain ⟨⟨t291, t292, t293, t296⟩, A120, H⟩ := H
  try dsimp only at H
  have A12 := sd_ A120
  clear A120
  replace H := Option.bind_eq_some_iff.mp H
  obtain ⟨t299, A130, H⟩ := H
  try dsimp only at H
  have A13 := sd_ A130
  clear A130
  by_cases c14 : t299 = true
  ·subst c14
   have H1 : (some true) = some r := by rw [if_pos rfl] at H; exact H
   clear H
   have H := H1
   clear H1
   obtain rfl := Option.some.inj H
   go_enter Tryd.func4, Tryd.ntmps4
   try go_wp2_with (first | ((with_reducible refine gate_dst (N := 1) rfl ?_); refine bx_ (N := 1) (cs := #[.int .i64 a0_0, .int .i64 a0_1, .slice A0_2 l0_2.length c0_2, .slice A0_3 l0_3.length c0_3]) (t := 29) ?_; intro gb270 hg w15 hbox hb; have BK270 := sd_ (hbox); have GW270 := sd_ (gs_ hg (bw0_ HB.out)); have GE270 := sd_ (gs_ hg (bw0_ HB.out)); replace HB := sd_ (below_step (bw0_ HB.out) hb); clear hb hbox hg; obtain ⟨hcz16_0, hcz16_1, hcz16_2, hcz16_3, hfz16_0, hfz16_1, hfz16_2, hfz16_3⟩ := bf4_ BK270.out) | ((with_reducible refine gate_callee (f := 9) rfl ?_); refine goesL_ (some 9) rfl rfl Tryd.func9 (by kernel_rfl) rfl #[.agg #[.int .i64 a0_0, .int .i64 a0_1, .slice A0_2 l0_2.length c0_2, .slice A0_3 l0_3.length c0_3], .int .i64 1048576] rfl la_ ?_; (with_reducible refine (laws_szTerm.calls k a0_0 a0_1 _ _ l0_2 _ _ l0_3 1048576 t271 _ (kc_ HR0_2.out HB.out) HC0_2.out (kc_ HR0_3.out HB.out) HC0_3.out A2.out).mono ?_); rintro e w17 ⟨rfl, hb⟩; refine ⟨_, rfl, ?_⟩; replace BK270 := sd_ (bb_ BK270.out hb); replace HB := sd_ (below_step (bw1_ HB.out GE270.out) hb); (try clear hb); obtain ⟨hcz18_0, hcz18_1, hcz18_2, hcz18_3, hfz18_0, hfz18_1, hfz18_2, hfz18_3⟩ := bf4_ BK270.out) | ((with_reducible refine gate_callee (f := 11) rfl ?_); refine goesL_ (some 13) rfl rfl Tryd.func11 (by kernel_rfl) rfl #[.agg #[.int .i64 a0_0, .int .i64 a0_1, .slice A0_2 l0_2.length c0_2, .slice A0_3 l0_3.length c0_3]] rfl la_ ?_; (with_reducible refine (laws_toTerm.calls k a0_0 a0_1 _ _ l0_2 _ _ l0_3 t272 t273 t274 t277 _ (kc_ HR0_2.out HB.out) HC0_2.out (kc_ HR0_3.out HB.out) HC0_3.out A7.out).mono ?_); rintro e w19 ⟨v275, v278, rfl, ho0, ho1, hb⟩; refine ⟨_, rfl, ?_⟩; have HO276 := sd_ (Kd.R_lower ho0 (below_size (bw1_ HB.out GE270.out))); have HO279 := sd_ (Kd.R_lower ho1 (below_size (bw1_ HB.out GE270.out))); replace BK270 := sd_ (bb_ BK270.out hb); replace HB := sd_ (below_step (bw1_ HB.out GE270.out) hb); (try clear hb); (try clear ho0); (try clear ho1); obtain ⟨Ao20, co20, eo20⟩ := Kd.R_slice HO276.out; subst eo20; obtain ⟨Ao21, co21, eo21⟩ := Kd.R_slice HO279.out; subst eo21) | ((with_reducible refine gate_callee (f := 10) rfl ?_); refine goesL_ (some 14) rfl rfl Tryd.func10 (by kernel_rfl) rfl #[.agg #[.int .i64 t272, .int .i64 t273, .slice Ao20 t274.length co20, .slice Ao21 t277.length co21]] rfl la_ ?_; (with_reducible refine (spec_FormatTerm.calls k t272 t273 _ _ t274 _ _ t277 t280 _ ?side1 ?side2 ?side3 ?side4 A8.out).mono ?_); (case side1 => exact kp_ (Kd.R_reads' HO276.out).2.2); (case side2 => exact (Kd.R_reads' HO276.out).2.1); (case side3 => exact kp_ (Kd.R_reads' HO279.out).2.2); (case side4 => exact (Kd.R_reads' HO279.out).2.1); rintro e w22 ⟨rfl, hb⟩; refine ⟨_, rfl, ?_⟩; replace HO276 := sd_ (Kd.R_below (ro_ HO276.out) hb); replace HO279 := sd_ (Kd.R_below (ro_ HO279.out) hb); replace BK270 := sd_ (bb_ BK270.out hb); replace HB := sd_ (below_step (bw1_ HB.out GE270.out) hb); (try clear hb); obtain ⟨hcz23_0, hcz23_1, hcz23_2, hcz23_3, hfz23_0, hfz23_1, hfz23_2, hfz23_3⟩ := bf4_ BK270.out) | ((with_reducible refine gate_callee (f := 11) rfl ?_); refine goesL_ (some 16) rfl rfl Tryd.func11 (by kernel_rfl) rfl #[.agg #[.int .i64 a0_0, .int .i64 a0_1, .slice A0_2 l0_2.length c0_2, .slice A0_3 l0_3.length c0_3]] rfl la_ ?_; (with_reducible refine (laws_toTerm.calls k a0_0 a0_1 _ _ l0_2 _ _ l0_3 t281 t282 t283 t286 _ (kc_ HR0_2.out HB.out) HC0_2.out (kc_ HR0_3.out HB.out) HC0_3.out A9.out).mono ?_); rintro e w24 ⟨v284, v287, rfl, ho0, ho1, hb⟩; refine ⟨_, rfl, ?_⟩; have HO285 := sd_ (Kd.R_lower (Kd.R_new' ho0 (Kd.R_lt (ro_ HO276.out))) (below_size (bw1_ HB.out GE270.out))); have HO288 := sd_ (Kd.R_lower (Kd.R_new' (Kd.R_new' ho1 (Kd.R_lt (ro_ HO276.out))) (Kd.R_lt (ro_ HO279.out))) (below_size (bw1_ HB.out GE270.out))); replace HO276 := sd_ (Kd.R_elder' (ro_ HO276.out) (Kd.R_base ho0) hb); replace HO279 := sd_ (Kd.R_mono (Kd.R_told (Kd.R_told (Kd.R_old (ro_ HO279.out) hb) (Kd.R_base ho0)) (Kd.R_base ho1)) (fun _ h_ => h_.1)); replace BK270 := sd_ (bb_ BK270.out hb); replace HB := sd_ (below_step (bw1_ HB.out GE270.out) hb); (try clear hb); (try clear ho0); (try clear ho1)) | ((with_reducible refine gate_dst (N := 5) rfl ?_); refine bx_ (N := 5) (cs := #[.int .i64 0, .int .i64 0, .slice none 0 0, .slice none 0 0]) (t := 34) ?_; intro gb289 hg w25 hbox hb; replace HO276 := sd_ (Kd.R_below (ro_ HO276.out) hb); replace HO279 := sd_ (Kd.R_below (Kd.R_elderB (ro_ HO279.out) gb289 (Nat.le_of_eq hg.symm)) hb); replace HO285 := sd_ (Kd.R_below (ro_ HO285.out) hb); replace HO288 := sd_ (Kd.R_below (Kd.R_elderB (ro_ HO288.out) gb289 (Nat.le_of_eq hg.symm)) hb); have BK289 := sd_ (hbox); have GW289 := sd_ (gs_ hg (bw1_ HB.out GE270.out)); have GE289 := sd_ (gs_ hg (bw1_ HB.out GE270.out)); replace HB := sd_ (below_step (bw1_ HB.out GE270.out) hb); have NB270_289 := sd_ (nl_ hg (bl_ BK270.out)); have NB289_270 := sd_ (ng_ hg (bl_ BK270.out)); replace BK270 := sd_ (bb_ BK270.out hb); clear hb hbox hg; have hnb26 := NB289_270.out; have hnc26 := NB270_289.out; obtain ⟨hcz27_0, hcz27_1, hcz27_2, hcz27_3, hfz27_0, hfz27_1, hfz27_2, hfz27_3⟩ := bf4_ BK289.out; obtain ⟨Ao28, co28, eo28⟩ := Kd.R_slice HO285.out; subst eo28; obtain ⟨Ao29, co29, eo29⟩ := Kd.R_slice HO288.out; subst eo29) | ((with_reducible refine gate_callee (f := 12) rfl ?_); refine goesL_ (some 18) rfl rfl Tryd.func12 (by kernel_rfl) rfl #[.agg #[.int .i64 t281, .int .i64 t282, .slice Ao28 t283.length co28, .slice Ao29 t286.length co29]] rfl la_ ?_; (with_reducible refine (impl_FormatTerm.calls k t281 t282 _ _ t283 _ _ t286 t290 _ ?side1 ?side2 ?side3 ?side4 A10.out ?sideT).mono ?_); (case sideT => exact Tabs.below HTab.out (bw2_ HB.out GE270.out GE289.out)); (case side1 => refine (Kd.R_reads' (e := 3) (base := w.heap.size) (ok := fun k_ => (True ∧ some k_ ≠ (.slice Ao20 t274.length co20 : Value).ownBlock)) (A := Ao28) (n := t283.length) (c := co28) ?_).2.2; exact (by (with_reducible repeat (first | apply Kd.R_alloc | apply Kd.R_drewN | apply Kd.R_drew)); exact (Kd.R_mono (Kd.R_far (p := ⟨gb289, 3, none⟩) (Kd.R_far (p := ⟨gb289, 2, none⟩) (Kd.R_far (p := ⟨gb289, 1, none⟩) (Kd.R_far (p := ⟨gb289, 0, none⟩) (Kd.R_types HO285.out BK289.out (by decide)) (fun _ hk => hk.2) (.int .i64 t281)) (fun _ hk => hk.2) (.int .i64 t282)) (fun _ hk => hk.2) (.slice Ao28 t283.length co28)) (fun _ hk => hk.2) (.slice Ao29 t286.length co29)) (fun _ h_ => h_.1)))); (case side2 => exact (Kd.R_reads' HO285.out).2.1); (case side3 => refine (Kd.R_reads' (e := 34) (base := w.heap.size) (ok := fun k_ => (((some k_ ≠ (.slice Ao28 t283.length co28 : Value).ownBlock ∧ some k_ ≠ (.slice Ao20 t274.length co20 : Value).ownBlock) ∧ some k_ ≠ (.slice Ao21 t277.length co21 : Value).ownBlock) ∧ k_ ≠ gb289)) (A := Ao29) (n := t286.length) (c := co29) ?_).2.2; exact (by (with_reducible repeat (first | apply Kd.R_alloc | apply Kd.R_drewN | apply Kd.R_drew)); exact (Kd.R_mono (Kd.R_far (p := ⟨gb289, 3, none⟩) (Kd.R_far (p := ⟨gb289, 2, none⟩) (Kd.R_far (p := ⟨gb289, 1, none⟩) (Kd.R_far (p := ⟨gb289, 0, none⟩) (Kd.R_mono HO288.out (fun k_ hk => (⟨hk, hk.2⟩ : _ ∧ k_ ≠ gb289))) (fun _ hk => hk.2) (.int .i64 t281)) (fun _ hk => hk.2) (.int .i64 t282)) (fun _ hk => hk.2) (.slice Ao28 t283.length co28)) (fun _ hk => hk.2) (.slice Ao29 t286.length co29)) (fun _ h_ => h_.1)))); (case side4 => exact (Kd.R_reads' HO288.out).2.1); rintro e w30 ⟨rfl, hb⟩; refine ⟨_, rfl, ?_⟩; replace HO276 := sd_ (Kd.R_below (by (with_reducible repeat (first | apply Kd.R_alloc | apply Kd.R_drewN | apply Kd.R_drew)); exact (Kd.R_mono (Kd.R_far (p := ⟨gb289, 3, none⟩) (Kd.R_far (p := ⟨gb289, 2, none⟩) (Kd.R_far (p := ⟨gb289, 1, none⟩) (Kd.R_far (p := ⟨gb289, 0, none⟩) (Kd.R_types HO276.out BK289.out (by decide)) (fun _ hk => hk.2) (.int .i64 t281)) (fun _ hk => hk.2) (.int .i64 t282)) (fun _ hk => hk.2) (.slice Ao28 t283.length co28)) (fun _ hk => hk.2) (.slice Ao29 t286.length co29)) (fun _ h_ => h_.1))) hb); replace HO279 := sd_ (Kd.R_below (by (with_reducible repeat (first | apply Kd.R_alloc | apply Kd.R_drewN | apply Kd.R_drew)); exact (Kd.R_mono (Kd.R_far (p := ⟨gb289, 3, none⟩) (Kd.R_far (p := ⟨gb289, 2, none⟩) (Kd.R_far (p := ⟨gb289, 1, none⟩) (Kd.R_far (p := ⟨gb289, 0, none⟩) (Kd.R_mono HO279.out (fun k_ hk => (⟨hk, hk.2⟩ : _ ∧ k_ ≠ gb289))) (fun _ hk => hk.2) (.int .i64 t281)) (fun _ hk => hk.2) (.int .i64 t282)) (fun _ hk => hk.2) (.slice Ao28 t283.length co28)) (fun _ hk => hk.2) (.slice Ao29 t286.length co29)) (fun _ h_ => h_.1))) hb); replace HO285 := sd_ (Kd.R_below (by (with_reducible repeat (first | apply Kd.R_alloc | apply Kd.R_drewN | apply Kd.R_drew)); exact (Kd.R_mono (Kd.R_far (p := ⟨gb289, 3, none⟩) (Kd.R_far (p := ⟨gb289, 2, none⟩) (Kd.R_far (p := ⟨gb289, 1, none⟩) (Kd.R_far (p := ⟨gb289, 0, none⟩) (Kd.R_types HO285.out BK289.out (by decide)) (fun _ hk => hk.2) (.int .i64 t281)) (fun _ hk => hk.2) (.int .i64 t282)) (fun _ hk => hk.2) (.slice Ao28 t283.length co28)) (fun _ hk => hk.2) (.slice Ao29 t286.length co29)) (fun _ h_ => h_.1))) hb); replace HO288 := sd_ (Kd.R_below (by (with_reducible repeat (first | apply Kd.R_alloc | apply Kd.R_drewN | apply Kd.R_drew)); exact (Kd.R_mono (Kd.R_far (p := ⟨gb289, 3, none⟩) (Kd.R_far (p := ⟨gb289, 2, none⟩) (Kd.R_far (p := ⟨gb289, 1, none⟩) (Kd.R_far (p := ⟨gb289, 0, none⟩) (Kd.R_mono HO288.out (fun k_ hk => (⟨hk, hk.2⟩ : _ ∧ k_ ≠ gb289))) (fun _ hk => hk.2) (.int .i64 t281)) (fun _ hk => hk.2) (.int .i64 t282)) (fun _ hk => hk.2) (.slice Ao28 t283.length co28)) (fun _ hk => hk.2) (.slice Ao29 t286.length co29)) (fun _ h_ => h_.1))) hb); replace BK270 := sd_ (blk_below (g := gb270) (o := .cells #[.int .i64 a0_0, .int .i64 a0_1, .slice A0_2 l0_2.length c0_2, .slice A0_3 l0_3.length c0_3] 29 (0, 0)) (by (with_reducible repeat (first | refine blk_drewN ?_ _ | refine blk_drew ?_ | refine blk_alloc ?_ _)); refine blk_far ?_ NB270_289.out _; (with_reducible repeat (first | refine blk_drewN ?_ _ | refine blk_drew ?_ | refine blk_alloc ?_ _)); refine blk_far ?_ NB270_289.out _; (with_reducible repeat (first | refine blk_drewN ?_ _ | refine blk_drew ?_ | refine blk_alloc ?_ _)); refine blk_far ?_ NB270_289.out _; (with_reducible repeat (first | refine blk_drewN ?_ _ | refine blk_drew ?_ | refine blk_alloc ?_ _)); refine blk_far ?_ NB270_289.out _; (with_reducible repeat (first | refine blk_drewN ?_ _ | refine blk_drew ?_ | refine blk_alloc ?_ _)); exact BK270.out) hb); replace BK289 := sd_ (blk_below (g := gb289) (o := .cells #[.int .i64 t281, .int .i64 t282, .slice Ao28 t283.length co28, .slice Ao29 t286.length co29] 34 (0, 0)) (by (with_reducible repeat (first | refine blk_drewN ?_ _ | refine blk_drew ?_ | refine blk_alloc ?_ _)); refine blk_put (cs := #[.int .i64 t281, .int .i64 t282, .slice Ao28 t283.length co28, .slice none 0 0]) ?_ 3 _ rfl; (with_reducible repeat (first | refine blk_drewN ?_ _ | refine blk_drew ?_ | refine blk_alloc ?_ _)); refine blk_put (cs := #[.int .i64 t281, .int .i64 t282, .slice none 0 0, .slice none 0 0]) ?_ 2 _ rfl; (with_reducible repeat (first | refine blk_drewN ?_ _ | refine blk_drew ?_ | refine blk_alloc ?_ _)); refine blk_put (cs := #[.int .i64 t281, .int .i64 0, .slice none 0 0, .slice none 0 0]) ?_ 1 _ rfl; (with_reducible repeat (first | refine blk_drewN ?_ _ | refine blk_drew ?_ | refine blk_alloc ?_ _)); refine blk_put (cs := #[.int .i64 0, .int .i64 0, .slice none 0 0, .slice none 0 0]) ?_ 0 _ rfl; exact bz_ BK289.out) hb); replace HB := sd_ (below_step (bw2_ HB.out GE270.out GE289.out) hb); (try clear hb)))
   replace HO276 := sd_ (Kd.R_drew HO276.out)
   replace HO279 := sd_ (Kd.R_drew HO279.out)
   replace HO285 := sd_ (Kd.R_drew HO285.out)
   replace HO288 := sd_ (Kd.R_drew HO288.out)
   replace BK270 := sd_ (blk_drew BK270.out)
   replace BK289 := sd_ (blk_drew BK289.out)
   replace HB := sd_ (below_drew1 HB.out)
   refine start_ (n := 5) (S := fun w' => w'.cell? ⟨gb289, 0, none⟩ = some (.int .i64 t281) ∧ w'.cell? ⟨gb289, 1, none⟩ = some (.int .i64 t282) ∧ w'.cell? ⟨gb289, 2, none⟩ = some (.slice Ao28 t283.length co28) ∧ w'.cell? ⟨gb289, 3, none⟩ = some (.slice Ao29 t286.length co29) ∧ w'.cell? ⟨gb270, 0, none⟩ = some (.int .i64 a0_0) ∧ w'.cell? ⟨gb270, 1, none⟩ = some (.int .i64 a0_1) ∧ w'.cell? ⟨gb270, 2, none⟩ = some (.slice A0_2 l0_2.length c0_2) ∧ w'.cell? ⟨gb270, 3, none⟩ = some (.slice A0_3 l0_3.length c0_3)) (ds := []) #[false, false, false, false, false] (by kernel_rfl) rfl rfl ⟨(blk_cell BK289.out 0).trans rfl, (blk_cell BK289.out 1).trans rfl, (blk_cell BK289.out 2).trans rfl, (blk_cell BK289.out 3).trans rfl, (blk_cell BK270.out 0).trans rfl, (blk_cell BK270.out 1).trans rfl, (blk_cell BK270.out 2).trans rfl, (blk_cell BK270.out 3).trans rfl⟩ (fun hHeld => ?_)
   generalize w30.drew = w31 at HO276 HO279 HO285 HO288 BK270 BK289 HB hHeld ⊢
   refine take_ (i := 0) (N := some 22) (v := ?_) (a' := ?_) #[true, false, false, false, false] rfl rfl (by kernel_rfl) (fun _ _ _ h => h) (Or.inl ⟨by rfl, ?_⟩) hHeld ?_ ?_
   rotate_left
   ·rintro w' ⟨s0, s1, s2, s3, s4, s5, s6, s7⟩
    go_simp
    with_reducible rfl
   rotate_left
   ·simp only [Act.put, List.setIfInBounds_toArray, List.set_cons_zero, List.set_cons_succ, i64_w, i32_w]
    rfl
   refine take_ (i := 1) (N := some 23) (v := ?_) (a' := ?_) #[true, true, false, false, false] rfl rfl (by kernel_rfl) (fun _ _ _ h => h) (Or.inl ⟨by rfl, ?_⟩) hHeld ?_ ?_
   rotate_left
   ·rintro w' ⟨s0, s1, s2, s3, s4, s5, s6, s7⟩
    go_simp
    with_reducible rfl
   rotate_left
   ·simp only [Act.put, List.setIfInBounds_toArray, List.set_cons_zero, List.set_cons_succ, i64_w, i32_w]
    rfl
   refine one_ (i := 2) (N := some 24) #[true, true, true, false, false] rfl rfl (by kernel_rfl) (by decide) (fun K hK => ?_)
   refine goes_ Tryd.func11 (by kernel_rfl) rfl #[.agg #[.int .i64 a0_0, .int .i64 a0_1, .slice A0_2 l0_2.length c0_2, .slice A0_3 l0_3.length c0_3]] (by rfl) rfl rfl la_ ?_
   with_reducible refine (laws_toTerm.calls k a0_0 a0_1 _ _ l0_2 _ _ l0_3 t291 t292 t293 t296 _ ?side1 ?side2 ?side3 ?side4 A12.out).mono ?_
   (case side1 => exact kc_ HR0_2.out HB.out)
   (case side2 => exact HC0_2.out)
   (case side3 => exact kc_ HR0_3.out HB.out)
   (case side4 => exact HC0_3.out)
   rintro e w32 ⟨v294, v297, rfl, ho0, ho1, hb⟩
   refine ⟨_, rfl, ?_⟩
   have HO295 := sd_ (Kd.R_lower (Kd.R_new' (Kd.R_new' ho0 (Kd.R_lt (ro_ HO276.out))) (Kd.R_lt (ro_ HO285.out))) (below_size (bw2_ HB.out GE270.out GE289.out)))
   have HO298 := sd_ (Kd.R_lower (Kd.R_newB (Kd.R_new' (Kd.R_new' (Kd.R_new' (Kd.R_new' ho1 (Kd.R_lt (ro_ HO276.out))) (Kd.R_lt (ro_ HO279.out))) (Kd.R_lt (ro_ HO285.out))) (Kd.R_lt (ro_ HO288.out))) (g := gb289) (o := .cells #[.int .i64 t281, .int .i64 t282, .slice Ao28 t283.length co28, .slice Ao29 t286.length co29] 34 (0, 0)) (bz_ BK289.out)) (below_size (bw2_ HB.out GE270.out GE289.out)))
   replace HO276 := sd_ (Kd.R_elder' (ro_ HO276.out) (Kd.R_base ho0) hb)
   replace HO279 := sd_ (Kd.R_mono (Kd.R_told (Kd.R_told (Kd.R_old (ro_ HO279.out) hb) (Kd.R_base ho0)) (Kd.R_base ho1)) (fun _ h_ => h_.1))
   replace HO285 := sd_ (Kd.R_elder' (ro_ HO285.out) (Kd.R_base ho0) hb)
   replace HO288 := sd_ (Kd.R_mono (Kd.R_told (Kd.R_told (Kd.R_old (ro_ HO288.out) hb) (Kd.R_base ho0)) (Kd.R_base ho1)) (fun _ h_ => h_.1))
   replace BK270 := sd_ (bb_ BK270.out hb)
   replace BK289 := sd_ (bb_ BK289.out hb)
   replace HB := sd_ (below_step (bw2_ HB.out GE270.out GE289.out) hb)
   (try clear hb)
   (try clear hb2)
   (try clear hk)
   (try clear hi)
   (try clear ho0)
   (try clear ho1)
   obtain ⟨Ao33, co33, eo33⟩ := Kd.R_slice HO295.out
   (first | subst eo33 | (injection eo33 with f1_ f2_ f3_; have f4_ := f1_.symm; have f5_ := f3_.symm; clear f1_ f2_ f3_; subst f4_; subst f5_))
   obtain ⟨Ao34, co34, eo34⟩ := Kd.R_slice HO298.out
   (first | subst eo34 | (injection eo34 with f1_ f2_ f3_; have f4_ := f1_.symm; have f5_ := f3_.symm; clear f1_ f2_ f3_; subst f4_; subst f5_))
   refine hK.out _ _ ⟨(blk_cell BK289.out 0).trans rfl, (blk_cell BK289.out 1).trans rfl, (blk_cell BK289.out 2).trans rfl, (blk_cell BK289.out 3).trans rfl, (blk_cell BK270.out 0).trans rfl, (blk_cell BK270.out 1).trans rfl, (blk_cell BK270.out 2).trans rfl, (blk_cell BK270.out 3).trans rfl⟩ (fun hHeld => ?_)
   clear hK K
   refine norm_ (a' := ?_) ?_ ?_
   rotate_left
   ·show Act.put _ (some 24) _ = _
    simp only [Act.put, List.setIfInBounds_toArray, List.set_cons_zero, List.set_cons_succ, i64_w, i32_w]
    rfl
   refine one_ (i := 3) (N := some 25) #[true, true, true, true, false] rfl rfl (by kernel_rfl) (by decide) (fun K hK => ?_)
   refine goes_ Tryd.func13 (by kernel_rfl) rfl #[.agg #[.int .i64 t281, .int .i64 t282, .slice Ao28 t283.length co28, .slice Ao29 t286.length co29], .agg #[.int .i64 t291, .int .i64 t292, .slice Ao33 t293.length co33, .slice Ao34 t296.length co34]] (by rfl) rfl rfl la_ ?_
   with_reducible refine (laws_eqTerm.calls k t281 t282 _ _ t283 _ _ t286 t291 t292 _ _ t293 _ _ t296 true _ ?side1 ?side2 ?side3 ?side4 ?side5 ?side6 ?side7 ?side8 A13.out).mono ?_
   (case side1 => exact kp_ (Kd.R_reads' HO285.out).2.2)
   (case side2 => exact (Kd.R_reads' HO285.out).2.1)
   (case side3 => exact kp_ (Kd.R_reads' HO288.out).2.2)
   (case side4 => exact (Kd.R_reads' HO288.out).2.1)
   (case side5 => exact kp_ (Kd.R_reads' HO295.out).2.2)
   (case side6 => exact (Kd.R_reads' HO295.out).2.1)
   (case side7 => exact kp_ (Kd.R_reads' HO298.out).2.2)
   (case side8 => exact (Kd.R_reads' HO298.out).2.1)
   rintro e w35 ⟨rfl, hb⟩
   refine ⟨_, rfl, ?_⟩
   replace HO276 := sd_ (Kd.R_below (ro_ HO276.out) hb)
   replace HO279 := sd_ (Kd.R_below (ro_ HO279.out) hb)
   replace HO285 := sd_ (Kd.R_below (ro_ HO285.out) hb)
   replace HO288 := sd_ (Kd.R_below (ro_ HO288.out) hb)
   replace HO295 := sd_ (Kd.R_below (ro_ HO295.out) hb)
   replace HO298 := sd_ (Kd.R_below (ro_ HO298.out) hb)
   replace BK270 := sd_ (bb_ BK270.out hb)
   replace BK289 := sd_ (bb_ BK289.out hb)
   replace HB := sd_ (below_step (bw2_ HB.out GE270.out GE289.out) hb)
   (try clear hb)
   (try clear hb2)
   (try clear hk)
   (try clear hi)
   refine hK.out _ _ ⟨(blk_cell BK289.out 0).trans rfl, (blk_cell BK289.out 1).trans rfl, (blk_cell BK289.out 2).trans rfl, (blk_cell BK289.out 3).trans rfl, (blk_cell BK270.out 0).trans rfl, (blk_cell BK270.out 1).trans rfl, (blk_cell BK270.out 2).trans rfl, (blk_cell BK270.out 3).trans rfl⟩ (fun hHeld => ?_)
   clear hK K
   refine norm_ (a' := ?_) ?_ ?_
   rotate_left
   ·show Act.put _ (some 25) _ = _
    simp only [Act.put, List.setIfInBounds_toArray, List.set_cons_zero, List.set_cons_succ, i64_w, i32_w]
    rfl
   refine pure_ (i := 4) (N := some 26) (v := ?_) (a' := ?_) #[true, true, true, true, true] rfl rfl (by kernel_rfl) (fun _ _ _ h => h) (Or.inl ⟨by rfl, ?_⟩) ?_ ?_
   rotate_left
   ·intro w'
    go_simp
    with_reducible rfl
   rotate_left
   ·simp only [Act.put, List.setIfInBounds_toArray, List.set_cons_zero, List.set_cons_succ, i64_w, i32_w]
    rfl
   refine done_ (by kernel_rfl) ?_
   try go_wp2
   go_ret
   exact ⟨an_, bw2_ HB.out GE270.out GE289.out⟩
  replace c14 := Bool.eq_false_iff.mpr c14
  subst c14
  have H1 : (some false) = some r := by rw [if_neg (show ¬ (false = true) by decide)] at H; exact H
  clear H
  have H := H1
  clear H1
  obtain rfl := Option.some.inj H
  exact absurd hr_ (by decide)
 rw [if_neg c11] at H
 have c11b0 : (t290.toList == t280.toList) = false := beq_eq_false_iff_ne.mpr c11
 have c11b1 : (t290.toList != t280.toList) = true := bne_iff_ne.mpr c11
 obtain rfl := Option.some.inj H
 exact absurd hr_ (by decide)

def laws_FnExactFormatTerm.Pure : Prop := ∀ (a0_0 : Int) (a0_1 : Int) (l0_2 : List Int) (l0_3 : List (S29)), (Lit.int .i64 a0_0).wf = true → (Lit.int .i64 a0_1).wf = true → ((∀ z ∈ l0_2, (Lit.int .i64 z).wf = true) ∧ l0_2.length ≤ maxLen) → ((∀ z ∈ l0_3, Wf29 z) ∧ l0_3.length ≤ maxLen) → ∃ k, laws_FnExactFormatTerm.f k a0_0 a0_1 l0_2 l0_3 = some true

end Go.Proofs.YtlhiacnmcckjgaaDoor.P
end

section
/- FnExactFormatTerm: the pure statement. -/
set_option linter.unusedSimpArgs false
set_option linter.unusedVariables false
namespace Go.Proofs.YtlhiacnmcckjgaaDoor.Pure
open Go.RowKit Go.Proofs.YtlhiacnmcckjgaaDoor.P Go.Proofs.YtlhiacnmcckjgaaDoorW.PrintWords Go.Proofs.YtlhiacnmcckjgaaDoorW.PrintLast
theorem FnExactFormatTerm : laws_FnExactFormatTerm.Pure := by
  intro p0 p1 p2 p3  h0 h1 h2 h3 
  refine evRounds ?_
  unfold laws_FnExactFormatTerm.f
  have hw : Wf29 ⟨p0, p1, p2, p3⟩ := .mk _ _ _ _ h0 h1 h2 h3.1 h3.2
  obtain ⟨s, es, s1, s2, s3⟩ := szTermE ⟨p0, p1, p2, p3⟩ hw 1048576 (by decide) (by decide)
  refine Ev.bind es ?_
  by_cases c : s < 0
  · simp only [if_pos c]; exact Ev.now _
  · simp only [if_neg c]
    have hs := s3 (by omega)
    have tt := toTermE ⟨p0, p1, p2, p3⟩ hs
    have te := eqTermE _ hs
    generalize conv ⟨p0, p1, p2, p3⟩ = x at hs tt te
    obtain ⟨v, hv0, hv1, hv2, hv3⟩ := writtenBoth x hs
    have hb : v = true → ∃ u, OneText x u := fun hv => textBoth x hs 8 (hv0 hv) (by decide) (by have := hv3 hv; omega)
    have hi : Ev (fun k => impl_IsWritten.f k x.f0 x.f1 x.f2 x.f3) v := by
      unfold impl_IsWritten.f
      refine Ev.bind hv2 ?_
      cases v
      · simpa using Ev.now false
      · simp only [if_true, decide_eq_true (show (nodes x : Int) ≤ 400 by have := hv3 rfl; omega)]
        exact Ev.now _
    obtain ⟨u, hu1, hu2⟩ : ∃ u, Ev (fun k => spec_FormatTerm.f k x.f0 x.f1 x.f2 x.f3) u ∧ Ev (fun k => impl_FormatTerm.f k x.f0 x.f1 x.f2 x.f3) u := by
      unfold spec_FormatTerm.f impl_FormatTerm.f
      cases v
      · exact ⟨(⟨#[]⟩ : ByteArray), Ev.bind hv1 (by simpa using Ev.now (⟨#[]⟩ : ByteArray)), Ev.bind hi (by simpa using Ev.now (⟨#[]⟩ : ByteArray))⟩
      · obtain ⟨u, h1, h2, h3⟩ := hb rfl
        have h4 := h3 (⟨#[]⟩ : ByteArray) (by have := hv3 rfl; show 0 + _ ≤ _; omega)
        rw [app_nil] at h4
        refine ⟨u, Ev.bind hv1 ?_, Ev.bind hi ?_⟩
        · simp only [if_true, Option.bind_fun_some]; exact h2
        · simp only [if_true]; exact h4
    refine Ev.bind tt ?_
    refine Ev.bind hu1 ?_
    refine Ev.bind tt ?_
    refine Ev.bind hu2 ?_
    simp only [bne_self_eq_false, Bool.false_eq_true, if_false, if_true, eq_self]
    refine Ev.bind tt ?_
    refine Ev.bind te ?_
    simp only [if_true]
    exact Ev.now _
end Go.Proofs.YtlhiacnmcckjgaaDoor.Pure
end
