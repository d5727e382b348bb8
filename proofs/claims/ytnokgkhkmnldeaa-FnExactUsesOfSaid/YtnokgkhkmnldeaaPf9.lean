-- Printed by this session's own program (wip/tools/mkprint.py) out of the translation. Not trusted: Lean checks it.
import Derived.Test.YtnokgkhkmnldeaaP0
import Derived.Test.YtnokgkhkmnldeaaPf31
import Derived.Test.YtnokgkhkmnldeaaPf33
import Derived.Test.YtnokgkhkmnldeaaPf35
import Derived.Test.YtnokgkhkmnldeaaPf38
import Derived.Test.YtnokgkhkmnldeaaPf39
/-! short words -/
namespace Go.Proofs.Ytnokgkhkmnldeaa.P
open Go.RowKit Go.Proofs.YtnokgkhkmnldeaaW.PrintWords Go.Proofs.YtnokgkhkmnldeaaW.PrintLast Go.Proofs.YtnokgkhkmnldeaaW.PrintMore
attribute [local go_sem] max2_int min2_int max_two min_two max_three min_three max_four min_four   -- for this text's walks alone
set_option linter.unusedVariables false
set_option linter.unusedSimpArgs false

/-! ### laws_FnExactUsesOf: function 9 -/
def laws_FnExactUsesOf.f (k : Nat) (a0_0 : Int) (a0_1 : Int) (l0_2 : List Int) (l0_3 : List (S43)) (a1 : Int) : Option (Bool) := (laws_szTerm.f k a0_0 a0_1 l0_2 l0_3 1048576).bind fun t708 => (if t708 < 0 then (some true) else ((laws_toTerm.f k a0_0 a0_1 l0_2 l0_3).bind fun bt709 => ((spec_UsesOf.f k bt709.1 bt709.2.1 bt709.2.2.1 bt709.2.2.2 a1).bind fun t717 => ((laws_toTerm.f k a0_0 a0_1 l0_2 l0_3).bind fun bt718 => ((impl_UsesOf.f k bt718.1 bt718.2.1 bt718.2.2.1 bt718.2.2.2 a1).bind fun t727 => (if t727 = t717 then ((laws_toTerm.f k a0_0 a0_1 l0_2 l0_3).bind fun bt728 => ((laws_eqTerm.f k bt718.1 bt718.2.1 bt718.2.2.1 bt718.2.2.2 bt728.1 bt728.2.1 bt728.2.2.1 bt728.2.2.2).bind fun t736 => (if t736 = true then (some true) else (some false)))) else (some false)))))))
set_option maxHeartbeats 8000000 in
set_option maxRecDepth 100000 in
theorem laws_FnExactUsesOf.calls (k : Nat) (a0_0 : Int) (a0_1 : Int) (A0_2 : Option Addr) (c0_2 : Nat) (l0_2 : List Int) (A0_3 : Option Addr) (c0_3 : Nat) (l0_3 : List (S43)) (a1 : Int) (r : Bool) (w : World) (hr0_2 : Kd.C (Kd.int .i64) w A0_2 l0_2.length l0_2) (hc0_2 : l0_2.length ≤ c0_2) (hr0_3 : Kd.C k43 w A0_3 l0_3.length l0_3) (hc0_3 : l0_3.length ≤ c0_3) (h : laws_FnExactUsesOf.f k a0_0 a0_1 l0_2 l0_3 a1 = some r) (hr_ : r = true) :
  Calls Try.prog 9 #[.agg #[.int .i64 a0_0, .int .i64 a0_1, .slice A0_2 l0_2.length c0_2, .slice A0_3 l0_3.length c0_3], .int .i64 a1] w fun e w' => e = .returned (.bool r) ∧ Below w.heap.size w w' := by
 have hu43 := Try.underlying43
 have hu48 := Try.underlying48
 have HR0_2 := sd_ hr0_2
 have HC0_2 := sd_ hc0_2
 clear hr0_2 hc0_2
 have HR0_3 := sd_ hr0_3
 have HC0_3 := sd_ hc0_3
 clear hr0_3 hc0_3
 have HB := sd_ (Below.refl w.heap.size w)
 have H : ((laws_szTerm.f k a0_0 a0_1 l0_2 l0_3 1048576).bind fun t708 => (if t708 < 0 then (some true) else ((laws_toTerm.f k a0_0 a0_1 l0_2 l0_3).bind fun bt709 => ((spec_UsesOf.f k bt709.1 bt709.2.1 bt709.2.2.1 bt709.2.2.2 a1).bind fun t717 => ((laws_toTerm.f k a0_0 a0_1 l0_2 l0_3).bind fun bt718 => ((impl_UsesOf.f k bt718.1 bt718.2.1 bt718.2.2.1 bt718.2.2.2 a1).bind fun t727 => (if t727 = t717 then ((laws_toTerm.f k a0_0 a0_1 l0_2 l0_3).bind fun bt728 => ((laws_eqTerm.f k bt718.1 bt718.2.1 bt718.2.2.1 bt718.2.2.2 bt728.1 bt728.2.1 bt728.2.2.1 bt728.2.2.2).bind fun t736 => (if t736 = true then (some true) else (some false)))) else (some false)))))))) = some r := h
 clear h
 replace H := Option.bind_eq_some_iff.mp H
 obtain ⟨t708, A30, H⟩ := H
 replace H : (if t708 < 0 then (some true) else ((laws_toTerm.f k a0_0 a0_1 l0_2 l0_3).bind fun bt709 => ((spec_UsesOf.f k bt709.1 bt709.2.1 bt709.2.2.1 bt709.2.2.2 a1).bind fun t717 => ((laws_toTerm.f k a0_0 a0_1 l0_2 l0_3).bind fun bt718 => ((impl_UsesOf.f k bt718.1 bt718.2.1 bt718.2.2.1 bt718.2.2.2 a1).bind fun t727 => (if t727 = t717 then ((laws_toTerm.f k a0_0 a0_1 l0_2 l0_3).bind fun bt728 => ((laws_eqTerm.f k bt718.1 bt718.2.1 bt718.2.2.1 bt718.2.2.2 bt728.1 bt728.2.1 bt728.2.2.1 bt728.2.2.2).bind fun t736 => (if t736 = true then (some true) else (some false)))) else (some false))))))) = some r := H
 have A3 := sd_ A30
 clear A30
 by_cases c4 : t708 < 0
 ·rw [if_pos c4] at H
  have c4b0 : decide (t708 < 0) = true := decide_eq_true c4
  clear c4
  obtain rfl := Option.some.inj H
  go_enter Try.func9, Try.ntmps9
  go_wp2_with (first | ((with_reducible refine gate_dst (N := 2) rfl ?_); refine box_event ?hg (N := 2) ?hd (cs := #[.int .i64 a0_0, .int .i64 a0_1, .slice A0_2 l0_2.length c0_2, .slice A0_3 l0_3.length c0_3]) (t := 43) ?hr ?_; (case hd => rfl); (case hg => rfl); (case hr => first | (go_simp; done) | (go_simp; rfl)); intro gb707 hg w5 hbox hb; have BK707 := sd_ (hbox); have GW707 := sd_ ((by rw [hg]; exact (below_size (bw0_ HB.out)) : w.heap.size ≤ gb707)); have GE707 := sd_ ((by rw [hg]; exact (below_size (bw0_ HB.out)) : w.heap.size ≤ gb707)); replace HB := sd_ (below_step (bw0_ HB.out) hb); clear hb hbox hg; have hcz6_0 : w5.cell? ⟨gb707, 0, none⟩ = some (.int .i64 a0_0) := (blk_cell BK707.out 0).trans rfl; have hcz6_1 : w5.cell? ⟨gb707, 1, none⟩ = some (.int .i64 a0_1) := (blk_cell BK707.out 1).trans rfl; have hcz6_2 : w5.cell? ⟨gb707, 2, none⟩ = some (.slice A0_2 l0_2.length c0_2) := (blk_cell BK707.out 2).trans rfl; have hcz6_3 : w5.cell? ⟨gb707, 3, none⟩ = some (.slice A0_3 l0_3.length c0_3) := (blk_cell BK707.out 3).trans rfl; have hfz6_0 := blk_frozen BK707.out 0; have hfz6_1 := blk_frozen BK707.out 1; have hfz6_2 := blk_frozen BK707.out 2; have hfz6_3 := blk_frozen BK707.out 3) | ((with_reducible refine gate_callee (f := 31) rfl ?_); refine goesL_ (some 11) rfl rfl Try.func31 (by kernel_rfl) rfl #[.agg #[.int .i64 a0_0, .int .i64 a0_1, .slice A0_2 l0_2.length c0_2, .slice A0_3 l0_3.length c0_3], .int .i64 1048576] rfl (by (try simp only [List.map_toArray, List.map_cons, List.map_nil]); first | done | rfl | (simp only [List.length_drop, List.length_take]; rfl)) ?_; (with_reducible refine (laws_szTerm.calls k a0_0 a0_1 _ _ l0_2 _ _ l0_3 1048576 t708 _ ?side1 ?side2 ?side3 ?side4 A3.out).mono ?_); (case side1 => exact kc_ HR0_2.out HB.out); (case side2 => exact HC0_2.out); (case side3 => exact kc_ HR0_3.out HB.out); (case side4 => exact HC0_3.out); rintro e w7 ⟨rfl, hb⟩; refine ⟨_, rfl, ?_⟩; replace BK707 := sd_ (bb_ BK707.out hb); replace HB := sd_ (below_step (bw1_ HB.out GE707.out) hb); (try clear hb); (try clear hb2); (try clear hk); (try clear hi)))
  go_ret
  exact ⟨by first | rfl | (simp [errW_none, errW_some] <;> rfl) | (simp [*, errW_none, errW_some] <;> rfl), bw1_ HB.out GE707.out⟩
 ·rw [if_neg c4] at H
  have c4b0 : decide (t708 < 0) = false := decide_eq_false c4
  clear c4
  replace H := Option.bind_eq_some_iff.mp H
  obtain ⟨⟨t709, t710, t711, t714⟩, A80, H⟩ := H
  replace H : ((spec_UsesOf.f k t709 t710 t711 t714 a1).bind fun t717 => ((laws_toTerm.f k a0_0 a0_1 l0_2 l0_3).bind fun bt718 => ((impl_UsesOf.f k bt718.1 bt718.2.1 bt718.2.2.1 bt718.2.2.2 a1).bind fun t727 => (if t727 = t717 then ((laws_toTerm.f k a0_0 a0_1 l0_2 l0_3).bind fun bt728 => ((laws_eqTerm.f k bt718.1 bt718.2.1 bt718.2.2.1 bt718.2.2.2 bt728.1 bt728.2.1 bt728.2.2.1 bt728.2.2.2).bind fun t736 => (if t736 = true then (some true) else (some false)))) else (some false))))) = some r := H
  have A8 := sd_ A80
  clear A80
  replace H := Option.bind_eq_some_iff.mp H
  obtain ⟨t717, A90, H⟩ := H
  replace H : ((laws_toTerm.f k a0_0 a0_1 l0_2 l0_3).bind fun bt718 => ((impl_UsesOf.f k bt718.1 bt718.2.1 bt718.2.2.1 bt718.2.2.2 a1).bind fun t727 => (if t727 = t717 then ((laws_toTerm.f k a0_0 a0_1 l0_2 l0_3).bind fun bt728 => ((laws_eqTerm.f k bt718.1 bt718.2.1 bt718.2.2.1 bt718.2.2.2 bt728.1 bt728.2.1 bt728.2.2.1 bt728.2.2.2).bind fun t736 => (if t736 = true then (some true) else (some false)))) else (some false)))) = some r := H
  have A9 := sd_ A90
  clear A90
  replace H := Option.bind_eq_some_iff.mp H
  obtain ⟨⟨t718, t719, t720, t723⟩, A100, H⟩ := H
  replace H : ((impl_UsesOf.f k t718 t719 t720 t723 a1).bind fun t727 => (if t727 = t717 then ((laws_toTerm.f k a0_0 a0_1 l0_2 l0_3).bind fun bt728 => ((laws_eqTerm.f k t718 t719 t720 t723 bt728.1 bt728.2.1 bt728.2.2.1 bt728.2.2.2).bind fun t736 => (if t736 = true then (some true) else (some false)))) else (some false))) = some r := H
  have A10 := sd_ A100
  clear A100
  replace H := Option.bind_eq_some_iff.mp H
  obtain ⟨t727, A110, H⟩ := H
  replace H : (if t727 = t717 then ((laws_toTerm.f k a0_0 a0_1 l0_2 l0_3).bind fun bt728 => ((laws_eqTerm.f k t718 t719 t720 t723 bt728.1 bt728.2.1 bt728.2.2.1 bt728.2.2.2).bind fun t736 => (if t736 = true then (some true) else (some false)))) else (some false)) = some r := H
  have A11 := sd_ A110
  clear A110
  by_cases c12 : t727 = t717
  ·rw [if_pos c12] at H
   have c12b0 : (t727 == t717) = true := beq_iff_eq.mpr c12
   have c12b1 : (t727 != t717) = false := bne_eq_false_iff_eq.mpr c12
   clear c12
   replace H := Option.bind_eq_some_iff.mp H
   obtain ⟨⟨t728, t729, t730, t733⟩, A130, H⟩ := H
   replace H : ((laws_eqTerm.f k t718 t719 t720 t723 t728 t729 t730 t733).bind fun t736 => (if t736 = true then (some true) else (some false))) = some r := H
   have A13 := sd_ A130
   clear A130
   replace H := Option.bind_eq_some_iff.mp H
   obtain ⟨t736, A140, H⟩ := H
   replace H : (if t736 = true then (some true) else (some false)) = some r := H
   have A14 := sd_ A140
   clear A140
   by_cases c15 : t736 = true
   ·subst c15
    have H1 : (some true) = some r := by rw [if_pos rfl] at H; exact H
    clear H
    have H := H1
    clear H1
    obtain rfl := Option.some.inj H
    go_enter Try.func9, Try.ntmps9
    try go_wp2_with (first | ((with_reducible refine gate_dst (N := 2) rfl ?_); refine box_event ?hg (N := 2) ?hd (cs := #[.int .i64 a0_0, .int .i64 a0_1, .slice A0_2 l0_2.length c0_2, .slice A0_3 l0_3.length c0_3]) (t := 43) ?hr ?_; (case hd => rfl); (case hg => rfl); (case hr => first | (go_simp; done) | (go_simp; rfl)); intro gb707 hg w16 hbox hb; have BK707 := sd_ (hbox); have GW707 := sd_ ((by rw [hg]; exact (below_size (bw0_ HB.out)) : w.heap.size ≤ gb707)); have GE707 := sd_ ((by rw [hg]; exact (below_size (bw0_ HB.out)) : w.heap.size ≤ gb707)); replace HB := sd_ (below_step (bw0_ HB.out) hb); clear hb hbox hg; have hcz17_0 : w16.cell? ⟨gb707, 0, none⟩ = some (.int .i64 a0_0) := (blk_cell BK707.out 0).trans rfl; have hcz17_1 : w16.cell? ⟨gb707, 1, none⟩ = some (.int .i64 a0_1) := (blk_cell BK707.out 1).trans rfl; have hcz17_2 : w16.cell? ⟨gb707, 2, none⟩ = some (.slice A0_2 l0_2.length c0_2) := (blk_cell BK707.out 2).trans rfl; have hcz17_3 : w16.cell? ⟨gb707, 3, none⟩ = some (.slice A0_3 l0_3.length c0_3) := (blk_cell BK707.out 3).trans rfl; have hfz17_0 := blk_frozen BK707.out 0; have hfz17_1 := blk_frozen BK707.out 1; have hfz17_2 := blk_frozen BK707.out 2; have hfz17_3 := blk_frozen BK707.out 3) | ((with_reducible refine gate_callee (f := 31) rfl ?_); refine goesL_ (some 11) rfl rfl Try.func31 (by kernel_rfl) rfl #[.agg #[.int .i64 a0_0, .int .i64 a0_1, .slice A0_2 l0_2.length c0_2, .slice A0_3 l0_3.length c0_3], .int .i64 1048576] rfl (by (try simp only [List.map_toArray, List.map_cons, List.map_nil]); first | done | rfl | (simp only [List.length_drop, List.length_take]; rfl)) ?_; (with_reducible refine (laws_szTerm.calls k a0_0 a0_1 _ _ l0_2 _ _ l0_3 1048576 t708 _ ?side1 ?side2 ?side3 ?side4 A3.out).mono ?_); (case side1 => exact kc_ HR0_2.out HB.out); (case side2 => exact HC0_2.out); (case side3 => exact kc_ HR0_3.out HB.out); (case side4 => exact HC0_3.out); rintro e w18 ⟨rfl, hb⟩; refine ⟨_, rfl, ?_⟩; replace BK707 := sd_ (bb_ BK707.out hb); replace HB := sd_ (below_step (bw1_ HB.out GE707.out) hb); (try clear hb); (try clear hb2); (try clear hk); (try clear hi); have hcz19_0 : w18.cell? ⟨gb707, 0, none⟩ = some (.int .i64 a0_0) := (blk_cell BK707.out 0).trans rfl; have hcz19_1 : w18.cell? ⟨gb707, 1, none⟩ = some (.int .i64 a0_1) := (blk_cell BK707.out 1).trans rfl; have hcz19_2 : w18.cell? ⟨gb707, 2, none⟩ = some (.slice A0_2 l0_2.length c0_2) := (blk_cell BK707.out 2).trans rfl; have hcz19_3 : w18.cell? ⟨gb707, 3, none⟩ = some (.slice A0_3 l0_3.length c0_3) := (blk_cell BK707.out 3).trans rfl; have hfz19_0 := blk_frozen BK707.out 0; have hfz19_1 := blk_frozen BK707.out 1; have hfz19_2 := blk_frozen BK707.out 2; have hfz19_3 := blk_frozen BK707.out 3) | ((with_reducible refine gate_callee (f := 33) rfl ?_); refine goesL_ (some 15) rfl rfl Try.func33 (by kernel_rfl) rfl #[.agg #[.int .i64 a0_0, .int .i64 a0_1, .slice A0_2 l0_2.length c0_2, .slice A0_3 l0_3.length c0_3]] rfl (by (try simp only [List.map_toArray, List.map_cons, List.map_nil]); first | done | rfl | (simp only [List.length_drop, List.length_take]; rfl)) ?_; (with_reducible refine (laws_toTerm.calls k a0_0 a0_1 _ _ l0_2 _ _ l0_3 t709 t710 t711 t714 _ ?side1 ?side2 ?side3 ?side4 A8.out).mono ?_); (case side1 => exact kc_ HR0_2.out HB.out); (case side2 => exact HC0_2.out); (case side3 => exact kc_ HR0_3.out HB.out); (case side4 => exact HC0_3.out); rintro e w20 ⟨v712, v715, rfl, ho0, ho1, hb⟩; refine ⟨_, rfl, ?_⟩; have HO713 := sd_ (Kd.R_lower ho0 (below_size (bw1_ HB.out GE707.out))); have HO716 := sd_ (Kd.R_lower ho1 (below_size (bw1_ HB.out GE707.out))); replace BK707 := sd_ (bb_ BK707.out hb); replace HB := sd_ (below_step (bw1_ HB.out GE707.out) hb); (try clear hb); (try clear hb2); (try clear hk); (try clear hi); (try clear ho0); (try clear ho1); obtain ⟨Ao21, co21, eo21⟩ := Kd.R_slice HO713.out; subst eo21; obtain ⟨Ao22, co22, eo22⟩ := Kd.R_slice HO716.out; subst eo22) | ((with_reducible refine gate_callee (f := 38) rfl ?_); refine goesL_ (some 17) rfl rfl Try.func38 (by kernel_rfl) rfl #[.agg #[.int .i64 t709, .int .i64 t710, .slice Ao21 t711.length co21, .slice Ao22 t714.length co22], .int .i64 a1] rfl (by (try simp only [List.map_toArray, List.map_cons, List.map_nil]); first | done | rfl | (simp only [List.length_drop, List.length_take]; rfl)) ?_; (with_reducible refine (spec_UsesOf.calls k t709 t710 _ _ t711 _ _ t714 a1 t717 _ ?side1 ?side2 ?side3 ?side4 A9.out).mono ?_); (case side1 => exact kp_ (Kd.R_reads' HO713.out).2.2); (case side2 => exact (Kd.R_reads' HO713.out).2.1); (case side3 => exact kp_ (Kd.R_reads' HO716.out).2.2); (case side4 => exact (Kd.R_reads' HO716.out).2.1); rintro e w23 ⟨rfl, hb⟩; refine ⟨_, rfl, ?_⟩; replace HO713 := sd_ (Kd.R_below (ro_ HO713.out) hb); replace HO716 := sd_ (Kd.R_below (ro_ HO716.out) hb); replace BK707 := sd_ (bb_ BK707.out hb); replace HB := sd_ (below_step (bw1_ HB.out GE707.out) hb); (try clear hb); (try clear hb2); (try clear hk); (try clear hi); have hcz24_0 : w23.cell? ⟨gb707, 0, none⟩ = some (.int .i64 a0_0) := (blk_cell BK707.out 0).trans rfl; have hcz24_1 : w23.cell? ⟨gb707, 1, none⟩ = some (.int .i64 a0_1) := (blk_cell BK707.out 1).trans rfl; have hcz24_2 : w23.cell? ⟨gb707, 2, none⟩ = some (.slice A0_2 l0_2.length c0_2) := (blk_cell BK707.out 2).trans rfl; have hcz24_3 : w23.cell? ⟨gb707, 3, none⟩ = some (.slice A0_3 l0_3.length c0_3) := (blk_cell BK707.out 3).trans rfl; have hfz24_0 := blk_frozen BK707.out 0; have hfz24_1 := blk_frozen BK707.out 1; have hfz24_2 := blk_frozen BK707.out 2; have hfz24_3 := blk_frozen BK707.out 3) | ((with_reducible refine gate_callee (f := 33) rfl ?_); refine goesL_ (some 19) rfl rfl Try.func33 (by kernel_rfl) rfl #[.agg #[.int .i64 a0_0, .int .i64 a0_1, .slice A0_2 l0_2.length c0_2, .slice A0_3 l0_3.length c0_3]] rfl (by (try simp only [List.map_toArray, List.map_cons, List.map_nil]); first | done | rfl | (simp only [List.length_drop, List.length_take]; rfl)) ?_; (with_reducible refine (laws_toTerm.calls k a0_0 a0_1 _ _ l0_2 _ _ l0_3 t718 t719 t720 t723 _ ?side1 ?side2 ?side3 ?side4 A10.out).mono ?_); (case side1 => exact kc_ HR0_2.out HB.out); (case side2 => exact HC0_2.out); (case side3 => exact kc_ HR0_3.out HB.out); (case side4 => exact HC0_3.out); rintro e w25 ⟨v721, v724, rfl, ho0, ho1, hb⟩; refine ⟨_, rfl, ?_⟩; have HO722 := sd_ (Kd.R_lower (Kd.R_new' ho0 (Kd.R_lt (ro_ HO713.out))) (below_size (bw1_ HB.out GE707.out))); have HO725 := sd_ (Kd.R_lower (Kd.R_new' (Kd.R_new' ho1 (Kd.R_lt (ro_ HO713.out))) (Kd.R_lt (ro_ HO716.out))) (below_size (bw1_ HB.out GE707.out))); replace HO713 := sd_ (Kd.R_elder' (ro_ HO713.out) (Kd.R_base ho0) hb); replace HO716 := sd_ (Kd.R_mono (Kd.R_told (Kd.R_told (Kd.R_old (ro_ HO716.out) hb) (Kd.R_base ho0)) (Kd.R_base ho1)) (fun _ h_ => h_.1)); replace BK707 := sd_ (bb_ BK707.out hb); replace HB := sd_ (below_step (bw1_ HB.out GE707.out) hb); (try clear hb); (try clear hb2); (try clear hk); (try clear hi); (try clear ho0); (try clear ho1)) | ((with_reducible refine gate_dst (N := 7) rfl ?_); refine box_event ?hg (N := 7) ?hd (cs := #[.int .i64 0, .int .i64 0, .slice none 0 0, .slice none 0 0]) (t := 48) ?hr ?_; (case hd => rfl); (case hg => rfl); (case hr => first | (go_simp; done) | (go_simp; rfl)); intro gb726 hg w26 hbox hb; replace HO713 := sd_ (Kd.R_below (ro_ HO713.out) hb); replace HO716 := sd_ (Kd.R_below (Kd.R_elderB (ro_ HO716.out) gb726 (Nat.le_of_eq hg.symm)) hb); replace HO722 := sd_ (Kd.R_below (ro_ HO722.out) hb); replace HO725 := sd_ (Kd.R_below (Kd.R_elderB (ro_ HO725.out) gb726 (Nat.le_of_eq hg.symm)) hb); have BK726 := sd_ (hbox); have GW726 := sd_ ((by rw [hg]; exact (below_size (bw1_ HB.out GE707.out)) : w.heap.size ≤ gb726)); have GE726 := sd_ ((by rw [hg]; exact (below_size (bw1_ HB.out GE707.out)) : w.heap.size ≤ gb726)); replace HB := sd_ (below_step (bw1_ HB.out GE707.out) hb); have NB707_726 := sd_ ((by rw [hg]; exact Nat.ne_of_lt (bl_ BK707.out) : gb707 ≠ gb726)); have NB726_707 := sd_ ((by rw [hg]; exact Nat.ne_of_gt (bl_ BK707.out) : gb726 ≠ gb707)); replace BK707 := sd_ (bb_ BK707.out hb); clear hb hbox hg; have hnb27 := NB726_707.out; have hnc27 := NB707_726.out; have hcz28_0 : w26.cell? ⟨gb726, 0, none⟩ = some (.int .i64 0) := (blk_cell BK726.out 0).trans rfl; have hcz28_1 : w26.cell? ⟨gb726, 1, none⟩ = some (.int .i64 0) := (blk_cell BK726.out 1).trans rfl; have hcz28_2 : w26.cell? ⟨gb726, 2, none⟩ = some (.slice none 0 0) := (blk_cell BK726.out 2).trans rfl; have hcz28_3 : w26.cell? ⟨gb726, 3, none⟩ = some (.slice none 0 0) := (blk_cell BK726.out 3).trans rfl; have hfz28_0 := blk_frozen BK726.out 0; have hfz28_1 := blk_frozen BK726.out 1; have hfz28_2 := blk_frozen BK726.out 2; have hfz28_3 := blk_frozen BK726.out 3; obtain ⟨Ao29, co29, eo29⟩ := Kd.R_slice HO722.out; subst eo29; obtain ⟨Ao30, co30, eo30⟩ := Kd.R_slice HO725.out; subst eo30) | ((with_reducible refine gate_callee (f := 39) rfl ?_); refine goesL_ (some 22) rfl rfl Try.func39 (by kernel_rfl) rfl #[.agg #[.int .i64 t718, .int .i64 t719, .slice Ao29 t720.length co29, .slice Ao30 t723.length co30], .int .i64 a1] rfl (by (try simp only [List.map_toArray, List.map_cons, List.map_nil]); first | done | rfl | (simp only [List.length_drop, List.length_take]; rfl)) ?_; (with_reducible refine (impl_UsesOf.calls k t718 t719 _ _ t720 _ _ t723 a1 t727 _ ?side1 ?side2 ?side3 ?side4 A11.out).mono ?_); (case side1 => refine (Kd.R_reads' (e := 3) (base := w.heap.size) (ok := fun k_ => (True ∧ some k_ ≠ (.slice Ao21 t711.length co21 : Value).ownBlock)) (n := t720.length) (c := co29) ?_).2.2; exact (by (with_reducible repeat (first | apply Kd.R_alloc | apply Kd.R_drewN | apply Kd.R_drew)); exact (Kd.R_mono (Kd.R_far (p := ⟨gb726, 3, none⟩) (Kd.R_far (p := ⟨gb726, 2, none⟩) (Kd.R_far (p := ⟨gb726, 1, none⟩) (Kd.R_far (p := ⟨gb726, 0, none⟩) (Kd.R_types HO722.out BK726.out (by decide)) (fun _ hk => hk.2) (.int .i64 t718)) (fun _ hk => hk.2) (.int .i64 t719)) (fun _ hk => hk.2) (.slice Ao29 t720.length co29)) (fun _ hk => hk.2) (.slice Ao30 t723.length co30)) (fun _ h_ => h_.1)))); (case side2 => exact (Kd.R_reads' HO722.out).2.1); (case side3 => refine (Kd.R_reads' (e := 48) (base := w.heap.size) (ok := fun k_ => (((some k_ ≠ (.slice Ao29 t720.length co29 : Value).ownBlock ∧ some k_ ≠ (.slice Ao21 t711.length co21 : Value).ownBlock) ∧ some k_ ≠ (.slice Ao22 t714.length co22 : Value).ownBlock) ∧ k_ ≠ gb726)) (n := t723.length) (c := co30) ?_).2.2; exact (by (with_reducible repeat (first | apply Kd.R_alloc | apply Kd.R_drewN | apply Kd.R_drew)); exact (Kd.R_mono (Kd.R_far (p := ⟨gb726, 3, none⟩) (Kd.R_far (p := ⟨gb726, 2, none⟩) (Kd.R_far (p := ⟨gb726, 1, none⟩) (Kd.R_far (p := ⟨gb726, 0, none⟩) (Kd.R_mono HO725.out (fun k_ hk => (⟨hk, hk.2⟩ : _ ∧ k_ ≠ gb726))) (fun _ hk => hk.2) (.int .i64 t718)) (fun _ hk => hk.2) (.int .i64 t719)) (fun _ hk => hk.2) (.slice Ao29 t720.length co29)) (fun _ hk => hk.2) (.slice Ao30 t723.length co30)) (fun _ h_ => h_.1)))); (case side4 => exact (Kd.R_reads' HO725.out).2.1); rintro e w31 ⟨rfl, hb⟩; refine ⟨_, rfl, ?_⟩; replace HO713 := sd_ (Kd.R_below (by (with_reducible repeat (first | apply Kd.R_alloc | apply Kd.R_drewN | apply Kd.R_drew)); exact (Kd.R_mono (Kd.R_far (p := ⟨gb726, 3, none⟩) (Kd.R_far (p := ⟨gb726, 2, none⟩) (Kd.R_far (p := ⟨gb726, 1, none⟩) (Kd.R_far (p := ⟨gb726, 0, none⟩) (Kd.R_types HO713.out BK726.out (by decide)) (fun _ hk => hk.2) (.int .i64 t718)) (fun _ hk => hk.2) (.int .i64 t719)) (fun _ hk => hk.2) (.slice Ao29 t720.length co29)) (fun _ hk => hk.2) (.slice Ao30 t723.length co30)) (fun _ h_ => h_.1))) hb); replace HO716 := sd_ (Kd.R_below (by (with_reducible repeat (first | apply Kd.R_alloc | apply Kd.R_drewN | apply Kd.R_drew)); exact (Kd.R_mono (Kd.R_far (p := ⟨gb726, 3, none⟩) (Kd.R_far (p := ⟨gb726, 2, none⟩) (Kd.R_far (p := ⟨gb726, 1, none⟩) (Kd.R_far (p := ⟨gb726, 0, none⟩) (Kd.R_mono HO716.out (fun k_ hk => (⟨hk, hk.2⟩ : _ ∧ k_ ≠ gb726))) (fun _ hk => hk.2) (.int .i64 t718)) (fun _ hk => hk.2) (.int .i64 t719)) (fun _ hk => hk.2) (.slice Ao29 t720.length co29)) (fun _ hk => hk.2) (.slice Ao30 t723.length co30)) (fun _ h_ => h_.1))) hb); replace HO722 := sd_ (Kd.R_below (by (with_reducible repeat (first | apply Kd.R_alloc | apply Kd.R_drewN | apply Kd.R_drew)); exact (Kd.R_mono (Kd.R_far (p := ⟨gb726, 3, none⟩) (Kd.R_far (p := ⟨gb726, 2, none⟩) (Kd.R_far (p := ⟨gb726, 1, none⟩) (Kd.R_far (p := ⟨gb726, 0, none⟩) (Kd.R_types HO722.out BK726.out (by decide)) (fun _ hk => hk.2) (.int .i64 t718)) (fun _ hk => hk.2) (.int .i64 t719)) (fun _ hk => hk.2) (.slice Ao29 t720.length co29)) (fun _ hk => hk.2) (.slice Ao30 t723.length co30)) (fun _ h_ => h_.1))) hb); replace HO725 := sd_ (Kd.R_below (by (with_reducible repeat (first | apply Kd.R_alloc | apply Kd.R_drewN | apply Kd.R_drew)); exact (Kd.R_mono (Kd.R_far (p := ⟨gb726, 3, none⟩) (Kd.R_far (p := ⟨gb726, 2, none⟩) (Kd.R_far (p := ⟨gb726, 1, none⟩) (Kd.R_far (p := ⟨gb726, 0, none⟩) (Kd.R_mono HO725.out (fun k_ hk => (⟨hk, hk.2⟩ : _ ∧ k_ ≠ gb726))) (fun _ hk => hk.2) (.int .i64 t718)) (fun _ hk => hk.2) (.int .i64 t719)) (fun _ hk => hk.2) (.slice Ao29 t720.length co29)) (fun _ hk => hk.2) (.slice Ao30 t723.length co30)) (fun _ h_ => h_.1))) hb); replace BK707 := sd_ (blk_below (g := gb707) (o := .cells #[.int .i64 a0_0, .int .i64 a0_1, .slice A0_2 l0_2.length c0_2, .slice A0_3 l0_3.length c0_3] 43 (0, 0)) (by (with_reducible repeat (first | refine blk_drewN ?_ _ | refine blk_drew ?_ | refine blk_alloc ?_ _)); refine blk_far ?_ NB707_726.out _; (with_reducible repeat (first | refine blk_drewN ?_ _ | refine blk_drew ?_ | refine blk_alloc ?_ _)); refine blk_far ?_ NB707_726.out _; (with_reducible repeat (first | refine blk_drewN ?_ _ | refine blk_drew ?_ | refine blk_alloc ?_ _)); refine blk_far ?_ NB707_726.out _; (with_reducible repeat (first | refine blk_drewN ?_ _ | refine blk_drew ?_ | refine blk_alloc ?_ _)); refine blk_far ?_ NB707_726.out _; (with_reducible repeat (first | refine blk_drewN ?_ _ | refine blk_drew ?_ | refine blk_alloc ?_ _)); exact BK707.out) hb); replace BK726 := sd_ (blk_below (g := gb726) (o := .cells #[.int .i64 t718, .int .i64 t719, .slice Ao29 t720.length co29, .slice Ao30 t723.length co30] 48 (0, 0)) (by (with_reducible repeat (first | refine blk_drewN ?_ _ | refine blk_drew ?_ | refine blk_alloc ?_ _)); refine blk_put (cs := #[.int .i64 t718, .int .i64 t719, .slice Ao29 t720.length co29, .slice none 0 0]) ?_ 3 _ rfl; (with_reducible repeat (first | refine blk_drewN ?_ _ | refine blk_drew ?_ | refine blk_alloc ?_ _)); refine blk_put (cs := #[.int .i64 t718, .int .i64 t719, .slice none 0 0, .slice none 0 0]) ?_ 2 _ rfl; (with_reducible repeat (first | refine blk_drewN ?_ _ | refine blk_drew ?_ | refine blk_alloc ?_ _)); refine blk_put (cs := #[.int .i64 t718, .int .i64 0, .slice none 0 0, .slice none 0 0]) ?_ 1 _ rfl; (with_reducible repeat (first | refine blk_drewN ?_ _ | refine blk_drew ?_ | refine blk_alloc ?_ _)); refine blk_put (cs := #[.int .i64 0, .int .i64 0, .slice none 0 0, .slice none 0 0]) ?_ 0 _ rfl; (with_reducible repeat (first | refine blk_drewN ?_ _ | refine blk_drew ?_ | refine blk_alloc ?_ _)); exact BK726.out) hb); replace HB := sd_ (below_step (bw2_ HB.out GE707.out GE726.out) hb); (try clear hb); (try clear hb2); (try clear hk); (try clear hi)))
    replace HO713 := sd_ (Kd.R_drew HO713.out)
    replace HO716 := sd_ (Kd.R_drew HO716.out)
    replace HO722 := sd_ (Kd.R_drew HO722.out)
    replace HO725 := sd_ (Kd.R_drew HO725.out)
    replace BK707 := sd_ (blk_drew BK707.out)
    replace BK726 := sd_ (blk_drew BK726.out)
    replace HB := sd_ (below_drew1 HB.out)
    refine start_ (n := 5) (S := fun w' => w'.cell? ⟨gb726, 0, none⟩ = some (.int .i64 t718) ∧ w'.cell? ⟨gb726, 1, none⟩ = some (.int .i64 t719) ∧ w'.cell? ⟨gb726, 2, none⟩ = some (.slice Ao29 t720.length co29) ∧ w'.cell? ⟨gb726, 3, none⟩ = some (.slice Ao30 t723.length co30) ∧ w'.cell? ⟨gb707, 0, none⟩ = some (.int .i64 a0_0) ∧ w'.cell? ⟨gb707, 1, none⟩ = some (.int .i64 a0_1) ∧ w'.cell? ⟨gb707, 2, none⟩ = some (.slice A0_2 l0_2.length c0_2) ∧ w'.cell? ⟨gb707, 3, none⟩ = some (.slice A0_3 l0_3.length c0_3)) (ds := []) #[false, false, false, false, false] (by kernel_rfl) rfl rfl ⟨(blk_cell BK726.out 0).trans rfl, (blk_cell BK726.out 1).trans rfl, (blk_cell BK726.out 2).trans rfl, (blk_cell BK726.out 3).trans rfl, (blk_cell BK707.out 0).trans rfl, (blk_cell BK707.out 1).trans rfl, (blk_cell BK707.out 2).trans rfl, (blk_cell BK707.out 3).trans rfl⟩ (fun hHeld => ?_)
    generalize w31.drew = w32 at HO713 HO716 HO722 HO725 BK707 BK726 HB hHeld ⊢
    refine take_ (i := 0) (N := some 26) (v := ?_) (a' := ?_) #[true, false, false, false, false] rfl rfl (by kernel_rfl) (fun _ _ _ h => h) (Or.inl ⟨by rfl, ?_⟩) hHeld ?_ ?_
    rotate_left
    ·rintro w' ⟨s0, s1, s2, s3, s4, s5, s6, s7⟩
     go_simp
     with_reducible rfl
    rotate_left
    ·simp only [Act.put, List.setIfInBounds_toArray, List.set_cons_zero, List.set_cons_succ, i64_w, i32_w]
     rfl
    refine take_ (i := 1) (N := some 27) (v := ?_) (a' := ?_) #[true, true, false, false, false] rfl rfl (by kernel_rfl) (fun _ _ _ h => h) (Or.inl ⟨by rfl, ?_⟩) hHeld ?_ ?_
    rotate_left
    ·rintro w' ⟨s0, s1, s2, s3, s4, s5, s6, s7⟩
     go_simp
     with_reducible rfl
    rotate_left
    ·simp only [Act.put, List.setIfInBounds_toArray, List.set_cons_zero, List.set_cons_succ, i64_w, i32_w]
     rfl
    refine one_ (i := 2) (N := some 28) #[true, true, true, false, false] rfl rfl (by kernel_rfl) (by decide) (fun K hK => ?_)
    refine goes_ Try.func33 (by kernel_rfl) rfl #[.agg #[.int .i64 a0_0, .int .i64 a0_1, .slice A0_2 l0_2.length c0_2, .slice A0_3 l0_3.length c0_3]] (by rfl) rfl rfl (by (try simp only [List.map_toArray, List.map_cons, List.map_nil]); first | done | rfl | (simp only [List.length_drop, List.length_take]; rfl)) ?_
    with_reducible refine (laws_toTerm.calls k a0_0 a0_1 _ _ l0_2 _ _ l0_3 t728 t729 t730 t733 _ ?side1 ?side2 ?side3 ?side4 A13.out).mono ?_
    (case side1 => exact kc_ HR0_2.out HB.out)
    (case side2 => exact HC0_2.out)
    (case side3 => exact kc_ HR0_3.out HB.out)
    (case side4 => exact HC0_3.out)
    rintro e w33 ⟨v731, v734, rfl, ho0, ho1, hb⟩
    refine ⟨_, rfl, ?_⟩
    have HO732 := sd_ (Kd.R_lower (Kd.R_new' (Kd.R_new' ho0 (Kd.R_lt (ro_ HO713.out))) (Kd.R_lt (ro_ HO722.out))) (below_size (bw2_ HB.out GE707.out GE726.out)))
    have HO735 := sd_ (Kd.R_lower (Kd.R_newB (Kd.R_new' (Kd.R_new' (Kd.R_new' (Kd.R_new' ho1 (Kd.R_lt (ro_ HO713.out))) (Kd.R_lt (ro_ HO716.out))) (Kd.R_lt (ro_ HO722.out))) (Kd.R_lt (ro_ HO725.out))) (g := gb726) (o := .cells #[.int .i64 t718, .int .i64 t719, .slice Ao29 t720.length co29, .slice Ao30 t723.length co30] 48 (0, 0)) (bz_ BK726.out)) (below_size (bw2_ HB.out GE707.out GE726.out)))
    replace HO713 := sd_ (Kd.R_elder' (ro_ HO713.out) (Kd.R_base ho0) hb)
    replace HO716 := sd_ (Kd.R_mono (Kd.R_told (Kd.R_told (Kd.R_old (ro_ HO716.out) hb) (Kd.R_base ho0)) (Kd.R_base ho1)) (fun _ h_ => h_.1))
    replace HO722 := sd_ (Kd.R_elder' (ro_ HO722.out) (Kd.R_base ho0) hb)
    replace HO725 := sd_ (Kd.R_mono (Kd.R_told (Kd.R_told (Kd.R_old (ro_ HO725.out) hb) (Kd.R_base ho0)) (Kd.R_base ho1)) (fun _ h_ => h_.1))
    replace BK707 := sd_ (bb_ BK707.out hb)
    replace BK726 := sd_ (bb_ BK726.out hb)
    replace HB := sd_ (below_step (bw2_ HB.out GE707.out GE726.out) hb)
    (try clear hb)
    (try clear hb2)
    (try clear hk)
    (try clear hi)
    (try clear ho0)
    (try clear ho1)
    obtain ⟨Ao34, co34, eo34⟩ := Kd.R_slice HO732.out
    (first | subst eo34 | (injection eo34 with f1_ f2_ f3_; have f4_ := f1_.symm; have f5_ := f3_.symm; clear f1_ f2_ f3_; subst f4_; subst f5_))
    obtain ⟨Ao35, co35, eo35⟩ := Kd.R_slice HO735.out
    (first | subst eo35 | (injection eo35 with f1_ f2_ f3_; have f4_ := f1_.symm; have f5_ := f3_.symm; clear f1_ f2_ f3_; subst f4_; subst f5_))
    refine hK.out _ _ ⟨(blk_cell BK726.out 0).trans rfl, (blk_cell BK726.out 1).trans rfl, (blk_cell BK726.out 2).trans rfl, (blk_cell BK726.out 3).trans rfl, (blk_cell BK707.out 0).trans rfl, (blk_cell BK707.out 1).trans rfl, (blk_cell BK707.out 2).trans rfl, (blk_cell BK707.out 3).trans rfl⟩ (fun hHeld => ?_)
    clear hK K
    refine norm_ (a' := ?_) ?_ ?_
    rotate_left
    ·show Act.put _ (some 28) _ = _
     simp only [Act.put, List.setIfInBounds_toArray, List.set_cons_zero, List.set_cons_succ, i64_w, i32_w]
     rfl
    refine one_ (i := 3) (N := some 29) #[true, true, true, true, false] rfl rfl (by kernel_rfl) (by decide) (fun K hK => ?_)
    refine goes_ Try.func35 (by kernel_rfl) rfl #[.agg #[.int .i64 t718, .int .i64 t719, .slice Ao29 t720.length co29, .slice Ao30 t723.length co30], .agg #[.int .i64 t728, .int .i64 t729, .slice Ao34 t730.length co34, .slice Ao35 t733.length co35]] (by rfl) rfl rfl (by (try simp only [List.map_toArray, List.map_cons, List.map_nil]); first | done | rfl | (simp only [List.length_drop, List.length_take]; rfl)) ?_
    with_reducible refine (laws_eqTerm.calls k t718 t719 _ _ t720 _ _ t723 t728 t729 _ _ t730 _ _ t733 true _ ?side1 ?side2 ?side3 ?side4 ?side5 ?side6 ?side7 ?side8 A14.out).mono ?_
    (case side1 => exact kp_ (Kd.R_reads' HO722.out).2.2)
    (case side2 => exact (Kd.R_reads' HO722.out).2.1)
    (case side3 => exact kp_ (Kd.R_reads' HO725.out).2.2)
    (case side4 => exact (Kd.R_reads' HO725.out).2.1)
    (case side5 => exact kp_ (Kd.R_reads' HO732.out).2.2)
    (case side6 => exact (Kd.R_reads' HO732.out).2.1)
    (case side7 => exact kp_ (Kd.R_reads' HO735.out).2.2)
    (case side8 => exact (Kd.R_reads' HO735.out).2.1)
    rintro e w36 ⟨rfl, hb⟩
    refine ⟨_, rfl, ?_⟩
    replace HO713 := sd_ (Kd.R_below (ro_ HO713.out) hb)
    replace HO716 := sd_ (Kd.R_below (ro_ HO716.out) hb)
    replace HO722 := sd_ (Kd.R_below (ro_ HO722.out) hb)
    replace HO725 := sd_ (Kd.R_below (ro_ HO725.out) hb)
    replace HO732 := sd_ (Kd.R_below (ro_ HO732.out) hb)
    replace HO735 := sd_ (Kd.R_below (ro_ HO735.out) hb)
    replace BK707 := sd_ (bb_ BK707.out hb)
    replace BK726 := sd_ (bb_ BK726.out hb)
    replace HB := sd_ (below_step (bw2_ HB.out GE707.out GE726.out) hb)
    (try clear hb)
    (try clear hb2)
    (try clear hk)
    (try clear hi)
    refine hK.out _ _ ⟨(blk_cell BK726.out 0).trans rfl, (blk_cell BK726.out 1).trans rfl, (blk_cell BK726.out 2).trans rfl, (blk_cell BK726.out 3).trans rfl, (blk_cell BK707.out 0).trans rfl, (blk_cell BK707.out 1).trans rfl, (blk_cell BK707.out 2).trans rfl, (blk_cell BK707.out 3).trans rfl⟩ (fun hHeld => ?_)
    clear hK K
    refine norm_ (a' := ?_) ?_ ?_
    rotate_left
    ·show Act.put _ (some 29) _ = _
     simp only [Act.put, List.setIfInBounds_toArray, List.set_cons_zero, List.set_cons_succ, i64_w, i32_w]
     rfl
    refine pure_ (i := 4) (N := some 30) (v := ?_) (a' := ?_) #[true, true, true, true, true] rfl rfl (by kernel_rfl) (fun _ _ _ h => h) (Or.inl ⟨by rfl, ?_⟩) ?_ ?_
    rotate_left
    ·intro w'
     go_simp
     with_reducible rfl
    rotate_left
    ·simp only [Act.put, List.setIfInBounds_toArray, List.set_cons_zero, List.set_cons_succ, i64_w, i32_w]
     rfl
    refine done_ (by kernel_rfl) ?_
    try go_wp2
    go_ret
    exact ⟨by first | rfl | (simp [errW_none, errW_some] <;> rfl) | (simp [*, errW_none, errW_some] <;> rfl), bw2_ HB.out GE707.out GE726.out⟩
   ·replace c15 := Bool.eq_false_iff.mpr c15
    subst c15
    have H1 : (some false) = some r := by rw [if_neg (show ¬ (false = true) by decide)] at H; exact H
    clear H
    have H := H1
    clear H1
    obtain rfl := Option.some.inj H
    exact absurd hr_ (by decide)
  ·rw [if_neg c12] at H
   have c12b0 : (t727 == t717) = false := beq_eq_false_iff_ne.mpr c12
   have c12b1 : (t727 != t717) = true := bne_iff_ne.mpr c12
   obtain rfl := Option.some.inj H
   exact absurd hr_ (by decide)

def laws_FnExactUsesOf.Pure : Prop := ∀ (a0_0 : Int) (a0_1 : Int) (l0_2 : List Int) (l0_3 : List (S43)) (a1 : Int), (Lit.int .i64 a0_0).wf = true → (Lit.int .i64 a0_1).wf = true → ((∀ z ∈ l0_2, (Lit.int .i64 z).wf = true) ∧ l0_2.length ≤ maxLen) → ((∀ z ∈ l0_3, Wf43 z) ∧ l0_3.length ≤ maxLen) → (Lit.int .i64 a1).wf = true → ∃ k, laws_FnExactUsesOf.f k a0_0 a0_1 l0_2 l0_3 a1 = some true

end Go.Proofs.Ytnokgkhkmnldeaa.P
