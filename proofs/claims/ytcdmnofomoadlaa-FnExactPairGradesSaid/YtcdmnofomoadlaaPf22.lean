-- Printed by this session's own program (wip/tools/mkprint.py) out of the translation. Not trusted: Lean checks it.
import Derived.Test.YtcdmnofomoadlaaP0
import Derived.Test.YtcdmnofomoadlaaPf77
import Derived.Test.YtcdmnofomoadlaaPf78
/-! short words -/
namespace Go.Proofs.Ytcdmnofomoadlaa.P
open Go.RowKit Go.Proofs.YtcdmnofomoadlaaW.PrintWords Go.Proofs.YtcdmnofomoadlaaW.PrintLast Go.Proofs.YtcdmnofomoadlaaW.PrintMore
attribute [local go_sem] max2_int min2_int max_two min_two max_three min_three max_four min_four   -- for this text's walks alone
set_option linter.unusedVariables false
set_option linter.unusedSimpArgs false

/-! ### laws_szSystem: function 22 -/
def laws_szSystem.f (a0_0 : Int) (l0_1 : List Int) (l0_2 : List Int) (l0_3 : List Bool) (a1 : Int) : Option (Int) := (laws_szIntS.f l0_1 a1).bind fun t399 => (if t399 < 0 then (some (-1)) else ((laws_szIntS.f l0_2 t399).bind fun t400 => (if t400 < 0 then (some (-1)) else ((laws_szBoolS.f l0_3 t400).bind fun t401 => (if t401 < 0 then (some (-1)) else (some t401))))))
set_option maxHeartbeats 8000000 in
set_option maxRecDepth 100000 in
theorem laws_szSystem.calls (a0_0 : Int) (A0_1 : Option Addr) (c0_1 : Nat) (l0_1 : List Int) (A0_2 : Option Addr) (c0_2 : Nat) (l0_2 : List Int) (A0_3 : Option Addr) (c0_3 : Nat) (l0_3 : List Bool) (a1 : Int) (r : Int) (w : World) (hr0_1 : Kd.C (Kd.int .i64) w A0_1 l0_1.length l0_1) (hc0_1 : l0_1.length ≤ c0_1) (hr0_2 : Kd.C (Kd.int .i64) w A0_2 l0_2.length l0_2) (hc0_2 : l0_2.length ≤ c0_2) (hr0_3 : Kd.C Kd.bool w A0_3 l0_3.length l0_3) (hc0_3 : l0_3.length ≤ c0_3) (h : laws_szSystem.f a0_0 l0_1 l0_2 l0_3 a1 = some r) :
  Calls Try.prog 22 #[.agg #[.int .i64 a0_0, .slice A0_1 l0_1.length c0_1, .slice A0_2 l0_2.length c0_2, .slice A0_3 l0_3.length c0_3], .int .i64 a1] w fun e w' => e = .returned (.int .i64 r) ∧ Below w.heap.size w w' := by
 have hu37 := Try.underlying37
 have HR0_1 := sd_ hr0_1
 have HC0_1 := sd_ hc0_1
 clear hr0_1 hc0_1
 have HR0_2 := sd_ hr0_2
 have HC0_2 := sd_ hc0_2
 clear hr0_2 hc0_2
 have HR0_3 := sd_ hr0_3
 have HC0_3 := sd_ hc0_3
 clear hr0_3 hc0_3
 have HB := sd_ (Below.refl w.heap.size w)
 have H : ((laws_szIntS.f l0_1 a1).bind fun t399 => (if t399 < 0 then (some (-1)) else ((laws_szIntS.f l0_2 t399).bind fun t400 => (if t400 < 0 then (some (-1)) else ((laws_szBoolS.f l0_3 t400).bind fun t401 => (if t401 < 0 then (some (-1)) else (some t401))))))) = some r := h
 clear h
 replace H := Option.bind_eq_some_iff.mp H
 obtain ⟨t399, A30, H⟩ := H
 replace H : (if t399 < 0 then (some (-1)) else ((laws_szIntS.f l0_2 t399).bind fun t400 => (if t400 < 0 then (some (-1)) else ((laws_szBoolS.f l0_3 t400).bind fun t401 => (if t401 < 0 then (some (-1)) else (some t401)))))) = some r := H
 have A3 := sd_ A30
 clear A30
 have HP4 := sd_ H
 clear H
 go_enter Try.func22, Try.ntmps22
 go_upto_if 10 with (first | ((with_reducible refine gate_dst (N := 2) rfl ?_); refine box_event ?hg (N := 2) ?hd (cs := #[.int .i64 a0_0, .slice A0_1 l0_1.length c0_1, .slice A0_2 l0_2.length c0_2, .slice A0_3 l0_3.length c0_3]) (t := 37) ?hr ?_; (case hd => rfl); (case hg => rfl); (case hr => first | (go_simp; done) | (go_simp; rfl)); intro gb398 hg w5 hbox hb; have BK398 := sd_ (hbox); have GW398 := sd_ ((by rw [hg]; exact (below_size (bw0_ HB.out)) : w.heap.size ≤ gb398)); have GE398 := sd_ ((by rw [hg]; exact (below_size (bw0_ HB.out)) : w.heap.size ≤ gb398)); replace HB := sd_ (below_step (bw0_ HB.out) hb); clear hb hbox hg; have hcz6_0 : w5.cell? ⟨gb398, 0, none⟩ = some (.int .i64 a0_0) := (blk_cell BK398.out 0).trans rfl; have hcz6_1 : w5.cell? ⟨gb398, 1, none⟩ = some (.slice A0_1 l0_1.length c0_1) := (blk_cell BK398.out 1).trans rfl; have hcz6_2 : w5.cell? ⟨gb398, 2, none⟩ = some (.slice A0_2 l0_2.length c0_2) := (blk_cell BK398.out 2).trans rfl; have hcz6_3 : w5.cell? ⟨gb398, 3, none⟩ = some (.slice A0_3 l0_3.length c0_3) := (blk_cell BK398.out 3).trans rfl; have hfz6_0 := blk_frozen BK398.out 0; have hfz6_1 := blk_frozen BK398.out 1; have hfz6_2 := blk_frozen BK398.out 2; have hfz6_3 := blk_frozen BK398.out 3) | ((with_reducible refine gate_callee (f := 77) rfl ?_); refine goesL_ (some 8) rfl rfl Try.func77 (by kernel_rfl) rfl #[.slice A0_1 l0_1.length c0_1, .int .i64 a1] rfl (by (try simp only [List.map_toArray, List.map_cons, List.map_nil]); first | done | rfl | (simp only [List.length_drop, List.length_take]; rfl)) ?_; (with_reducible refine (laws_szIntS.calls _ _ l0_1 a1 t399 _ ?side1 ?side2 A3.out).mono ?_); (case side1 => exact kc_ HR0_1.out HB.out); (case side2 => exact HC0_1.out); rintro e w' ⟨rfl, ⟨nd, rfl⟩⟩; refine ⟨_, rfl, ?_⟩))
 have H := HP4.out
 clear HP4
 by_cases c7 : t399 < 0
 ·rw [if_pos c7] at H
  have c7b0 : decide (t399 < 0) = true := decide_eq_true c7
  clear c7
  (first | rw [c7b0] | (simp only [i64_w, i32_w]; rw [c7b0]) | skip)
  obtain rfl := Option.some.inj H
  go_wp2
  go_ret
  exact ⟨by first | rfl | (simp [errW_none, errW_some] <;> rfl) | (simp [*, errW_none, errW_some] <;> rfl), bw1_ HB.out GE398.out⟩
 ·rw [if_neg c7] at H
  have c7b0 : decide (t399 < 0) = false := decide_eq_false c7
  clear c7
  (first | rw [c7b0] | (simp only [i64_w, i32_w]; rw [c7b0]) | skip)
  replace H := Option.bind_eq_some_iff.mp H
  obtain ⟨t400, A80, H⟩ := H
  replace H : (if t400 < 0 then (some (-1)) else ((laws_szBoolS.f l0_3 t400).bind fun t401 => (if t401 < 0 then (some (-1)) else (some t401)))) = some r := H
  have A8 := sd_ A80
  clear A80
  by_cases c9 : t400 < 0
  ·rw [if_pos c9] at H
   have c9b0 : decide (t400 < 0) = true := decide_eq_true c9
   clear c9
   obtain rfl := Option.some.inj H
   have hcz10_0 : w5.cell? ⟨gb398, 0, none⟩ = some (.int .i64 a0_0) := (blk_cell BK398.out 0).trans rfl
   have hcz10_1 : w5.cell? ⟨gb398, 1, none⟩ = some (.slice A0_1 l0_1.length c0_1) := (blk_cell BK398.out 1).trans rfl
   have hcz10_2 : w5.cell? ⟨gb398, 2, none⟩ = some (.slice A0_2 l0_2.length c0_2) := (blk_cell BK398.out 2).trans rfl
   have hcz10_3 : w5.cell? ⟨gb398, 3, none⟩ = some (.slice A0_3 l0_3.length c0_3) := (blk_cell BK398.out 3).trans rfl
   have hfz10_0 := blk_frozen BK398.out 0
   have hfz10_1 := blk_frozen BK398.out 1
   have hfz10_2 := blk_frozen BK398.out 2
   have hfz10_3 := blk_frozen BK398.out 3
   go_wp2_with (first | ((with_reducible refine gate_callee (f := 77) rfl ?_); refine goesL_ (some 14) rfl rfl Try.func77 (by kernel_rfl) rfl #[.slice A0_2 l0_2.length c0_2, .int .i64 t399] rfl (by (try simp only [List.map_toArray, List.map_cons, List.map_nil]); first | done | rfl | (simp only [List.length_drop, List.length_take]; rfl)) ?_; (with_reducible refine (laws_szIntS.calls _ _ l0_2 t399 t400 _ ?side1 ?side2 A8.out).mono ?_); (case side1 => exact kc_ HR0_2.out HB.out); (case side2 => exact HC0_2.out); rintro e w' ⟨rfl, ⟨nd, rfl⟩⟩; refine ⟨_, rfl, ?_⟩))
   go_ret
   exact ⟨by first | rfl | (simp [errW_none, errW_some] <;> rfl) | (simp [*, errW_none, errW_some] <;> rfl), bw1_ HB.out GE398.out⟩
  ·rw [if_neg c9] at H
   have c9b0 : decide (t400 < 0) = false := decide_eq_false c9
   clear c9
   replace H := Option.bind_eq_some_iff.mp H
   obtain ⟨t401, A110, H⟩ := H
   replace H : (if t401 < 0 then (some (-1)) else (some t401)) = some r := H
   have A11 := sd_ A110
   clear A110
   by_cases c12 : t401 < 0
   ·rw [if_pos c12] at H
    have c12b0 : decide (t401 < 0) = true := decide_eq_true c12
    clear c12
    obtain rfl := Option.some.inj H
    have hcz13_0 : w5.cell? ⟨gb398, 0, none⟩ = some (.int .i64 a0_0) := (blk_cell BK398.out 0).trans rfl
    have hcz13_1 : w5.cell? ⟨gb398, 1, none⟩ = some (.slice A0_1 l0_1.length c0_1) := (blk_cell BK398.out 1).trans rfl
    have hcz13_2 : w5.cell? ⟨gb398, 2, none⟩ = some (.slice A0_2 l0_2.length c0_2) := (blk_cell BK398.out 2).trans rfl
    have hcz13_3 : w5.cell? ⟨gb398, 3, none⟩ = some (.slice A0_3 l0_3.length c0_3) := (blk_cell BK398.out 3).trans rfl
    have hfz13_0 := blk_frozen BK398.out 0
    have hfz13_1 := blk_frozen BK398.out 1
    have hfz13_2 := blk_frozen BK398.out 2
    have hfz13_3 := blk_frozen BK398.out 3
    go_wp2_with (first | ((with_reducible refine gate_callee (f := 77) rfl ?_); refine goesL_ (some 14) rfl rfl Try.func77 (by kernel_rfl) rfl #[.slice A0_2 l0_2.length c0_2, .int .i64 t399] rfl (by (try simp only [List.map_toArray, List.map_cons, List.map_nil]); first | done | rfl | (simp only [List.length_drop, List.length_take]; rfl)) ?_; (with_reducible refine (laws_szIntS.calls _ _ l0_2 t399 t400 _ ?side1 ?side2 A8.out).mono ?_); (case side1 => exact kc_ HR0_2.out HB.out); (case side2 => exact HC0_2.out); rintro e w' ⟨rfl, ⟨nd, rfl⟩⟩; refine ⟨_, rfl, ?_⟩) | ((with_reducible refine gate_callee (f := 78) rfl ?_); refine goesL_ (some 20) rfl rfl Try.func78 (by kernel_rfl) rfl #[.slice A0_3 l0_3.length c0_3, .int .i64 t400] rfl (by (try simp only [List.map_toArray, List.map_cons, List.map_nil]); first | done | rfl | (simp only [List.length_drop, List.length_take]; rfl)) ?_; (with_reducible refine (laws_szBoolS.calls _ _ l0_3 t400 t401 _ ?side1 ?side2 A11.out).mono ?_); (case side1 => repeat (first | exact (Kd.C_below HR0_3.out (bw1_ HB.out GE398.out)) | (with_reducible refine Kd.C_alloc ?_ _) | (with_reducible refine Kd.C_drewN ?_ _) | (with_reducible refine Kd.C_drew ?_))); (case side2 => exact HC0_3.out); rintro e w' ⟨rfl, ⟨nd, rfl⟩⟩; refine ⟨_, rfl, ?_⟩))
    go_ret
    exact ⟨by first | rfl | (simp [errW_none, errW_some] <;> rfl) | (simp [*, errW_none, errW_some] <;> rfl), bw1_ HB.out GE398.out⟩
   ·rw [if_neg c12] at H
    have c12b0 : decide (t401 < 0) = false := decide_eq_false c12
    clear c12
    obtain rfl := Option.some.inj H
    have hcz14_0 : w5.cell? ⟨gb398, 0, none⟩ = some (.int .i64 a0_0) := (blk_cell BK398.out 0).trans rfl
    have hcz14_1 : w5.cell? ⟨gb398, 1, none⟩ = some (.slice A0_1 l0_1.length c0_1) := (blk_cell BK398.out 1).trans rfl
    have hcz14_2 : w5.cell? ⟨gb398, 2, none⟩ = some (.slice A0_2 l0_2.length c0_2) := (blk_cell BK398.out 2).trans rfl
    have hcz14_3 : w5.cell? ⟨gb398, 3, none⟩ = some (.slice A0_3 l0_3.length c0_3) := (blk_cell BK398.out 3).trans rfl
    have hfz14_0 := blk_frozen BK398.out 0
    have hfz14_1 := blk_frozen BK398.out 1
    have hfz14_2 := blk_frozen BK398.out 2
    have hfz14_3 := blk_frozen BK398.out 3
    go_wp2_with (first | ((with_reducible refine gate_callee (f := 77) rfl ?_); refine goesL_ (some 14) rfl rfl Try.func77 (by kernel_rfl) rfl #[.slice A0_2 l0_2.length c0_2, .int .i64 t399] rfl (by (try simp only [List.map_toArray, List.map_cons, List.map_nil]); first | done | rfl | (simp only [List.length_drop, List.length_take]; rfl)) ?_; (with_reducible refine (laws_szIntS.calls _ _ l0_2 t399 t400 _ ?side1 ?side2 A8.out).mono ?_); (case side1 => exact kc_ HR0_2.out HB.out); (case side2 => exact HC0_2.out); rintro e w' ⟨rfl, ⟨nd, rfl⟩⟩; refine ⟨_, rfl, ?_⟩) | ((with_reducible refine gate_callee (f := 78) rfl ?_); refine goesL_ (some 20) rfl rfl Try.func78 (by kernel_rfl) rfl #[.slice A0_3 l0_3.length c0_3, .int .i64 t400] rfl (by (try simp only [List.map_toArray, List.map_cons, List.map_nil]); first | done | rfl | (simp only [List.length_drop, List.length_take]; rfl)) ?_; (with_reducible refine (laws_szBoolS.calls _ _ l0_3 t400 t401 _ ?side1 ?side2 A11.out).mono ?_); (case side1 => repeat (first | exact (Kd.C_below HR0_3.out (bw1_ HB.out GE398.out)) | (with_reducible refine Kd.C_alloc ?_ _) | (with_reducible refine Kd.C_drewN ?_ _) | (with_reducible refine Kd.C_drew ?_))); (case side2 => exact HC0_3.out); rintro e w' ⟨rfl, ⟨nd, rfl⟩⟩; refine ⟨_, rfl, ?_⟩))
    go_ret
    exact ⟨by first | rfl | (simp [errW_none, errW_some] <;> rfl) | (simp [*, errW_none, errW_some] <;> rfl), bw1_ HB.out GE398.out⟩

end Go.Proofs.Ytcdmnofomoadlaa.P
