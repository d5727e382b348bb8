-- Printed by this session's own program (wip/tools/mkprint.py) out of the translation. Not trusted: Lean checks it.
import Derived.Test.YtnokgkhkmnldeaaP0
import Derived.Test.YtnokgkhkmnldeaaPf13
import Derived.Test.YtnokgkhkmnldeaaPf14
import Derived.Test.YtnokgkhkmnldeaaPf15
import Derived.Test.YtnokgkhkmnldeaaPf16
import Derived.Test.YtnokgkhkmnldeaaPf17
import Derived.Test.YtnokgkhkmnldeaaPf18
import Derived.Test.YtnokgkhkmnldeaaPf19
import Derived.Test.YtnokgkhkmnldeaaPf20
/-! short words -/
namespace Go.Proofs.Ytnokgkhkmnldeaa.P
open Go.RowKit Go.Proofs.YtnokgkhkmnldeaaW.PrintWords Go.Proofs.YtnokgkhkmnldeaaW.PrintLast Go.Proofs.YtnokgkhkmnldeaaW.PrintMore
attribute [local go_sem] max2_int min2_int max_two min_two max_three min_three max_four min_four   -- for this text's walks alone
set_option linter.unusedVariables false
set_option linter.unusedSimpArgs false

/-! ### laws_FnExactPartsOfType: function 3 -/
def laws_FnExactPartsOfType.j0 : Nat → List Int → List (List Int) → List (List Int) → Bool → Option (Bool)
 | 0, _, _, _, _ => none
 | k + 1, x0, x3, x5, x39 => if x39 = true then (some false) else ((laws_markIntSS.f k x5 1).bind fun bt189 => ((laws_heldIntSS.f k bt189.2 1).bind fun t191 => (if t191 < 0 then (some false) else (if t191 = bt189.1 then ((laws_toIntS.f k x0).bind fun t192 => ((impl_PartsOfType.f k t192).bind fun t195 => ((laws_eqIntSS.f k t195 x3).bind fun t198 => (if t198 = true then ((laws_heldIntSS.f k bt189.2 1).bind fun t199 => (if t199 < 0 then (some false) else (if t199 = bt189.1 then (some true) else (some false)))) else (some false))))) else (some false)))))
def laws_FnExactPartsOfType.f (k : Nat) (l0 : List Int) : Option (Bool) := if (l0.length : Int) > 1048576 then (some true) else ((laws_toIntS.f k l0).bind fun t169 => ((spec_PartsOfType.f k t169).bind fun t172 => ((laws_toIntS.f k l0).bind fun t175 => ((impl_PartsOfType.f k t175).bind fun t178 => ((laws_eqIntSS.f k t178 t172).bind fun t181 => (if t181 = true then ((laws_toIntS.f k l0).bind fun t182 => ((laws_eqIntS.f k t175 t182).bind fun t185 => (if t185 = true then ((laws_markIntS.f k t175 1).bind fun bt186 => (if bt186.1 < 0 then (laws_FnExactPartsOfType.j0 k l0 t172 t178 true) else ((laws_eqIntSS.f k t178 t172).bind fun t188 => (laws_FnExactPartsOfType.j0 k l0 t172 t178 (!t188))))) else (some false)))) else (some false)))))))
set_option maxHeartbeats 8000000 in
set_option maxRecDepth 100000 in
theorem laws_FnExactPartsOfType.calls (k : Nat) (A0 : Option Addr) (c0 : Nat) (l0 : List Int) (r : Bool) (w : World) (hr0 : Kd.C (Kd.int .i64) w A0 l0.length l0) (hc0 : l0.length ≤ c0) (h : laws_FnExactPartsOfType.f k l0 = some r) (hr_ : r = true) :
  Calls Try.prog 3 #[.slice A0 l0.length c0] w fun e w' => e = .returned (.bool r) ∧ Below w.heap.size w w' := by
 have HR0 := sd_ hr0
 have HC0 := sd_ hc0
 clear hr0 hc0
 have HB := sd_ (Below.refl w.heap.size w)
 have H : (if (l0.length : Int) > 1048576 then (some true) else ((laws_toIntS.f k l0).bind fun t169 => ((spec_PartsOfType.f k t169).bind fun t172 => ((laws_toIntS.f k l0).bind fun t175 => ((impl_PartsOfType.f k t175).bind fun t178 => ((laws_eqIntSS.f k t178 t172).bind fun t181 => (if t181 = true then ((laws_toIntS.f k l0).bind fun t182 => ((laws_eqIntS.f k t175 t182).bind fun t185 => (if t185 = true then ((laws_markIntS.f k t175 1).bind fun bt186 => (if bt186.1 < 0 then (laws_FnExactPartsOfType.j0 k l0 t172 t178 true) else ((laws_eqIntSS.f k t178 t172).bind fun t188 => (laws_FnExactPartsOfType.j0 k l0 t172 t178 (!t188))))) else (some false)))) else (some false)))))))) = some r := h
 clear h
 by_cases c2 : (l0.length : Int) > 1048576
 ·rw [if_pos c2] at H
  have c2b0 : decide (1048576 < (l0.length : Int)) = true := decide_eq_true c2
  have c2b1 : decide (1048576 < l0.length) = true := decide_eq_true (by omega)
  clear c2
  obtain rfl := Option.some.inj H
  go_enter Try.func3, Try.ntmps3
  go_wp2
  go_ret
  exact ⟨an_, bw0_ HB.out⟩
 rw [if_neg c2] at H
 have c2b0 : decide (1048576 < (l0.length : Int)) = false := decide_eq_false c2
 have c2b1 : decide (1048576 < l0.length) = false := decide_eq_false (by omega)
 clear c2
 replace H := Option.bind_eq_some_iff.mp H
 obtain ⟨t169, A30, H⟩ := H
 try dsimp only at H
 have A3 := sd_ A30
 clear A30
 replace H := Option.bind_eq_some_iff.mp H
 obtain ⟨t172, A40, H⟩ := H
 try dsimp only at H
 have A4 := sd_ A40
 clear A40
 replace H := Option.bind_eq_some_iff.mp H
 obtain ⟨t175, A50, H⟩ := H
 try dsimp only at H
 have A5 := sd_ A50
 clear A50
 replace H := Option.bind_eq_some_iff.mp H
 obtain ⟨t178, A60, H⟩ := H
 try dsimp only at H
 have A6 := sd_ A60
 clear A60
 replace H := Option.bind_eq_some_iff.mp H
 obtain ⟨t181, A70, H⟩ := H
 try dsimp only at H
 have A7 := sd_ A70
 clear A70
 have HP8 := sd_ H
 clear H
 go_enter Try.func3, Try.ntmps3
 go_upto_if 23 with (first | ((with_reducible refine gate_callee (f := 14) rfl ?_); refine goesL_ (some 14) rfl rfl Try.func14 (by kernel_rfl) rfl #[.slice A0 l0.length c0] rfl la_ ?_; (with_reducible refine (laws_toIntS.calls k _ _ l0 t169 _ (kp_ HR0.out) HC0.out A3.out).mono ?_); rintro e w9 ⟨v170, rfl, ho0, hb⟩; refine ⟨_, rfl, ?_⟩; have HO171 := sd_ (Kd.R_lower ho0 (below_size (bw0_ HB.out))); replace HB := sd_ (below_step (bw0_ HB.out) hb); (try clear hb); (try clear ho0); obtain ⟨Ao10, co10, eo10⟩ := Kd.R_slice HO171.out; subst eo10) | ((with_reducible refine gate_callee (f := 13) rfl ?_); refine goesL_ (some 15) rfl rfl Try.func13 (by kernel_rfl) rfl #[.slice Ao10 t169.length co10] rfl la_ ?_; (with_reducible refine (spec_PartsOfType.calls k _ _ t169 t172 _ ?side1 ?side2 A4.out).mono ?_); (case side1 => exact kp_ (Kd.R_reads' HO171.out).2.2); (case side2 => exact (Kd.R_reads' HO171.out).2.1); rintro e w11 ⟨v173, rfl, ho0, hb⟩; refine ⟨_, rfl, ?_⟩; have n0_ := sd_ (Kd.R_below (ro_ HO171.out) hb); have n1_ := sd_ (Kd.S_lower (Kd.S_new' (Kd.S_mono (ok' := fun k_ => k_ < w11.heap.size) (Kd.S_bound ho0) (fun _ h_ => h_.2.2.1)) (Kd.R_lt (ro_ HO171.out))) (below_size (bw0_ HB.out))); have n2_ := sd_ (below_step (bw0_ HB.out) hb); have HM_ := sd_ (Below.refl w11.heap.size w11); clear HO171; clear HB; have HO171 := n0_; have HO174 := n1_; have HB := n2_; clear n0_ n1_ n2_; (try clear hb); (try clear ho0)) | ((with_reducible refine gate_callee (f := 14) rfl ?_); refine goesL_ (some 17) rfl rfl Try.func14 (by kernel_rfl) rfl #[.slice A0 l0.length c0] rfl la_ ?_; (with_reducible refine (laws_toIntS.calls k _ _ l0 t175 _ (kc_ HR0.out HB.out) HC0.out A5.out).mono ?_); rintro e w12 ⟨v176, rfl, ho0, hb⟩; refine ⟨_, rfl, ?_⟩; have n0_ := sd_ (Kd.R_elder' (ro_ HO171.out) (Kd.R_base ho0) hb); have n1_ := sd_ (Kd.S_elder' (by (with_reducible repeat (first | apply Kd.S_alloc | apply Kd.S_drewN | apply Kd.S_drew)); exact HO174.out) (Kd.R_base ho0) hb); have n2_ := sd_ (Kd.R_lower (Kd.R_new' ho0 (Kd.R_lt (ro_ HO171.out))) (below_size (bw0_ HB.out))); have n3_ := sd_ (below_step (bw0_ HB.out) hb); have m_ := sd_ (below_step (bw0_ HM_.out) hb); clear HM_; have HM_ := m_; clear m_; clear HO171; clear HO174; clear HB; have HO171 := n0_; have HO174 := n1_; have HO177 := n2_; have HB := n3_; clear n0_ n1_ n2_ n3_; (try clear hb); (try clear ho0); obtain ⟨Ao13, co13, eo13⟩ := Kd.R_slice HO177.out; subst eo13) | ((with_reducible refine gate_callee (f := 15) rfl ?_); refine goesL_ (some 19) rfl rfl Try.func15 (by kernel_rfl) rfl #[.slice Ao13 t175.length co13] rfl la_ ?_; (with_reducible refine (impl_PartsOfType.calls k _ _ t175 t178 _ ?side1 ?side2 A6.out).mono ?_); (case side1 => exact kp_ (Kd.R_reads' HO177.out).2.2); (case side2 => exact (Kd.R_reads' HO177.out).2.1); rintro e w14 ⟨v179, rfl, ho0, hb⟩; refine ⟨_, rfl, ?_⟩; have HO180 := sd_ (Kd.S_lower (Kd.S_new' (Kd.S_new' (Kd.S_new' (Kd.S_mono (ok' := fun k_ => w11.heap.size ≤ k_) (Kd.S_bound ho0) (fun _ h_ => Nat.le_trans (below_size (bw0_ HM_.out)) h_.2.1)) (Kd.R_lt (ro_ HO171.out))) (Kd.S_lt (by (with_reducible repeat (first | apply Kd.S_alloc | apply Kd.S_drewN | apply Kd.S_drew)); exact HO174.out))) (Kd.R_lt (ro_ HO177.out))) (below_size (bw0_ HB.out))); replace HO171 := sd_ (Kd.R_below (ro_ HO171.out) hb); replace HO174 := sd_ (Kd.S_elder' (by (with_reducible repeat (first | apply Kd.S_alloc | apply Kd.S_drewN | apply Kd.S_drew)); exact HO174.out) (Kd.S_base ho0) hb); replace HO177 := sd_ (Kd.R_below (ro_ HO177.out) hb); replace HB := sd_ (below_step (bw0_ HB.out) hb); (try clear hb); (try clear ho0); obtain ⟨Ao15, co15, eo15⟩ := Kd.S_slice HO180.out; subst eo15; obtain ⟨Ao16, co16, eo16⟩ := Kd.S_slice HO174.out; subst eo16) | ((with_reducible refine gate_callee (f := 16) rfl ?_); refine goesL_ (some 22) rfl rfl Try.func16 (by kernel_rfl) rfl #[.slice Ao15 t178.length co15, .slice Ao16 t172.length co16] rfl la_ ?_; (with_reducible refine (laws_eqIntSS.calls k _ _ t178 _ _ t172 t181 _ ?side1 ?side2 ?side3 ?side4 A7.out).mono ?_); (case side1 => exact kp_ (Kd.S_reads' HO180.out).2.2); (case side2 => exact (Kd.S_reads' HO180.out).2.1); (case side3 => exact kp_ (Kd.S_reads' HO174.out).2.2); (case side4 => exact (Kd.S_reads' HO174.out).2.1); rintro e w' ⟨rfl, ⟨nd, rfl⟩⟩; refine ⟨_, rfl, ?_⟩))
 have H := HP8.out
 clear HP8
 by_cases c17 : t181 = true
 ·subst c17
  have H1 : ((laws_toIntS.f k l0).bind fun t182 => ((laws_eqIntS.f k t175 t182).bind fun t185 => (if t185 = true then ((laws_markIntS.f k t175 1).bind fun bt186 => (if bt186.1 < 0 then (laws_FnExactPartsOfType.j0 k l0 t172 t178 true) else ((laws_eqIntSS.f k t178 t172).bind fun t188 => (laws_FnExactPartsOfType.j0 k l0 t172 t178 (!t188))))) else (some false)))) = some r := by rw [if_pos rfl] at H; exact H
  clear H
  have H := H1
  clear H1
  replace H := Option.bind_eq_some_iff.mp H
  obtain ⟨t182, A180, H⟩ := H
  try dsimp only at H
  have A18 := sd_ A180
  clear A180
  replace H := Option.bind_eq_some_iff.mp H
  obtain ⟨t185, A190, H⟩ := H
  try dsimp only at H
  have A19 := sd_ A190
  clear A190
  have HP20 := sd_ H
  clear H
  go_upto_if 28 with (first | ((with_reducible refine gate_callee (f := 14) rfl ?_); refine goesL_ (some 26) rfl rfl Try.func14 (by kernel_rfl) rfl #[.slice A0 l0.length c0] rfl la_ ?_; (with_reducible refine (laws_toIntS.calls k _ _ l0 t182 _ (kc_ HR0.out HB.out) HC0.out A18.out).mono ?_); rintro e w21 ⟨v183, rfl, ho0, hb⟩; refine ⟨_, rfl, ?_⟩; replace HO174 := sd_ (Kd.S_elder' (by (with_reducible repeat (first | apply Kd.S_alloc | apply Kd.S_drewN | apply Kd.S_drew)); exact HO174.out) (Kd.R_base ho0) hb); replace HO180 := sd_ (Kd.S_elder' (by (with_reducible repeat (first | apply Kd.S_alloc | apply Kd.S_drewN | apply Kd.S_drew)); exact HO180.out) (Kd.R_base ho0) hb); have HO184 := sd_ (Kd.R_lower (Kd.R_new' (Kd.R_new' ho0 (Kd.R_lt (ro_ HO171.out))) (Kd.R_lt (ro_ HO177.out))) (below_size (bw0_ HB.out))); replace HO171 := sd_ (Kd.R_elder' (ro_ HO171.out) (Kd.R_base ho0) hb); replace HO177 := sd_ (Kd.R_elder' (ro_ HO177.out) (Kd.R_base ho0) hb); replace HB := sd_ (below_step (bw0_ HB.out) hb); (try clear hb); (try clear ho0); obtain ⟨Ao22, co22, eo22⟩ := Kd.R_slice HO184.out; subst eo22) | ((with_reducible refine gate_callee (f := 17) rfl ?_); refine goesL_ (some 27) rfl rfl Try.func17 (by kernel_rfl) rfl #[.slice Ao13 t175.length co13, .slice Ao22 t182.length co22] rfl la_ ?_; (with_reducible refine (laws_eqIntS.calls k _ _ t175 _ _ t182 t185 _ ?side1 ?side2 ?side3 ?side4 A19.out).mono ?_); (case side1 => exact kp_ (Kd.R_reads' HO177.out).2.2); (case side2 => exact (Kd.R_reads' HO177.out).2.1); (case side3 => exact kp_ (Kd.R_reads' HO184.out).2.2); (case side4 => exact (Kd.R_reads' HO184.out).2.1); rintro e w' ⟨rfl, ⟨nd, rfl⟩⟩; refine ⟨_, rfl, ?_⟩))
  have H := HP20.out
  clear HP20
  by_cases c23 : t185 = true
  ·subst c23
   have H1 : ((laws_markIntS.f k t175 1).bind fun bt186 => (if bt186.1 < 0 then (laws_FnExactPartsOfType.j0 k l0 t172 t178 true) else ((laws_eqIntSS.f k t178 t172).bind fun t188 => (laws_FnExactPartsOfType.j0 k l0 t172 t178 (!t188))))) = some r := by rw [if_pos rfl] at H; exact H
   clear H
   have H := H1
   clear H1
   replace H := Option.bind_eq_some_iff.mp H
   obtain ⟨⟨t186, t187⟩, A240, H⟩ := H
   try dsimp only at H
   have A24 := sd_ A240
   clear A240
   have HC25 := sd_ H
   clear H
   go_upto_region 12 with (first | ((with_reducible refine gate_callee (f := 18) rfl ?_); refine goesL_ (some 31) rfl rfl Try.func18 (by kernel_rfl) rfl #[.slice Ao13 t175.length co13, .int .i64 1] rfl la_ ?_; (with_reducible refine (laws_markIntS.calls k (fun k_ => some k_ = (.slice Ao13 t175.length co13 : Value).ownBlock) (.slice Ao13 t175.length co13) t175 1 t186 t187 w _ ?side1 ?side2 A24.out).mono ?_); (case side1 => repeat (first | (with_reducible first | exact HB.out | apply below_alloc | apply pw_below_drewN | apply below_drew1) | exact HB.out)); (case side2 => exact Kd.R_tight rfl HO177.out); rintro e w26 ⟨rfl, hy0, hb, hkp⟩; refine ⟨_, rfl, ?_⟩; replace HO171 := sd_ (Kd.R_mono (ok' := fun k_ => some k_ ≠ (.slice Ao13 t175.length co13 : Value).ownBlock ∧ some k_ ≠ (.slice Ao22 t182.length co22 : Value).ownBlock) (Kd.R_keptB (HO171.out) hkp (fun k_ hk_ hs_ => (hk_.1.2) hs_)) (fun k_ hk_ => ⟨hk_.1.1.2, hk_.1.2⟩)); replace HO174 := sd_ (Kd.S_mono (ok' := fun k_ => k_ < w11.heap.size) (Kd.S_keptB (HO174.out) hkp (fun k_ hk_ hs_ => (hk_.1.1.2) hs_)) (fun k_ hk_ => hk_.1.1.1.1.1)); replace HO177 := sd_ (Kd.R_reok rfl hy0 (fun k_ e_ => HO177.out.1 k_ e_)); replace HO180 := sd_ (Kd.S_mono (ok' := fun k_ => w11.heap.size ≤ k_) (Kd.S_keptB (HO180.out) hkp (fun k_ hk_ hs_ => (hk_.1.2) hs_)) (fun k_ hk_ => hk_.1.1.1.1.1)); replace HO184 := sd_ (Kd.R_mono (ok' := fun k_ => some k_ ≠ (.slice Ao10 t169.length co10 : Value).ownBlock ∧ some k_ ≠ (.slice Ao13 t175.length co13 : Value).ownBlock) (Kd.R_keptB (HO184.out) hkp (fun k_ hk_ hs_ => (hk_.2) hs_)) (fun k_ hk_ => ⟨hk_.1.1.2, hk_.1.2⟩)); replace HB := sd_ (hb); (try clear hb); (try clear hkp); (try clear hy0)))
   (try simp only [Act.put, List.setIfInBounds_toArray, List.set_cons_zero, List.set_cons_succ])
   go_cut [39] (fun v39 wc => ∃ (kq : Nat) (x39_24 : Bool), v39 = .bool x39_24 ∧ Aside0 (laws_FnExactPartsOfType.j0 kq l0 t172 t178 x39_24 = some r) ∧ Aside0 (kq ≤ k) ∧ Aside0 (Kd.S (Kd.slice 3 (Kd.int .i64)) 22 wc w.heap.size (fun k_ => k_ < w11.heap.size) (.slice Ao16 t172.length co16) t172) ∧ Aside0 (Kd.S (Kd.slice 3 (Kd.int .i64)) 22 wc w.heap.size (fun k_ => w11.heap.size ≤ k_) (.slice Ao15 t178.length co15) t178) ∧ Aside0 (Below w.heap.size w wc))
   case first =>
    have H := HC25.out
    clear HC25
    by_cases c27 : t186 < 0
    ·rw [if_pos c27] at H
     have c27b0 : decide (t186 < 0) = true := decide_eq_true c27
     clear c27
     (first | rw [c27b0] | (simp only [i64_w, i32_w]; rw [c27b0]) | skip)
     have H' := sd_ H
     clear H
     go_wp2
     go_meet
     case rel => exact ⟨_, (true), sm_, H', ⟨by first | omega | exact Nat.le_refl _⟩, ⟨by (with_reducible repeat (first | apply Kd.S_alloc | apply Kd.S_drewN | apply Kd.S_drew)); exact HO174.out⟩, ⟨by (with_reducible repeat (first | apply Kd.S_alloc | apply Kd.S_drewN | apply Kd.S_drew)); exact HO180.out⟩, ⟨bw0_ HB.out⟩⟩
    rw [if_neg c27] at H
    have c27b0 : decide (t186 < 0) = false := decide_eq_false c27
    clear c27
    (first | rw [c27b0] | (simp only [i64_w, i32_w]; rw [c27b0]) | skip)
    replace H := Option.bind_eq_some_iff.mp H
    obtain ⟨t188, A280, H⟩ := H
    try dsimp only at H
    have A28 := sd_ A280
    clear A280
    have H' := sd_ H
    clear H
    go_wp2_with (first | (go_at_call 16; (with_reducible refine (laws_eqIntSS.calls k _ _ t178 _ _ t172 t188 _ ?side1 ?side2 ?side3 ?side4 A28.out).mono ?_); (case side1 => exact kp_ (Kd.S_reads' HO180.out).2.2); (case side2 => exact (Kd.S_reads' HO180.out).2.1); (case side3 => exact kp_ (Kd.S_reads' HO174.out).2.2); (case side4 => exact (Kd.S_reads' HO174.out).2.1); rintro e w' ⟨rfl, ⟨nd, rfl⟩⟩))
    go_meet
    case rel => exact ⟨_, (!t188), sm_, H', ⟨by first | omega | exact Nat.le_refl _⟩, ⟨by (with_reducible repeat (first | apply Kd.S_alloc | apply Kd.S_drewN | apply Kd.S_drew)); exact HO174.out⟩, ⟨by (with_reducible repeat (first | apply Kd.S_alloc | apply Kd.S_drewN | apply Kd.S_drew)); exact HO180.out⟩, ⟨bw0_ HB.out⟩⟩
   case rest =>
    clear HC25
    try clear c1
    try clear c2
    try clear c2b0
    try clear c2b1
    try clear c3
    try clear c13
    try clear c14
    try clear c15
    try clear c16
    try clear c17
    try clear c18
    try clear c23
    obtain ⟨kq, x39_24, rfl, HA, HJ24, HO_3, HO_5, HB⟩ := hcut
    cases kq with
    | zero => exact absurd HA.out (by simp [laws_FnExactPartsOfType.j0])
    | succ kj24 =>
     have H := HA.out
     clear HA
     simp only [laws_FnExactPartsOfType.j0] at H
     by_cases c29 : x39_24 = true
     ·subst c29
      have H1 : (some false) = some r := by rw [if_pos rfl] at H; exact H
      clear H
      have H := H1
      clear H1
      obtain rfl := Option.some.inj H
      exact absurd hr_ (by decide)
     replace c29 := Bool.eq_false_iff.mpr c29
     subst c29
     have H1 : ((laws_markIntSS.f kj24 t178 1).bind fun bt189 => ((laws_heldIntSS.f kj24 bt189.2 1).bind fun t191 => (if t191 < 0 then (some false) else (if t191 = bt189.1 then ((laws_toIntS.f kj24 l0).bind fun t192 => ((impl_PartsOfType.f kj24 t192).bind fun t195 => ((laws_eqIntSS.f kj24 t195 t172).bind fun t198 => (if t198 = true then ((laws_heldIntSS.f kj24 bt189.2 1).bind fun t199 => (if t199 < 0 then (some false) else (if t199 = bt189.1 then (some true) else (some false)))) else (some false))))) else (some false))))) = some r := by rw [if_neg (show ¬ (false = true) by decide)] at H; exact H
     clear H
     have H := H1
     clear H1
     replace H := Option.bind_eq_some_iff.mp H
     obtain ⟨⟨t189, t190⟩, A300, H⟩ := H
     try dsimp only at H
     have A30 := sd_ A300
     clear A300
     replace H := Option.bind_eq_some_iff.mp H
     obtain ⟨t191, A310, H⟩ := H
     try dsimp only at H
     have A31 := sd_ A310
     clear A310
     have HP32 := sd_ H
     clear H
     go_upto_if 47 with (first | ((with_reducible refine gate_callee (f := 19) rfl ?_); refine goesL_ (some 42) rfl rfl Try.func19 (by kernel_rfl) rfl #[.slice Ao15 t178.length co15, .int .i64 1] rfl la_ ?_; (with_reducible refine (laws_markIntSS.calls kj24 (fun k_ => w11.heap.size ≤ k_) (.slice Ao15 t178.length co15) t178 1 t189 t190 w _ ?side1 ?side2 A30.out).mono ?_); (case side1 => repeat (first | (with_reducible first | exact HB.out | apply below_alloc | apply pw_below_drewN | apply below_drew1) | exact HB.out)); (case side2 => exact (by (with_reducible repeat (first | apply Kd.S_alloc | apply Kd.S_drewN | apply Kd.S_drew)); exact HO_5.out)); rintro e w33 ⟨rfl, hy0, hb, hkp⟩; refine ⟨_, rfl, ?_⟩; replace HO_3 := sd_ (Kd.S_mono (ok' := fun _ => True) (Kd.S_keptB (HO_3.out) hkp (fun k_ hk_ hs_ => Nat.not_le.2 hk_ hs_)) (fun _ _ => trivial)); replace HO_5 := sd_ hy0; replace HB := sd_ (hb); (try clear hb); (try clear hkp); (try clear hy0)) | ((with_reducible refine gate_callee (f := 20) rfl ?_); refine goesL_ (some 45) rfl rfl Try.func20 (by kernel_rfl) rfl #[.slice Ao15 t190.length co15, .int .i64 1] rfl (by (try simp only [List.map_toArray, List.map_cons, List.map_nil]); first | done | (rw [show t190.length = t178.length from (Kd.S_reads' HO_5.out).1.symm] <;> rfl) | rfl | (simp only [List.length_drop, List.length_take]; rfl)) ?_; (with_reducible refine (laws_heldIntSS.calls kj24 _ _ t190 1 t191 _ ?side1 ?side2 A31.out).mono ?_); (case side1 => exact kp_ (Kd.S_reads' HO_5.out).2.2); (case side2 => rw [show t190.length = t178.length from (Kd.S_reads' HO_5.out).1.symm]; exact (Kd.S_reads' HO_5.out).2.1); rintro e w' ⟨rfl, ⟨nd, rfl⟩⟩; refine ⟨_, rfl, ?_⟩))
     have H := HP32.out
     clear HP32
     by_cases c34 : t191 < 0
     ·rw [if_pos c34] at H
      have c34b0 : decide (t191 < 0) = true := decide_eq_true c34
      clear c34
      (first | rw [c34b0] | (simp only [i64_w, i32_w]; rw [c34b0]) | skip)
      obtain rfl := Option.some.inj H
      exact absurd hr_ (by decide)
     rw [if_neg c34] at H
     have c34b0 : decide (t191 < 0) = false := decide_eq_false c34
     clear c34
     (first | rw [c34b0] | (simp only [i64_w, i32_w]; rw [c34b0]) | skip)
     by_cases c35 : t191 = t189
     ·rw [if_pos c35] at H
      have c35b0 : (t191 == t189) = true := beq_iff_eq.mpr c35
      have c35b1 : (t191 != t189) = false := bne_eq_false_iff_eq.mpr c35
      clear c35
      replace H := Option.bind_eq_some_iff.mp H
      obtain ⟨t192, A360, H⟩ := H
      try dsimp only at H
      have A36 := sd_ A360
      clear A360
      replace H := Option.bind_eq_some_iff.mp H
      obtain ⟨t195, A370, H⟩ := H
      try dsimp only at H
      have A37 := sd_ A370
      clear A370
      replace H := Option.bind_eq_some_iff.mp H
      obtain ⟨t198, A380, H⟩ := H
      try dsimp only at H
      have A38 := sd_ A380
      clear A380
      have HP39 := sd_ H
      clear H
      go_upto_if 57 with (first | ((with_reducible refine gate_callee (f := 14) rfl ?_); refine goesL_ (some 52) rfl rfl Try.func14 (by kernel_rfl) rfl #[.slice A0 l0.length c0] rfl la_ ?_; (with_reducible refine (laws_toIntS.calls kj24 _ _ l0 t192 _ (kc_ HR0.out HB.out) HC0.out A36.out).mono ?_); rintro e w40 ⟨v193, rfl, ho0, hb⟩; refine ⟨_, rfl, ?_⟩; replace HO_3 := sd_ (Kd.S_elder' (by (with_reducible repeat (first | apply Kd.S_alloc | apply Kd.S_drewN | apply Kd.S_drew)); exact HO_3.out) (Kd.R_base ho0) hb); replace HO_5 := sd_ (Kd.S_elder' (by (with_reducible repeat (first | apply Kd.S_alloc | apply Kd.S_drewN | apply Kd.S_drew)); exact HO_5.out) (Kd.R_base ho0) hb); have HO194 := sd_ (Kd.R_lower ho0 (below_size (bw0_ HB.out))); replace HB := sd_ (below_step (bw0_ HB.out) hb); (try clear hb); (try clear ho0); obtain ⟨Ao41, co41, eo41⟩ := Kd.R_slice HO194.out; subst eo41) | ((with_reducible refine gate_callee (f := 15) rfl ?_); refine goesL_ (some 53) rfl rfl Try.func15 (by kernel_rfl) rfl #[.slice Ao41 t192.length co41] rfl la_ ?_; (with_reducible refine (impl_PartsOfType.calls kj24 _ _ t192 t195 _ ?side1 ?side2 A37.out).mono ?_); (case side1 => exact kp_ (Kd.R_reads' HO194.out).2.2); (case side2 => exact (Kd.R_reads' HO194.out).2.1); rintro e w42 ⟨v196, rfl, ho0, hb⟩; refine ⟨_, rfl, ?_⟩; have HO197 := sd_ (Kd.S_lower (Kd.S_new' (Kd.S_new' (Kd.S_new' ho0 (Kd.S_lt (by (with_reducible repeat (first | apply Kd.S_alloc | apply Kd.S_drewN | apply Kd.S_drew)); exact HO_3.out))) (Kd.S_lt (by (with_reducible repeat (first | apply Kd.S_alloc | apply Kd.S_drewN | apply Kd.S_drew)); exact HO_5.out))) (Kd.R_lt (ro_ HO194.out))) (below_size (bw0_ HB.out))); replace HO_3 := sd_ (Kd.S_elder' (by (with_reducible repeat (first | apply Kd.S_alloc | apply Kd.S_drewN | apply Kd.S_drew)); exact HO_3.out) (Kd.S_base ho0) hb); replace HO_5 := sd_ (Kd.S_elder' (by (with_reducible repeat (first | apply Kd.S_alloc | apply Kd.S_drewN | apply Kd.S_drew)); exact HO_5.out) (Kd.S_base ho0) hb); replace HO194 := sd_ (Kd.R_below (ro_ HO194.out) hb); replace HB := sd_ (below_step (bw0_ HB.out) hb); (try clear hb); (try clear ho0); obtain ⟨Ao43, co43, eo43⟩ := Kd.S_slice HO197.out; subst eo43) | ((with_reducible refine gate_callee (f := 16) rfl ?_); refine goesL_ (some 56) rfl rfl Try.func16 (by kernel_rfl) rfl #[.slice Ao43 t195.length co43, .slice Ao16 t172.length co16] rfl la_ ?_; (with_reducible refine (laws_eqIntSS.calls kj24 _ _ t195 _ _ t172 t198 _ ?side1 ?side2 ?side3 ?side4 A38.out).mono ?_); (case side1 => exact kp_ (Kd.S_reads' HO197.out).2.2); (case side2 => exact (Kd.S_reads' HO197.out).2.1); (case side3 => exact kp_ (Kd.S_reads' HO_3.out).2.2); (case side4 => exact (Kd.S_reads' HO_3.out).2.1); rintro e w' ⟨rfl, ⟨nd, rfl⟩⟩; refine ⟨_, rfl, ?_⟩))
      have H := HP39.out
      clear HP39
      by_cases c44 : t198 = true
      ·subst c44
       have H1 : ((laws_heldIntSS.f kj24 t190 1).bind fun t199 => (if t199 < 0 then (some false) else (if t199 = t189 then (some true) else (some false)))) = some r := by rw [if_pos rfl] at H; exact H
       clear H
       have H := H1
       clear H1
       replace H := Option.bind_eq_some_iff.mp H
       obtain ⟨t199, A450, H⟩ := H
       try dsimp only at H
       have A45 := sd_ A450
       clear A450
       by_cases c46 : t199 < 0
       ·rw [if_pos c46] at H
        have c46b0 : decide (t199 < 0) = true := decide_eq_true c46
        clear c46
        (first | rw [c46b0] | (simp only [i64_w, i32_w]; rw [c46b0]) | skip)
        obtain rfl := Option.some.inj H
        exact absurd hr_ (by decide)
       rw [if_neg c46] at H
       have c46b0 : decide (t199 < 0) = false := decide_eq_false c46
       clear c46
       (first | rw [c46b0] | (simp only [i64_w, i32_w]; rw [c46b0]) | skip)
       by_cases c47 : t199 = t189
       ·rw [if_pos c47] at H
        have c47b0 : (t199 == t189) = true := beq_iff_eq.mpr c47
        have c47b1 : (t199 != t189) = false := bne_eq_false_iff_eq.mpr c47
        clear c47
        obtain rfl := Option.some.inj H
        go_wp2_with (first | ((with_reducible refine gate_callee (f := 20) rfl ?_); refine goesL_ (some 60) rfl rfl Try.func20 (by kernel_rfl) rfl #[.slice Ao15 t190.length co15, .int .i64 1] rfl (by (try simp only [List.map_toArray, List.map_cons, List.map_nil]); first | done | (rw [show t190.length = t178.length from (Kd.S_reads' HO_5.out).1.symm] <;> rfl) | rfl | (simp only [List.length_drop, List.length_take]; rfl)) ?_; (with_reducible refine (laws_heldIntSS.calls kj24 _ _ t190 1 t199 _ ?side1 ?side2 A45.out).mono ?_); (case side1 => exact kp_ (Kd.S_reads' HO_5.out).2.2); (case side2 => rw [show t190.length = t178.length from (Kd.S_reads' HO_5.out).1.symm]; exact (Kd.S_reads' HO_5.out).2.1); rintro e w' ⟨rfl, ⟨nd, rfl⟩⟩; refine ⟨_, rfl, ?_⟩))
        go_ret
        exact ⟨an_, bw0_ HB.out⟩
       rw [if_neg c47] at H
       have c47b0 : (t199 == t189) = false := beq_eq_false_iff_ne.mpr c47
       have c47b1 : (t199 != t189) = true := bne_iff_ne.mpr c47
       obtain rfl := Option.some.inj H
       exact absurd hr_ (by decide)
      replace c44 := Bool.eq_false_iff.mpr c44
      subst c44
      have H1 : (some false) = some r := by rw [if_neg (show ¬ (false = true) by decide)] at H; exact H
      clear H
      have H := H1
      clear H1
      obtain rfl := Option.some.inj H
      exact absurd hr_ (by decide)
     rw [if_neg c35] at H
     have c35b0 : (t191 == t189) = false := beq_eq_false_iff_ne.mpr c35
     have c35b1 : (t191 != t189) = true := bne_iff_ne.mpr c35
     obtain rfl := Option.some.inj H
     exact absurd hr_ (by decide)
  replace c23 := Bool.eq_false_iff.mpr c23
  subst c23
  have H1 : (some false) = some r := by rw [if_neg (show ¬ (false = true) by decide)] at H; exact H
  clear H
  have H := H1
  clear H1
  obtain rfl := Option.some.inj H
  exact absurd hr_ (by decide)
 replace c17 := Bool.eq_false_iff.mpr c17
 subst c17
 have H1 : (some false) = some r := by rw [if_neg (show ¬ (false = true) by decide)] at H; exact H
 clear H
 have H := H1
 clear H1
 obtain rfl := Option.some.inj H
 exact absurd hr_ (by decide)

def laws_FnExactPartsOfType.Pure : Prop := ∀ (l0 : List Int), ((∀ z ∈ l0, (Lit.int .i64 z).wf = true) ∧ l0.length ≤ maxLen) → ∃ k, laws_FnExactPartsOfType.f k l0 = some true

end Go.Proofs.Ytnokgkhkmnldeaa.P
