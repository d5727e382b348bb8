-- by hand: impl.PartsOfType
import Derived.Test.YtnokgkhkmnldeaaPf49
import Derived.Test.YtnokgkhkmnldeaaPf50
import Derived.Test.YtnokgkhkmnldeaaPf51
/-! short words -/
namespace Go.Proofs.Ytnokgkhkmnldeaa.P
open Go.RowKit Go.Proofs.YtnokgkhkmnldeaaW.PrintWords Go.Proofs.YtnokgkhkmnldeaaW.PrintLast Go.Proofs.YtnokgkhkmnldeaaW.PrintMore
attribute [local go_sem] max2_int min2_int max_two min_two max_three min_three max_four min_four   -- for this text's walks alone
set_option linter.unusedVariables false
set_option linter.unusedSimpArgs false
/-! ### impl_PartsOfType: function 15 (by hand) -/
def impl_PartsOfType.l0 : Nat → List (List Int) → List (List Int) → Int → Int → Option (List (List Int))
 | 0, _, _, _, _ => none
 | k + 1, x3, x11, x10, x12 => if x12 < x10 then (if 0 ≤ x12 then (if x12 < (x11.length : Int) then ((slices_Clone_int_int.f (rd_L1 x11 x12)).bind fun t165 => (if x3.length < 5864062014805 then (impl_PartsOfType.l0 k (x3 ++ [t165]) x11 x10 (wrap64 (x12 + 1))) else (none))) else (none)) else (none)) else (some x3)
def impl_PartsOfType.f (k : Nat) (l0 : List Int) : Option (List (List Int)) := (impl_isWrittenType.f k l0).bind fun t160 => (if t160 = true then ((impl_parts.f k l0).bind fun t161 => (impl_PartsOfType.l0 k ([] : List (List Int)) t161 (t161.length : Int) 0)) else (some ([] : List (List Int))))
set_option maxHeartbeats 8000000 in
set_option maxRecDepth 100000 in
theorem impl_PartsOfType.calls (k : Nat) (A0 : Option Addr) (c0 : Nat) (l0 : List Int) (r : List (List Int)) (w : World) (hr0 : Kd.C (Kd.int .i64) w A0 l0.length l0) (hc0 : l0.length ≤ c0) (h : impl_PartsOfType.f k l0 = some r) :
  Calls Try.prog 15 #[.slice A0 l0.length c0] w fun e w' => ∃ v0_ : Value, e = .returned (v0_) ∧ Kd.S (Kd.slice 3 (Kd.int .i64)) 22 w' w.heap.size (fun _ => True) v0_ r ∧ Below w.heap.size w w' := by
 have HR0 := sd_ hr0
 have HC0 := sd_ hc0
 have HV0 := sd_ (show Kd.V (Kd.int .i64) 3 w w.heap.size (fun _ => True) (.slice A0 l0.length c0) l0 from Kd.V_mk hc0 (fun W' hW => Kd.Heap.C (Kd.heap_int .i64) (fun k hk => hW k trivial hk) hr0))
 clear hr0 hc0
 have HB := sd_ (Below.refl w.heap.size w)
 have H : ((impl_isWrittenType.f k l0).bind fun t160 => (if t160 = true then ((impl_parts.f k l0).bind fun t161 => (impl_PartsOfType.l0 k ([] : List (List Int)) t161 (t161.length : Int) 0)) else (some ([] : List (List Int))))) = some r := h
 clear h
 replace H := Option.bind_eq_some_iff.mp H
 obtain ⟨t160, A20, H⟩ := H
 try dsimp only at H
 have A2 := sd_ A20
 clear A20
 by_cases c3 : t160 = true
 ·subst c3
  rw [if_pos rfl] at H
  replace H := Option.bind_eq_some_iff.mp H
  obtain ⟨t161, A40, H⟩ := H
  try dsimp only at H
  have A4 := sd_ A40
  clear A40
  have H' := sd_ H
  clear H
  go_enter Try.func15, Try.ntmps15
  go_wp2_with (first | ((with_reducible refine gate_callee (f := 49) rfl ?_); refine goesL_ (some 7) rfl rfl Try.func49 (by kernel_rfl) rfl #[.slice A0 l0.length c0] rfl la_ ?_; (with_reducible refine (impl_isWrittenType.calls k _ _ l0 true _ (kp_ HR0.out) HC0.out A2.out).mono ?_); rintro e w' ⟨rfl, ⟨nd, rfl⟩⟩; refine ⟨_, rfl, ?_⟩) | ((with_reducible refine gate_callee (f := 50) rfl ?_); refine goesL_ (some 10) rfl rfl Try.func50 (by kernel_rfl) rfl #[.slice A0 l0.length c0] rfl la_ ?_; (with_reducible refine (impl_parts.calls k (fun _ => True) _ _ l0 t161 _ ?side1 A4.out).mono ?_); (case side1 => exact (by (with_reducible repeat (first | apply Kd.V_alloc | apply Kd.V_drewN | apply Kd.V_drew)); exact HV0.out)); rintro e w5 ⟨v162, rfl, ho0, hb⟩; refine ⟨_, rfl, ?_⟩; obtain ⟨A6, c6, rfl⟩ := Kd.N_slice ho0; have HR6 := sd_ (Kd.N_reads' ho0).2.2; have HC6 := sd_ (Kd.N_reads' ho0).2.1; have HBW := sd_ (below_step (bw0_ HB.out) hb); have HB5 := sd_ (Below.refl w5.heap.size w5); clear ho0 hb))
  go_loopg [3, 12] k (fun kq v3 v12 w' => ∃ (x3_1 : List (List Int)) (x12_1 : Int), v12 = .int .i64 x12_1 ∧ Aside0 (impl_PartsOfType.l0 kq x3_1 t161 (t161.length : Int) x12_1 = some r) ∧ Aside0 (kq ≤ k) ∧ Aside0 (Kd.S (Kd.slice 3 (Kd.int .i64)) 22 w' w5.heap.size (fun _ => True) v3 x3_1) ∧ Aside0 (Below w5.heap.size w5 w'))
  case atStart => exact ⟨([] : List (List Int)), (0), sm_, H', ⟨Nat.le_refl _⟩, ⟨Kd.S_nil _ _ _ _ _⟩, ⟨bw0_ HB5.out⟩⟩
  case round =>
   clear H' HB5
   obtain ⟨x3_1, x12_1, rfl, HA, HK1, HO_3, HB5⟩ := hrel
   cases gk with
   | zero => exact absurd HA.out (by simp [impl_PartsOfType.l0])
   | succ k1 =>
    have H := HA.out
    clear HA
    simp only [impl_PartsOfType.l0] at H
    by_cases c7 : x12_1 < (t161.length : Int)
    ·rw [if_pos c7] at H
     have c7b0 : decide (x12_1 < (t161.length : Int)) = true := decide_eq_true c7
     by_cases c8 : 0 ≤ x12_1
     ·rw [if_pos c8, if_pos c7] at H
      have c8b0 : decide (0 ≤ x12_1) = true := decide_eq_true c8
      replace H := Option.bind_eq_some_iff.mp H
      obtain ⟨t165, A100, H⟩ := H
      try dsimp only at H
      have A10 := sd_ A100
      clear A100
      by_cases c11 : x3_1.length < 5864062014805
      ·rw [if_pos c11] at H
       have LMc11 := sd_ c11
       clear c11
       obtain ⟨y168, hy168⟩ : ∃ y_ : List (List Int), y_ = (x3_1 ++ [t165]) := ⟨_, rfl⟩
       rw [← hy168] at H
       have Ny168 := sd_ hy168
       clear hy168
       have H' := sd_ H
       clear H
       obtain ⟨ad164, A164_0, c164_0, e164, hx164_0, hl164_0, hi164_0⟩ := at_L1 (Kd.C_below HR6.out HB5.out) x12_1 c8 c7
       cases e164
       have HR164_0 := sd_ hi164_0
       have HC164_0 := sd_ hl164_0
       clear hi164_0 hl164_0
       have p164 := eq_true c8
       have q164 := eq_true c7
       clear c7 c8
       go_wp2_with (first | ((with_reducible refine gate_callee (f := 51) rfl ?_); refine goesL_ (some 18) rfl rfl Try.func51 (by kernel_rfl) rfl #[.slice A164_0 (rd_L1 t161 x12_1).length c164_0] rfl la_ ?_; (with_reducible refine (slices_Clone_int_int.calls _ _ (rd_L1 t161 x12_1) t165 _ (kp_ HR164_0.out) HC164_0.out A10.out).mono ?_); rintro e w11 ⟨v130, rfl, ho0, hb⟩; refine ⟨_, rfl, ?_⟩; replace HO_3 := sd_ (Kd.S_elder' (by (with_reducible repeat (first | apply Kd.S_alloc | apply Kd.S_drewN | apply Kd.S_drew)); exact HO_3.out) (Kd.R_base ho0) hb); have HO131 := sd_ (Kd.R_lower ho0 (below_size (bw0_ HB5.out))); replace HB5 := sd_ (below_step (bw0_ HB5.out) hb); (try clear hb); (try clear ho0); obtain ⟨Ao13, co13, eo13⟩ := Kd.R_slice HO131.out; subst eo13) | ((with_reducible refine gate_builtin (b := .append) (xs := #[.tmp 16, .tmp 19]) rfl ?_); at_builtin; refine Kd.S_append (Kd.slice 3 (Kd.int .i64)) (w0 := w5) w5.heap.size rfl (.tmp 16) (.tmp 19) 23 22 (.slice none 0 0) 24 rfl Try.underlying23 info22 rfl (by decide) (by omega) u3 x3_1 t165 [.slice Ao13 t165.length co13] (fun _ => True) (fun k_ => some k_ = (.slice Ao13 t165.length co13 : Value).ownBlock) rfl rfl ?aP (fun k_ hk_ => ((Kd.R_mono (ok' := fun k_ => ((fun _ => True)) k_ ∧ some k_ ≠ (u3 : Value).ownBlock) (Kd.R_apart' (HO131.out) (Kd.S_typed HO_3.out) (by decide)) (fun k_ hk => ⟨trivial, hk.2⟩))).1 k_ hk_.symm) ?aF ?aO ?aB ?aS ?aL ?_; (case aP => exact Kd.M_row (Kd.R_mono (Kd.R_tight rfl (Kd.R_mono (ok' := fun k_ => ((fun _ => True)) k_ ∧ some k_ ≠ (u3 : Value).ownBlock) (Kd.R_apart' (HO131.out) (Kd.S_typed HO_3.out) (by decide)) (fun k_ hk => ⟨trivial, hk.2⟩))) (fun _ h_ => h_))); (case aB => exact (bw0_ HB5.out)); (case aF => exact (fun _ _ => trivial)); (case aO => exact (by (with_reducible repeat (first | apply Kd.S_alloc | apply Kd.S_drewN | apply Kd.S_drew)); exact Kd.S_mono HO_3.out (fun k_ hk => ⟨trivial, fun e_ => hk.2 e_⟩))); (case aS => exact (below_size (bw0_ HB5.out))); (case aL => have := LMc11.out; omega); intro v133 w12 ho hb hg hat; rw [← Ny168.out] at ho; have n0_ := sd_ (hb); have n1_ := sd_ (ho); clear HB5; clear HO_3; clear HO131; have HB5 := n0_; have HO134 := n1_; clear n0_ n1_; clear ho hb hg hat))
       go_roundg k1
       case measure => have := HK1.out; omega
       case rel => exact ⟨(y168), (wrap64 (x12_1 + 1)), sm_, H', ⟨by have := HK1.out; omega⟩, ⟨by (with_reducible repeat (first | apply Kd.S_alloc | apply Kd.S_drewN | apply Kd.S_drew)); exact HO134.out⟩, ⟨bw0_ HB5.out⟩⟩
      rw [if_neg c11] at H
      exact absurd H (by simp)
     rw [if_neg c8] at H
     exact absurd H (by simp)
    rw [if_neg c7] at H
    have c7b0 : decide (x12_1 < (t161.length : Int)) = false := decide_eq_false c7
    clear c7
    obtain rfl := Option.some.inj H
    go_wp2
    go_ret
    exact ⟨_, an_, by (with_reducible repeat (first | apply Kd.S_alloc | apply Kd.S_drewN | apply Kd.S_drew)); exact Kd.S_lower HO_3.out (below_size HBW.out), by repeat (first | (with_reducible first | exact (below_step HBW.out HB5.out) | apply below_alloc | apply pw_below_drewN | apply below_drew1) | exact (below_step HBW.out HB5.out))⟩
 replace c3 := Bool.eq_false_iff.mpr c3
 subst c3
 rw [if_neg (show ¬ (false = true) by decide)] at H
 obtain rfl := Option.some.inj H
 go_enter Try.func15, Try.ntmps15
 go_wp2_with (first | ((with_reducible refine gate_callee (f := 49) rfl ?_); refine goesL_ (some 7) rfl rfl Try.func49 (by kernel_rfl) rfl #[.slice A0 l0.length c0] rfl la_ ?_; (with_reducible refine (impl_isWrittenType.calls k _ _ l0 false _ (kp_ HR0.out) HC0.out A2.out).mono ?_); rintro e w' ⟨rfl, ⟨nd, rfl⟩⟩; refine ⟨_, rfl, ?_⟩))
 go_ret
 exact ⟨_, an_, Kd.S_nil _ _ _ _ _, bw0_ HB.out⟩
end Go.Proofs.Ytnokgkhkmnldeaa.P
