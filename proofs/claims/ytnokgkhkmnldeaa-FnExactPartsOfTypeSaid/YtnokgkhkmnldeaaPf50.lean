-- Printed by this session's own program (wip/tools/mkprint.py) out of the translation. Not trusted: Lean checks it.
import Derived.Test.YtnokgkhkmnldeaaP0
import Derived.Test.YtnokgkhkmnldeaaPf86
/-! short words -/
namespace Go.Proofs.Ytnokgkhkmnldeaa.P
open Go.RowKit Go.Proofs.YtnokgkhkmnldeaaW.PrintWords Go.Proofs.YtnokgkhkmnldeaaW.PrintLast Go.Proofs.YtnokgkhkmnldeaaW.PrintMore
attribute [local go_sem] max2_int min2_int max_two min_two max_three min_three max_four min_four   -- for this text's walks alone
set_option linter.unusedVariables false
set_option linter.unusedSimpArgs false

/-! ### impl_parts: function 50 -/
def impl_parts.l0 : Nat → List Int → List (List Int) → Int → Option ((List (List Int)))
 | 0, _, _, _ => none
 | k + 1, x0, x3, x4 => if x4 < (x0.length : Int) then ((impl_typeEnd.f k x0 x4).bind fun t151 => (if 0 ≤ x4 then (if x4 ≤ t151 then (if t151 ≤ (x0.length : Int) then (if x3.length < 5864062014805 then (impl_parts.l0 k x0 (x3 ++ [((x0.take (t151 : Int).toNat).drop (x4 : Int).toNat)]) t151) else (none)) else (none)) else (none)) else (none))) else (some x3)
def impl_parts.f (k : Nat) (l0 : List Int) : Option ((List (List Int))) := impl_parts.l0 k l0 ([] : List (List Int)) 1
set_option maxHeartbeats 8000000 in
set_option maxRecDepth 100000 in
theorem impl_parts.calls (k : Nat) (P0_ : Nat → Prop) (A0 : Option Addr) (c0 : Nat) (l0 : List Int) (r : List (List Int)) (w : World) (hs0 : Kd.V (Kd.int .i64) 3 w w.heap.size (fun k_ => P0_ k_) (.slice A0 l0.length c0) l0) (h : impl_parts.f k l0 = some r) :
  Calls Try.prog 50 #[.slice A0 l0.length c0] w fun e w' => ∃ v0_ : Value, e = .returned (v0_) ∧ Kd.N (Kd.slice 3 (Kd.int .i64)) 22 w' w.heap.size (fun k_ => (P0_ k_ ∨ w.heap.size ≤ k_)) v0_ r ∧ Below w.heap.size w w' := by
 have HO0 := sd_ (show Kd.V (Kd.int .i64) 3 w w.heap.size (fun k_ => (P0_ k_ ∨ w.heap.size ≤ k_)) (.slice A0 l0.length c0) l0 from Kd.V_mono hs0 (fun k_ hk => .inl hk))
 have HB := sd_ (Below.refl w.heap.size w)
 have H : (impl_parts.l0 k l0 ([] : List (List Int)) 1) = some r := h
 clear h
 have H' := sd_ H
 clear H
 go_enter Try.func50, Try.ntmps50
 go_wp2
 go_loopg [3, 4] k (fun kq v3 v4 w' => ∃ (x3_1 : List (List Int)) (x4_1 : Int), v4 = .int .i64 x4_1 ∧ Aside0 (impl_parts.l0 kq l0 x3_1 x4_1 = some r) ∧ Aside0 (kq ≤ k) ∧ Aside0 (Kd.V (Kd.int .i64) 3 w' w.heap.size (fun k_ => (P0_ k_ ∨ w.heap.size ≤ k_) ∧ some k_ ≠ (v3 : Value).ownBlock) (.slice A0 l0.length c0) l0) ∧ Aside0 (Kd.N (Kd.slice 3 (Kd.int .i64)) 22 w' w.heap.size (fun k_ => (P0_ k_ ∨ w.heap.size ≤ k_)) v3 x3_1) ∧ Aside0 (Below w.heap.size w w'))
 case atStart => exact ⟨(([] : List (List Int))), (1), sm_, H', ⟨Nat.le_refl _⟩, ⟨by (with_reducible repeat (first | apply Kd.V_alloc | apply Kd.V_drewN | apply Kd.V_drew)); exact Kd.V_mono HO0.out (fun _ hk => ⟨hk, (by simp [Value.ownBlock])⟩)⟩, ⟨by first | exact Kd.S_nil _ _ _ _ _ | exact Kd.N_nil _ _ _ _ _ | exact Kd.V_nil _ _ _ _ _ | exact Kd.Q_nil _ _ _ _ _ | exact Kd.R_nil _ _ _ _ _⟩, ⟨bw0_ HB.out⟩⟩
 case round =>
  clear H'
  obtain ⟨x3_1, x4_1, rfl, HA, HK1, HO_0, HO_3, HB⟩ := hrel
  cases gk with
  | zero => exact absurd HA.out (by simp [impl_parts.l0])
  | succ k1 =>
   have H := HA.out
   clear HA
   simp only [impl_parts.l0] at H
   by_cases c2 : x4_1 < (l0.length : Int)
   ·rw [if_pos c2] at H
    have c2b0 : decide (x4_1 < (l0.length : Int)) = true := decide_eq_true c2
    clear c2
    replace H := Option.bind_eq_some_iff.mp H
    obtain ⟨t151, A30, H⟩ := H
    try dsimp only at H
    have A3 := sd_ A30
    clear A30
    by_cases c4 : 0 ≤ x4_1
    ·rw [if_pos c4] at H
     have c4b0 := eq_true c4
     have c4b1 : decide (0 ≤ x4_1) = true := decide_eq_true c4
     clear c4
     by_cases c5 : x4_1 ≤ t151
     ·rw [if_pos c5] at H
      have c5b0 := eq_true c5
      have c5b1 : decide (x4_1 ≤ t151) = true := decide_eq_true c5
      clear c5
      by_cases c6 : t151 ≤ (l0.length : Int)
      ·rw [if_pos c6] at H
       have c6b0 := eq_true c6
       have c6b1 : decide (t151 ≤ (l0.length : Int)) = true := decide_eq_true c6
       clear c6
       obtain ⟨y152, hy152⟩ : ∃ y_ : List Int, y_ = ((l0.take (t151 : Int).toNat).drop (x4_1 : Int).toNat) := ⟨_, rfl⟩
       replace H : (if x3_1.length < 5864062014805 then (impl_parts.l0 k1 l0 (x3_1 ++ [y152]) t151) else (none)) = some r := by first | (rw [hy152]; with_reducible exact H) | (have H2_ := (Option.bind_some _ _).symm.trans H; rw [hy152]; with_reducible exact H2_) | (have H2_ := (Option.bind_some _ _).symm.trans H; with_reducible exact H2_) | with_reducible exact H | (rw [hy152]; exact H) | exact H
       have Ny152 := sd_ hy152
       clear hy152
       by_cases c7 : x3_1.length < 5864062014805
       ·rw [if_pos c7] at H
        have LMc7 := sd_ c7
        clear c7
        obtain ⟨y157, hy157⟩ : ∃ y_ : List (List Int), y_ = (x3_1 ++ [y152]) := ⟨_, rfl⟩
        replace H : (impl_parts.l0 k1 l0 y157 t151) = some r := by first | (rw [hy157]; with_reducible exact H) | (have H2_ := (Option.bind_some _ _).symm.trans H; rw [hy157]; with_reducible exact H2_) | (have H2_ := (Option.bind_some _ _).symm.trans H; with_reducible exact H2_) | with_reducible exact H | (rw [hy157]; exact H) | exact H
        have Ny157 := sd_ hy157
        clear hy157
        have H' := sd_ H
        clear H
        go_wp2_with (first | ((with_reducible refine gate_callee (f := 86) rfl ?_); refine goesL_ (some 12) rfl rfl Try.func86 (by kernel_rfl) rfl #[.slice A0 l0.length c0, .int .i64 x4_1] rfl la_ ?_; (with_reducible refine (impl_typeEnd.calls k1 _ _ l0 x4_1 t151 _ ?side1 ?side2 A3.out).mono ?_); (case side1 => exact kp_ (Kd.V_reads' HO_0.out).2.2); (case side2 => exact (Kd.V_reads' HO_0.out).2.1); rintro e w' ⟨rfl, ⟨nd, rfl⟩⟩; refine ⟨_, rfl, ?_⟩; have q8 : (t151 : Int) ≤ ((l0.length : Int) : Int) := dt_; obtain ⟨i08, hi08, _, hsz8, _⟩ := info_parts info3; have hroom8 : l0.length ≤ c0 := (Kd.V_reads' HO_0.out).2.1; have hC8 : Kd.F (Kd.int .i64) _ _ A0 l0.length l0 := (Kd.V_at (base := w.heap.size) HO_0.out).2.2; have ql8 : (x4_1 : Int) ≤ (t151 : Int) := dt_; have q08 : (0 : Int) ≤ (x4_1 : Int) := dt_; have hcut8 := cut_mid3 (P := Try.prog) 22 3 .i64 .i64 Try.underlying22 hi08 1 hsz8 A0 l0.length c0 x4_1 t151 q08 ql8 q8 hroom8; have hr8 := Kd.F_mid3 (lo := (x4_1 : Int).toNat) (hi := (t151 : Int).toNat) (c := c0) hC8 (by omega) (by omega) hroom8; obtain ⟨A8, hA8⟩ : ∃ A1, A1 = (if (t151 : Int).toNat = (x4_1 : Int).toNat then A0 else (A0 : Option Addr).map (·.add ((x4_1 : Int).toNat * 1))) := ⟨_, rfl⟩; obtain ⟨c8, hc8⟩ : ∃ c1, c1 = (t151 : Int).toNat - (x4_1 : Int).toNat := ⟨_, rfl⟩; have hy8 : y152.length = (t151 : Int).toNat - (x4_1 : Int).toNat := (by rw [Ny152.out, List.length_drop, List.length_take] <;> omega); rw [show ((l0).take (t151 : Int).toNat).drop (x4_1 : Int).toNat = y152 from Ny152.out.symm] at hr8; replace hr8 : Kd.F (Kd.int .i64) _ _ A8 y152.length y152 := (by rw [hA8]; exact hr8); replace hcut8 := cut_as3 hcut8 hA8 hy8 hc8; have HO156 := sd_ (show Kd.V (Kd.int .i64) 3 _ w.heap.size _ (.slice A8 y152.length c8) y152 from Kd.V_mk (by omega) hr8); have HC156 := sd_ (show y152.length ≤ c8 from by omega); clear hr8 hC8 hroom8 hi08 hsz8 hc8; have KY8 := sd_ hy8; have KA8 := sd_ hA8; clear hy8 hA8; replace q8 := eq_true q8) | ((with_reducible refine gate_builtin (b := .append) (xs := #[.tmp 13, .tmp 19]) rfl ?_); at_builtin; refine Kd.N_append (Kd.slice 3 (Kd.int .i64)) (w0 := w) w.heap.size rfl (.tmp 13) (.tmp 19) 23 22 (.slice none 0 0) 24 rfl Try.underlying23 info22 rfl (by decide) (by omega) u3 x3_1 y152 [.slice A8 y152.length c8] (fun k_ => (P0_ k_ ∨ w.heap.size ≤ k_)) (fun k_ => ((fun k_ => (P0_ k_ ∨ w.heap.size ≤ k_))) k_ ∧ some k_ ≠ (u3 : Value).ownBlock) rfl rfl ?aP (fun _ hk => hk) ?aF ?aO ?aB ?aS ?aL ?_; (case aP => exact (Kd.FK_slice_mk (Kd.V_reads' (base := w.heap.size) (e := 3) (Kd.V_mono (ok' := (fun k_ => ((fun k_ => (P0_ k_ ∨ w.heap.size ≤ k_))) k_ ∧ some k_ ≠ (u3 : Value).ownBlock)) (HO156.out) (fun k_ hk => ⟨hk.1, hk.2⟩))).2.1 (Kd.V_F (base := w.heap.size) (e := 3) (Kd.V_mono (ok' := (fun k_ => ((fun k_ => (P0_ k_ ∨ w.heap.size ≤ k_))) k_ ∧ some k_ ≠ (u3 : Value).ownBlock)) (HO156.out) (fun k_ hk => ⟨hk.1, hk.2⟩))))); (case aB => exact (bw0_ HB.out)); (case aF => exact (fun k_ hk => (.inr (Nat.le_trans (below_size (bw0_ HB.out)) hk)))); (case aO => exact (by (with_reducible repeat (first | apply Kd.N_alloc | apply Kd.N_drewN | apply Kd.N_drew)); exact HO_3.out)); (case aS => exact (below_size (bw0_ HB.out))); (case aL => have := LMc7.out; omega); intro v158 w9 ho hb hg hat; rw [← Ny157.out] at ho; have n0_ := sd_ (Kd.V_afterv (ok := (fun k_ => (P0_ k_ ∨ w.heap.size ≤ k_))) (by (with_reducible repeat (first | apply Kd.V_alloc | apply Kd.V_drewN | apply Kd.V_drew)); exact HO_0.out) hg hat); have n1_ := sd_ (Kd.V_afterv (ok := (fun k_ => (P0_ k_ ∨ w.heap.size ≤ k_))) (by (with_reducible repeat (first | apply Kd.V_alloc | apply Kd.V_drewN | apply Kd.V_drew)); exact HO156.out) hg hat); have n2_ := sd_ (hb); have n3_ := sd_ (ho); clear HO_0; clear HO156; clear HB; clear HO_3; have HO_0 := n0_; have HO156 := n1_; have HB := n2_; have HO159 := n3_; clear n0_ n1_ n2_ n3_; clear ho hb hg hat))
        go_roundg k1
        case measure => have := HK1.out; omega
        case rel => exact ⟨(y157), (t151), sm_, H', ⟨by have := HK1.out; omega⟩, ⟨by (with_reducible repeat (first | apply Kd.V_alloc | apply Kd.V_drewN | apply Kd.V_drew)); exact HO_0.out⟩, ⟨by (with_reducible repeat (first | apply Kd.N_alloc | apply Kd.N_drewN | apply Kd.N_drew)); exact HO159.out⟩, ⟨bw0_ HB.out⟩⟩
       rw [if_neg c7] at H
       exact absurd H (by simp)
      rw [if_neg c6] at H
      exact absurd H (by simp)
     rw [if_neg c5] at H
     exact absurd H (by simp)
    rw [if_neg c4] at H
    exact absurd H (by simp)
   rw [if_neg c2] at H
   have c2b0 : decide (x4_1 < (l0.length : Int)) = false := decide_eq_false c2
   clear c2
   obtain rfl := Option.some.inj H
   go_wp2
   go_ret
   exact ⟨_, an_, by (with_reducible repeat (first | apply Kd.N_alloc | apply Kd.N_drewN | apply Kd.N_drew)); exact HO_3.out, bw0_ HB.out⟩

end Go.Proofs.Ytnokgkhkmnldeaa.P
