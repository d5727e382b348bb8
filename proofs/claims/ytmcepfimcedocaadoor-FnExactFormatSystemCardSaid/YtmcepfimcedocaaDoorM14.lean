-- Several texts in one (wip/tools/merge.py).
import Derived.Test.YtmcepfimcedocaaDoorP0
import Derived.Test.YtmcepfimcedocaaDoorM3
import Derived.Test.YtmcepfimcedocaaDoorM13
import Derived.Test.YtmcepfimcedocaaDoorM12
import Derived.Test.YtmcepfimcedocaaDoorM7
section
/-! shorter words -/
namespace Go.Proofs.YtmcepfimcedocaaDoor.P
open Go.RowKit Go.Proofs.YtmcepfimcedocaaDoorW.PrintWords Go.Proofs.YtmcepfimcedocaaDoorW.PrintLast Go.Proofs.YtmcepfimcedocaaDoorW.PrintMore
attribute [local go_sem] max2_int min2_int max_two min_two max_three min_three max_four min_four   -- for this text's walks alone
set_option linter.unusedVariables false
set_option linter.unusedSimpArgs false

/-! ### impl_simple: function 23 -/
mutual
def impl_simple.l0 : Nat → List (S48) → Int → Option ((List (S48)))
 | 0, _, _ => none
 | k + 1, x1, x2 => if x2 ≤ 14 then ((strconv_Itoa_50.f x2).bind fun t497 => (if 6 + t497.size ≤ 9223372036854775807 then ((impl_CountSystem.f k x2).bind fun bt498 => (if x1.length < 1466015503701 then (impl_simple.l0 k (x1 ++ [(⟨(⟨#[99, 111, 117, 110, 116, 32]⟩ : ByteArray) ++ t497, (⟨bt498.1, bt498.2.1, bt498.2.2.1, bt498.2.2.2⟩ : S28)⟩ : S48)]) (wrap64 (x2 + 1))) else (none))) else (none))) else (impl_simple.l1 k x1 1)
def impl_simple.l1 : Nat → List (S48) → Int → Option ((List (S48)))
 | 0, _, _ => none
 | k + 1, x1, x3 => if x3 ≤ 14 then ((strconv_Itoa_50.f x3).bind fun t511 => (if 6 + t511.size ≤ 9223372036854775807 then ((impl_BoundSystem.f k x3).bind fun bt512 => (if x1.length < 1466015503701 then (impl_simple.l1 k (x1 ++ [(⟨(⟨#[98, 111, 117, 110, 100, 32]⟩ : ByteArray) ++ t511, (⟨bt512.1, bt512.2.1, bt512.2.2.1, bt512.2.2.2⟩ : S28)⟩ : S48)]) (wrap64 (x3 + 1))) else (none))) else (none))) else (impl_simple.l2 k x1 1)
def impl_simple.l2 : Nat → List (S48) → Int → Option ((List (S48)))
 | 0, _, _ => none
 | k + 1, x1, x4 => if x4 ≤ 15 then ((strconv_Itoa_50.f x4).bind fun t525 => (if 6 + t525.size ≤ 9223372036854775807 then ((impl_LevelSystem.f k x4).bind fun bt526 => (if x1.length < 1466015503701 then (impl_simple.l2 k (x1 ++ [(⟨(⟨#[108, 101, 118, 101, 108, 32]⟩ : ByteArray) ++ t525, (⟨bt526.1, bt526.2.1, bt526.2.2.1, bt526.2.2.2⟩ : S28)⟩ : S48)]) (wrap64 (x4 + 1))) else (none))) else (none))) else (some x1)
end
def impl_simple.f (k : Nat)  : Option ((List (S48))) := impl_simple.l0 k ([] : List (S48)) 1
set_option maxHeartbeats 8000000 in
set_option maxRecDepth 100000 in
theorem impl_simple.calls (k : Nat)  (r : List (S48)) (w : World) (h : impl_simple.f k  = some r) :
  Calls Tryd.prog 23 #[] w fun e w' => ∃ v0_ : Value, e = .returned (v0_) ∧ Kd.S k48 48 w' w.heap.size (fun _ => True) v0_ r ∧ Below w.heap.size w w' := by
 have hu48 := Tryd.underlying48; have HB := sd_ (Below.refl w.heap.size w); have H : (impl_simple.l0 k ([] : List (S48)) 1) = some r := h; clear h; have H' := sd_ H; clear H; go_enter Tryd.func23, Tryd.ntmps23; go_wp2
 go_loopg [1, 2] k (fun kq v1 v2 w' => ∃ (x1_1 : List (S48)) (x2_1 : Int), v2 = .int .i64 x2_1 ∧ Aside0 (impl_simple.l0 kq x1_1 x2_1 = some r) ∧ Aside0 (kq ≤ k) ∧ Aside0 (Kd.S k48 48 w' w.heap.size (fun _ => True) v1 x1_1) ∧ Aside0 (Below w.heap.size w w'))
 case atStart => exact ⟨(([] : List (S48))), (1), sm_, H', ⟨Nat.le_refl _⟩, ⟨by first | exact Kd.S_nil _ _ _ _ _ | exact Kd.N_nil _ _ _ _ _ | exact Kd.V_nil _ _ _ _ _ | exact Kd.Q_nil _ _ _ _ _ | exact Kd.R_nil _ _ _ _ _⟩, ⟨bw0_ HB.out⟩⟩
 case round =>
  clear H'; obtain ⟨x1_1, x2_1, rfl, HA, HK1, HO_1, HB⟩ := hrel
  cases gk with
  | zero => exact absurd HA.out (by simp [impl_simple.l0])
  | succ k1 =>
   have H := HA.out; clear HA; simp only [impl_simple.l0] at H; revert H; refine ic_ (fun c1b0 H => ?_) (fun c1b0 H => ?_)
   ·revert H; refine ob_ fun t497 A2 H => ?_
    by_cases c3 : 6 + t497.size ≤ 9223372036854775807
    ·rw [if_pos c3] at H; have c3b0 := eq_true c3; have c3b1 : decide (6 + t497.size ≤ 9223372036854775807) = true := decide_eq_true c3
     try have c3b2 : (9223372036854775807 < 6 + t497.size) = False := eq_false (Nat.not_lt.2 c3)
     replace H := oc_ H; obtain ⟨⟨t498, t499, t502, t505⟩, A4, H⟩ := H; (try dsimp only at H)
     revert H; refine il_ fun LMc5 H => ?_
     generalize hy508 : (x1_1 ++ [(⟨(⟨#[99, 111, 117, 110, 116, 32]⟩ : ByteArray) ++ t497, (⟨t498, t499, t502, t505⟩ : S28)⟩ : S48)] : List (S48)) = y508 at H; have Ny508 := sd_ hy508.symm; clear hy508; have H' := sd_ H; clear H; go_wp2_with (first | ((with_reducible refine gate_callee (f := 50) rfl ?_); refine goesL_ (some 11) rfl rfl Tryd.func50 (by kernel_rfl) rfl #[.int .i64 x2_1] rfl la_ ?_; (with_reducible refine (strconv_Itoa_50.calls x2_1 t497 _ A2.out).mono ?_); rintro e w' ⟨rfl, ⟨nd, rfl⟩⟩; refine ⟨_, rfl, ?_⟩) | ((with_reducible refine gate_callee (f := 51) rfl ?_); refine goesL_ (some 14) rfl rfl Tryd.func51 (by kernel_rfl) rfl #[.int .i64 x2_1] rfl la_ ?_; (with_reducible refine (impl_CountSystem.calls k1 x2_1 t498 t499 t502 t505 _ A4.out).mono ?_); rintro e w6 ⟨v500, v503, v506, rfl, ho0, ho1, ho2, hb⟩; refine ⟨_, rfl, ?_⟩; replace HO_1 := sd_ (Kd.S_mono (Kd.S_told (Kd.S_told (Kd.S_told (Kd.S_old (by (with_reducible repeat (first | apply Kd.S_alloc | apply Kd.S_drewN | apply Kd.S_drew)); exact HO_1.out) hb) (Kd.R_base ho0)) (Kd.R_base ho1)) (Kd.R_base ho2)) (fun _ h_ => h_.1)); have HO501 := sd_ (Kd.R_lower ho0 (below_size (bw0_ HB.out))); have HO504 := sd_ (Kd.R_lower ho1 (below_size (bw0_ HB.out))); have HO507 := sd_ (Kd.R_lower ho2 (below_size (bw0_ HB.out))); replace HB := sd_ (below_step (bw0_ HB.out) hb); (try clear ho0); (try clear ho1); (try clear ho2); obtain ⟨Ao7, co7, eo7⟩ := Kd.R_slice HO507.out; subst eo7; obtain ⟨Ao8, co8, eo8⟩ := Kd.R_slice HO504.out; subst eo8; obtain ⟨Ao9, co9, eo9⟩ := Kd.R_slice HO501.out; subst eo9) | ((with_reducible refine gate_builtin (b := .append) (xs := #[.tmp 9, .tmp 16]) rfl ?_); at_builtin; refine Kd.S_append k48 (w0 := w) w.heap.size rfl (.tmp 9) (.tmp 16) 45 48 (.agg #[(.string ⟨#[]⟩), (.int .i64 0), (.slice none 0 0), (.slice none 0 0), (.slice none 0 0)]) 96 rfl Tryd.underlying45 info48 rfl (by decide) (by omega) u1 x1_1 (⟨(⟨#[99, 111, 117, 110, 116, 32]⟩ : ByteArray) ++ t497, (⟨t498, t499, t502, t505⟩ : S28)⟩ : S48) [.string ((⟨#[99, 111, 117, 110, 116, 32]⟩ : ByteArray) ++ t497), .int .i64 t498, .slice Ao9 t499.length co9, .slice Ao8 t502.length co8, .slice Ao7 t505.length co7] (fun _ => True) (fun k_ => some k_ = (.slice Ao9 t499.length co9 : Value).ownBlock ∨ some k_ = (.slice Ao8 t502.length co8 : Value).ownBlock ∨ some k_ = (.slice Ao7 t505.length co7 : Value).ownBlock) rfl rfl ?aP (fun k_ hk_ => hk_.elim (fun h_ => ((Kd.R_mono (ok' := fun k_ => ((fun _ => True)) k_ ∧ some k_ ≠ (u1 : Value).ownBlock) (Kd.R_apart' (HO501.out) (Kd.S_typed HO_1.out) (by decide)) (fun k_ hk => ⟨trivial, hk.2⟩))).1 k_ h_.symm) (fun h_ => h_.elim (fun h_ => ((Kd.R_mono (ok' := fun k_ => ((fun _ => True)) k_ ∧ some k_ ≠ (u1 : Value).ownBlock) (Kd.R_apart' (HO504.out) (Kd.S_typed HO_1.out) (by decide)) (fun k_ hk => ⟨trivial, hk.2⟩))).1 k_ h_.symm) (fun h_ => ((Kd.R_mono (ok' := fun k_ => ((fun _ => True)) k_ ∧ some k_ ≠ (u1 : Value).ownBlock) (Kd.R_apart' (HO507.out) (Kd.S_typed HO_1.out) (by decide)) (fun k_ hk => ⟨trivial, hk.2⟩))).1 k_ h_.symm))) ?aF ?aO ?aB ?aS ?aL ?_; (case aP => exact k48_mkM _ _ _ (⟨(⟨#[99, 111, 117, 110, 116, 32]⟩ : ByteArray) ++ t497, (⟨t498, t499, t502, t505⟩ : S28)⟩ : S48) (Kd.R_mono (Kd.R_tight rfl (Kd.R_mono (ok' := fun k_ => ((fun _ => True)) k_ ∧ some k_ ≠ (u1 : Value).ownBlock) (Kd.R_apart' (HO501.out) (Kd.S_typed HO_1.out) (by decide)) (fun k_ hk => ⟨trivial, hk.2⟩))) (fun _ h_ => Or.inl h_)) (Kd.R_mono (Kd.R_tight rfl (Kd.R_mono (ok' := fun k_ => ((fun _ => True)) k_ ∧ some k_ ≠ (u1 : Value).ownBlock) (Kd.R_apart' (HO504.out) (Kd.S_typed HO_1.out) (by decide)) (fun k_ hk => ⟨trivial, hk.2⟩))) (fun _ h_ => Or.inr (Or.inl h_))) (Kd.R_mono (Kd.R_tight rfl (Kd.R_mono (ok' := fun k_ => ((fun _ => True)) k_ ∧ some k_ ≠ (u1 : Value).ownBlock) (Kd.R_apart' (HO507.out) (Kd.S_typed HO_1.out) (by decide)) (fun k_ hk => ⟨trivial, hk.2⟩))) (fun _ h_ => Or.inr (Or.inr (h_)))) (fun k_ e1_ e2_ => by have z_ := HO501.out.1 k_ e1_; first | exact z_ e2_.symm | exact z_.2 e2_.symm | exact z_.1 e2_.symm | exact z_.1.2 e2_.symm)); (case aB => exact (bw0_ HB.out)); (case aF => exact (fun _ _ => trivial)); (case aO => exact (by (with_reducible repeat (first | apply Kd.S_alloc | apply Kd.S_drewN | apply Kd.S_drew)); exact Kd.S_mono HO_1.out (fun k_ hk => ⟨trivial, fun e_ => e_.elim (fun h_ => hk.1.1.2 h_) (fun h_ => h_.elim (fun h_ => hk.1.2 h_) (fun h_ => hk.2 h_))⟩))); (case aS => exact (below_size (bw0_ HB.out))); (case aL => have := LMc5.out; omega); intro v509 w10 ho hb hg hat; rw [← Ny508.out] at ho; have n0_ := sd_ (hb); have n1_ := sd_ (ho); clear HB; clear HO_1; clear HO501; clear HO504; clear HO507; have HB := n0_; have HO510 := n1_; clear n0_ n1_; clear ho hb hg hat))
     go_roundg k1
     case measure => have := HK1.out; omega
     case rel => exact ⟨(y508), (wrap64 (x2_1 + 1)), sm_, H', ⟨by have := HK1.out; omega⟩, ⟨by (with_reducible repeat (first | apply Kd.S_alloc | apply Kd.S_drewN | apply Kd.S_drew)); exact HO510.out⟩, ⟨bw0_ HB.out⟩⟩
    rw [if_neg c3] at H; exact absurd H (by simp)
   have H' := sd_ H; clear H; go_wp2
   go_loopg [1, 3] k1 (fun kq v1 v3 w' => ∃ (x1_2 : List (S48)) (x3_2 : Int), v3 = .int .i64 x3_2 ∧ Aside0 (impl_simple.l1 kq x1_2 x3_2 = some r) ∧ Aside0 (kq ≤ k1) ∧ Aside0 (Kd.S k48 48 w' w.heap.size (fun _ => True) v1 x1_2) ∧ Aside0 (Below w.heap.size w w'))
   case atStart => exact ⟨(x1_1), (1), sm_, H', ⟨Nat.le_refl _⟩, ⟨by (with_reducible repeat (first | apply Kd.S_alloc | apply Kd.S_drewN | apply Kd.S_drew)); exact HO_1.out⟩, ⟨bw0_ HB.out⟩⟩
   case round =>
    clear H'; (try clear c1); (try clear c1b0); (try clear c2); (try clear p2); obtain ⟨x1_2, x3_2, rfl, HA, HK2, HO_1, HB⟩ := hrel
    cases gk with
    | zero => exact absurd HA.out (by simp [impl_simple.l1])
    | succ k2 =>
     have H := HA.out; clear HA; simp only [impl_simple.l1] at H; revert H; refine ic_ (fun c11b0 H => ?_) (fun c11b0 H => ?_)
     ·revert H; refine ob_ fun t511 A12 H => ?_
      by_cases c13 : 6 + t511.size ≤ 9223372036854775807
      ·rw [if_pos c13] at H; have c13b0 := eq_true c13; have c13b1 : decide (6 + t511.size ≤ 9223372036854775807) = true := decide_eq_true c13
       try have c13b2 : (9223372036854775807 < 6 + t511.size) = False := eq_false (Nat.not_lt.2 c13)
       replace H := oc_ H; obtain ⟨⟨t512, t513, t516, t519⟩, A14, H⟩ := H; (try dsimp only at H)
       revert H; refine il_ fun LMc15 H => ?_
       generalize hy522 : (x1_2 ++ [(⟨(⟨#[98, 111, 117, 110, 100, 32]⟩ : ByteArray) ++ t511, (⟨t512, t513, t516, t519⟩ : S28)⟩ : S48)] : List (S48)) = y522 at H; have Ny522 := sd_ hy522.symm; clear hy522; have H' := sd_ H; clear H; go_wp2_with (first | ((with_reducible refine gate_callee (f := 50) rfl ?_); refine goesL_ (some 24) rfl rfl Tryd.func50 (by kernel_rfl) rfl #[.int .i64 x3_2] rfl la_ ?_; (with_reducible refine (strconv_Itoa_50.calls x3_2 t511 _ A12.out).mono ?_); rintro e w' ⟨rfl, ⟨nd, rfl⟩⟩; refine ⟨_, rfl, ?_⟩) | ((with_reducible refine gate_callee (f := 52) rfl ?_); refine goesL_ (some 27) rfl rfl Tryd.func52 (by kernel_rfl) rfl #[.int .i64 x3_2] rfl la_ ?_; (with_reducible refine (impl_BoundSystem.calls k2 x3_2 t512 t513 t516 t519 _ A14.out).mono ?_); rintro e w16 ⟨v514, v517, v520, rfl, ho0, ho1, ho2, hb⟩; refine ⟨_, rfl, ?_⟩; replace HO_1 := sd_ (Kd.S_mono (Kd.S_told (Kd.S_told (Kd.S_told (Kd.S_old (by (with_reducible repeat (first | apply Kd.S_alloc | apply Kd.S_drewN | apply Kd.S_drew)); exact HO_1.out) hb) (Kd.R_base ho0)) (Kd.R_base ho1)) (Kd.R_base ho2)) (fun _ h_ => h_.1)); have HO515 := sd_ (Kd.R_lower ho0 (below_size (bw0_ HB.out))); have HO518 := sd_ (Kd.R_lower ho1 (below_size (bw0_ HB.out))); have HO521 := sd_ (Kd.R_lower ho2 (below_size (bw0_ HB.out))); replace HB := sd_ (below_step (bw0_ HB.out) hb); (try clear ho0); (try clear ho1); (try clear ho2); obtain ⟨Ao17, co17, eo17⟩ := Kd.R_slice HO521.out; subst eo17; obtain ⟨Ao18, co18, eo18⟩ := Kd.R_slice HO518.out; subst eo18; obtain ⟨Ao19, co19, eo19⟩ := Kd.R_slice HO515.out; subst eo19) | ((with_reducible refine gate_builtin (b := .append) (xs := #[.tmp 22, .tmp 29]) rfl ?_); at_builtin; refine Kd.S_append k48 (w0 := w) w.heap.size rfl (.tmp 22) (.tmp 29) 45 48 (.agg #[(.string ⟨#[]⟩), (.int .i64 0), (.slice none 0 0), (.slice none 0 0), (.slice none 0 0)]) 96 rfl Tryd.underlying45 info48 rfl (by decide) (by omega) u1 x1_2 (⟨(⟨#[98, 111, 117, 110, 100, 32]⟩ : ByteArray) ++ t511, (⟨t512, t513, t516, t519⟩ : S28)⟩ : S48) [.string ((⟨#[98, 111, 117, 110, 100, 32]⟩ : ByteArray) ++ t511), .int .i64 t512, .slice Ao19 t513.length co19, .slice Ao18 t516.length co18, .slice Ao17 t519.length co17] (fun _ => True) (fun k_ => some k_ = (.slice Ao19 t513.length co19 : Value).ownBlock ∨ some k_ = (.slice Ao18 t516.length co18 : Value).ownBlock ∨ some k_ = (.slice Ao17 t519.length co17 : Value).ownBlock) rfl rfl ?aP (fun k_ hk_ => hk_.elim (fun h_ => ((Kd.R_mono (ok' := fun k_ => ((fun _ => True)) k_ ∧ some k_ ≠ (u1 : Value).ownBlock) (Kd.R_apart' (HO515.out) (Kd.S_typed HO_1.out) (by decide)) (fun k_ hk => ⟨trivial, hk.2⟩))).1 k_ h_.symm) (fun h_ => h_.elim (fun h_ => ((Kd.R_mono (ok' := fun k_ => ((fun _ => True)) k_ ∧ some k_ ≠ (u1 : Value).ownBlock) (Kd.R_apart' (HO518.out) (Kd.S_typed HO_1.out) (by decide)) (fun k_ hk => ⟨trivial, hk.2⟩))).1 k_ h_.symm) (fun h_ => ((Kd.R_mono (ok' := fun k_ => ((fun _ => True)) k_ ∧ some k_ ≠ (u1 : Value).ownBlock) (Kd.R_apart' (HO521.out) (Kd.S_typed HO_1.out) (by decide)) (fun k_ hk => ⟨trivial, hk.2⟩))).1 k_ h_.symm))) ?aF ?aO ?aB ?aS ?aL ?_; (case aP => exact k48_mkM _ _ _ (⟨(⟨#[98, 111, 117, 110, 100, 32]⟩ : ByteArray) ++ t511, (⟨t512, t513, t516, t519⟩ : S28)⟩ : S48) (Kd.R_mono (Kd.R_tight rfl (Kd.R_mono (ok' := fun k_ => ((fun _ => True)) k_ ∧ some k_ ≠ (u1 : Value).ownBlock) (Kd.R_apart' (HO515.out) (Kd.S_typed HO_1.out) (by decide)) (fun k_ hk => ⟨trivial, hk.2⟩))) (fun _ h_ => Or.inl h_)) (Kd.R_mono (Kd.R_tight rfl (Kd.R_mono (ok' := fun k_ => ((fun _ => True)) k_ ∧ some k_ ≠ (u1 : Value).ownBlock) (Kd.R_apart' (HO518.out) (Kd.S_typed HO_1.out) (by decide)) (fun k_ hk => ⟨trivial, hk.2⟩))) (fun _ h_ => Or.inr (Or.inl h_))) (Kd.R_mono (Kd.R_tight rfl (Kd.R_mono (ok' := fun k_ => ((fun _ => True)) k_ ∧ some k_ ≠ (u1 : Value).ownBlock) (Kd.R_apart' (HO521.out) (Kd.S_typed HO_1.out) (by decide)) (fun k_ hk => ⟨trivial, hk.2⟩))) (fun _ h_ => Or.inr (Or.inr (h_)))) (fun k_ e1_ e2_ => by have z_ := HO515.out.1 k_ e1_; first | exact z_ e2_.symm | exact z_.2 e2_.symm | exact z_.1 e2_.symm | exact z_.1.2 e2_.symm)); (case aB => exact (bw0_ HB.out)); (case aF => exact (fun _ _ => trivial)); (case aO => exact (by (with_reducible repeat (first | apply Kd.S_alloc | apply Kd.S_drewN | apply Kd.S_drew)); exact Kd.S_mono HO_1.out (fun k_ hk => ⟨trivial, fun e_ => e_.elim (fun h_ => hk.1.1.2 h_) (fun h_ => h_.elim (fun h_ => hk.1.2 h_) (fun h_ => hk.2 h_))⟩))); (case aS => exact (below_size (bw0_ HB.out))); (case aL => have := LMc15.out; omega); intro v523 w20 ho hb hg hat; rw [← Ny522.out] at ho; have n0_ := sd_ (hb); have n1_ := sd_ (ho); clear HB; clear HO_1; clear HO515; clear HO518; clear HO521; have HB := n0_; have HO524 := n1_; clear n0_ n1_; clear ho hb hg hat))
       go_roundg k2
       case measure => have := HK1.out; have := HK2.out; omega
       case rel => exact ⟨(y522), (wrap64 (x3_2 + 1)), sm_, H', ⟨by have := HK1.out; have := HK2.out; omega⟩, ⟨by (with_reducible repeat (first | apply Kd.S_alloc | apply Kd.S_drewN | apply Kd.S_drew)); exact HO524.out⟩, ⟨bw0_ HB.out⟩⟩
      rw [if_neg c13] at H; exact absurd H (by simp)
     have H' := sd_ H; clear H; go_wp2
     go_loopg [1, 4] k2 (fun kq v1 v4 w' => ∃ (x1_3 : List (S48)) (x4_3 : Int), v4 = .int .i64 x4_3 ∧ Aside0 (impl_simple.l2 kq x1_3 x4_3 = some r) ∧ Aside0 (kq ≤ k2) ∧ Aside0 (Kd.S k48 48 w' w.heap.size (fun _ => True) v1 x1_3) ∧ Aside0 (Below w.heap.size w w'))
     case atStart => exact ⟨(x1_2), (1), sm_, H', ⟨Nat.le_refl _⟩, ⟨by (with_reducible repeat (first | apply Kd.S_alloc | apply Kd.S_drewN | apply Kd.S_drew)); exact HO_1.out⟩, ⟨bw0_ HB.out⟩⟩
     case round =>
      clear H'; (try clear c1); (try clear c1b0); (try clear c2); (try clear p2); (try clear c11); (try clear c11b0); (try clear p2); obtain ⟨x1_3, x4_3, rfl, HA, HK3, HO_1, HB⟩ := hrel
      cases gk with
      | zero => exact absurd HA.out (by simp [impl_simple.l2])
      | succ k3 =>
       have H := HA.out; clear HA; simp only [impl_simple.l2] at H; revert H; refine ic_ (fun c21b0 H => ?_) (fun c21b0 H => ?_)
       ·revert H; refine ob_ fun t525 A22 H => ?_
        by_cases c23 : 6 + t525.size ≤ 9223372036854775807
        ·rw [if_pos c23] at H; have c23b0 := eq_true c23; have c23b1 : decide (6 + t525.size ≤ 9223372036854775807) = true := decide_eq_true c23
         try have c23b2 : (9223372036854775807 < 6 + t525.size) = False := eq_false (Nat.not_lt.2 c23)
         replace H := oc_ H; obtain ⟨⟨t526, t527, t530, t533⟩, A24, H⟩ := H; (try dsimp only at H)
         revert H; refine il_ fun LMc25 H => ?_
         generalize hy536 : (x1_3 ++ [(⟨(⟨#[108, 101, 118, 101, 108, 32]⟩ : ByteArray) ++ t525, (⟨t526, t527, t530, t533⟩ : S28)⟩ : S48)] : List (S48)) = y536 at H; have Ny536 := sd_ hy536.symm; clear hy536; have H' := sd_ H; clear H; go_wp2_with (first | ((with_reducible refine gate_callee (f := 50) rfl ?_); refine goesL_ (some 37) rfl rfl Tryd.func50 (by kernel_rfl) rfl #[.int .i64 x4_3] rfl la_ ?_; (with_reducible refine (strconv_Itoa_50.calls x4_3 t525 _ A22.out).mono ?_); rintro e w' ⟨rfl, ⟨nd, rfl⟩⟩; refine ⟨_, rfl, ?_⟩) | ((with_reducible refine gate_callee (f := 53) rfl ?_); refine goesL_ (some 40) rfl rfl Tryd.func53 (by kernel_rfl) rfl #[.int .i64 x4_3] rfl la_ ?_; (with_reducible refine (impl_LevelSystem.calls k3 x4_3 t526 t527 t530 t533 _ A24.out).mono ?_); rintro e w26 ⟨v528, v531, v534, rfl, ho0, ho1, ho2, hb⟩; refine ⟨_, rfl, ?_⟩; replace HO_1 := sd_ (Kd.S_mono (Kd.S_told (Kd.S_told (Kd.S_told (Kd.S_old (by (with_reducible repeat (first | apply Kd.S_alloc | apply Kd.S_drewN | apply Kd.S_drew)); exact HO_1.out) hb) (Kd.R_base ho0)) (Kd.R_base ho1)) (Kd.R_base ho2)) (fun _ h_ => h_.1)); have HO529 := sd_ (Kd.R_lower ho0 (below_size (bw0_ HB.out))); have HO532 := sd_ (Kd.R_lower ho1 (below_size (bw0_ HB.out))); have HO535 := sd_ (Kd.R_lower ho2 (below_size (bw0_ HB.out))); replace HB := sd_ (below_step (bw0_ HB.out) hb); (try clear ho0); (try clear ho1); (try clear ho2); obtain ⟨Ao27, co27, eo27⟩ := Kd.R_slice HO535.out; subst eo27; obtain ⟨Ao28, co28, eo28⟩ := Kd.R_slice HO532.out; subst eo28; obtain ⟨Ao29, co29, eo29⟩ := Kd.R_slice HO529.out; subst eo29) | ((with_reducible refine gate_builtin (b := .append) (xs := #[.tmp 35, .tmp 42]) rfl ?_); at_builtin; refine Kd.S_append k48 (w0 := w) w.heap.size rfl (.tmp 35) (.tmp 42) 45 48 (.agg #[(.string ⟨#[]⟩), (.int .i64 0), (.slice none 0 0), (.slice none 0 0), (.slice none 0 0)]) 96 rfl Tryd.underlying45 info48 rfl (by decide) (by omega) u1 x1_3 (⟨(⟨#[108, 101, 118, 101, 108, 32]⟩ : ByteArray) ++ t525, (⟨t526, t527, t530, t533⟩ : S28)⟩ : S48) [.string ((⟨#[108, 101, 118, 101, 108, 32]⟩ : ByteArray) ++ t525), .int .i64 t526, .slice Ao29 t527.length co29, .slice Ao28 t530.length co28, .slice Ao27 t533.length co27] (fun _ => True) (fun k_ => some k_ = (.slice Ao29 t527.length co29 : Value).ownBlock ∨ some k_ = (.slice Ao28 t530.length co28 : Value).ownBlock ∨ some k_ = (.slice Ao27 t533.length co27 : Value).ownBlock) rfl rfl ?aP (fun k_ hk_ => hk_.elim (fun h_ => ((Kd.R_mono (ok' := fun k_ => ((fun _ => True)) k_ ∧ some k_ ≠ (u1 : Value).ownBlock) (Kd.R_apart' (HO529.out) (Kd.S_typed HO_1.out) (by decide)) (fun k_ hk => ⟨trivial, hk.2⟩))).1 k_ h_.symm) (fun h_ => h_.elim (fun h_ => ((Kd.R_mono (ok' := fun k_ => ((fun _ => True)) k_ ∧ some k_ ≠ (u1 : Value).ownBlock) (Kd.R_apart' (HO532.out) (Kd.S_typed HO_1.out) (by decide)) (fun k_ hk => ⟨trivial, hk.2⟩))).1 k_ h_.symm) (fun h_ => ((Kd.R_mono (ok' := fun k_ => ((fun _ => True)) k_ ∧ some k_ ≠ (u1 : Value).ownBlock) (Kd.R_apart' (HO535.out) (Kd.S_typed HO_1.out) (by decide)) (fun k_ hk => ⟨trivial, hk.2⟩))).1 k_ h_.symm))) ?aF ?aO ?aB ?aS ?aL ?_; (case aP => exact k48_mkM _ _ _ (⟨(⟨#[108, 101, 118, 101, 108, 32]⟩ : ByteArray) ++ t525, (⟨t526, t527, t530, t533⟩ : S28)⟩ : S48) (Kd.R_mono (Kd.R_tight rfl (Kd.R_mono (ok' := fun k_ => ((fun _ => True)) k_ ∧ some k_ ≠ (u1 : Value).ownBlock) (Kd.R_apart' (HO529.out) (Kd.S_typed HO_1.out) (by decide)) (fun k_ hk => ⟨trivial, hk.2⟩))) (fun _ h_ => Or.inl h_)) (Kd.R_mono (Kd.R_tight rfl (Kd.R_mono (ok' := fun k_ => ((fun _ => True)) k_ ∧ some k_ ≠ (u1 : Value).ownBlock) (Kd.R_apart' (HO532.out) (Kd.S_typed HO_1.out) (by decide)) (fun k_ hk => ⟨trivial, hk.2⟩))) (fun _ h_ => Or.inr (Or.inl h_))) (Kd.R_mono (Kd.R_tight rfl (Kd.R_mono (ok' := fun k_ => ((fun _ => True)) k_ ∧ some k_ ≠ (u1 : Value).ownBlock) (Kd.R_apart' (HO535.out) (Kd.S_typed HO_1.out) (by decide)) (fun k_ hk => ⟨trivial, hk.2⟩))) (fun _ h_ => Or.inr (Or.inr (h_)))) (fun k_ e1_ e2_ => by have z_ := HO529.out.1 k_ e1_; first | exact z_ e2_.symm | exact z_.2 e2_.symm | exact z_.1 e2_.symm | exact z_.1.2 e2_.symm)); (case aB => exact (bw0_ HB.out)); (case aF => exact (fun _ _ => trivial)); (case aO => exact (by (with_reducible repeat (first | apply Kd.S_alloc | apply Kd.S_drewN | apply Kd.S_drew)); exact Kd.S_mono HO_1.out (fun k_ hk => ⟨trivial, fun e_ => e_.elim (fun h_ => hk.1.1.2 h_) (fun h_ => h_.elim (fun h_ => hk.1.2 h_) (fun h_ => hk.2 h_))⟩))); (case aS => exact (below_size (bw0_ HB.out))); (case aL => have := LMc25.out; omega); intro v537 w30 ho hb hg hat; rw [← Ny536.out] at ho; have n0_ := sd_ (hb); have n1_ := sd_ (ho); clear HB; clear HO_1; clear HO529; clear HO532; clear HO535; have HB := n0_; have HO538 := n1_; clear n0_ n1_; clear ho hb hg hat))
         go_roundg k3
         case measure => have := HK1.out; have := HK2.out; have := HK3.out; omega
         case rel => exact ⟨(y536), (wrap64 (x4_3 + 1)), sm_, H', ⟨by have := HK1.out; have := HK2.out; have := HK3.out; omega⟩, ⟨by (with_reducible repeat (first | apply Kd.S_alloc | apply Kd.S_drewN | apply Kd.S_drew)); exact HO538.out⟩, ⟨bw0_ HB.out⟩⟩
        rw [if_neg c23] at H; exact absurd H (by simp)
       obtain rfl := Option.some.inj H; go_wp2; go_ret; exact ⟨_, an_, by (with_reducible repeat (first | apply Kd.S_alloc | apply Kd.S_drewN | apply Kd.S_drew)); exact HO_1.out, bw0_ HB.out⟩

end Go.Proofs.YtmcepfimcedocaaDoor.P
end

section
/-! shorter words -/
namespace Go.Proofs.YtmcepfimcedocaaDoor.P
open Go.RowKit Go.Proofs.YtmcepfimcedocaaDoorW.PrintWords Go.Proofs.YtmcepfimcedocaaDoorW.PrintLast Go.Proofs.YtmcepfimcedocaaDoorW.PrintMore
attribute [local go_sem] max2_int min2_int max_two min_two max_three min_three max_four min_four   -- for this text's walks alone
set_option linter.unusedVariables false
set_option linter.unusedSimpArgs false

/-! ### impl_System_join: function 88 -/
mutual
def impl_System_join.l0 : Nat → Int → Int → Int → Int → List Int → List Int → List Bool → Option (Int)
 | 0, _, _, _, _, _, _, _ => none
 | k + 1, x1, x2, x7, x557000, x557001, x557002, x557003 => if x7 < x557000 then ((impl_System_below.f x557000 x557001 x557002 x557003 x1 x7).bind fun t557 => (if t557 = true then ((impl_System_below.f x557000 x557001 x557002 x557003 x2 x7).bind fun t558 => (impl_System_join.j1 k x1 x2 x7 (!t558) x557000 x557001 x557002 x557003)) else (impl_System_join.j1 k x1 x2 x7 true x557000 x557001 x557002 x557003))) else (some (-1))
def impl_System_join.j1 : Nat → Int → Int → Int → Bool → Int → List Int → List Int → List Bool → Option (Int)
 | 0, _, _, _, _, _, _, _, _ => none
 | k + 1, x1, x2, x7, x27, x557000, x557001, x557002, x557003 => if x27 = true then (impl_System_join.l0 k x1 x2 (wrap64 (x7 + 1)) x557000 x557001 x557002 x557003) else (impl_System_join.l1 k x1 x2 x7 true 0 x557000 x557001 x557002 x557003)
def impl_System_join.l1 : Nat → Int → Int → Int → Bool → Int → Int → List Int → List Int → List Bool → Option (Int)
 | 0, _, _, _, _, _, _, _, _, _ => none
 | k + 1, x1, x2, x7, x8, x9, x557000, x557001, x557002, x557003 => if x9 < x557000 then (if x8 = true then ((impl_System_below.f x557000 x557001 x557002 x557003 x1 x9).bind fun t559 => (if t559 = true then ((impl_System_below.f x557000 x557001 x557002 x557003 x2 x9).bind fun t560 => (if t560 = true then ((impl_System_below.f x557000 x557001 x557002 x557003 x7 x9).bind fun t561 => (impl_System_join.l1 k x1 x2 x7 t561 (wrap64 (x9 + 1)) x557000 x557001 x557002 x557003)) else (impl_System_join.l1 k x1 x2 x7 true (wrap64 (x9 + 1)) x557000 x557001 x557002 x557003))) else (impl_System_join.l1 k x1 x2 x7 true (wrap64 (x9 + 1)) x557000 x557001 x557002 x557003))) else (impl_System_join.l1 k x1 x2 x7 false (wrap64 (x9 + 1)) x557000 x557001 x557002 x557003)) else (if x8 = true then (some x7) else (impl_System_join.l0 k x1 x2 (wrap64 (x7 + 1)) x557000 x557001 x557002 x557003))
end
def impl_System_join.f (k : Nat) (a0_0 : Int) (l0_1 : List Int) (l0_2 : List Int) (l0_3 : List Bool) (a1 : Int) (a2 : Int) : Option (Int) := impl_System_join.l0 k a1 a2 0 a0_0 l0_1 l0_2 l0_3
set_option maxHeartbeats 8000000 in
set_option maxRecDepth 100000 in
theorem impl_System_join.calls (k : Nat) (a0_0 : Int) (A0_1 : Option Addr) (c0_1 : Nat) (l0_1 : List Int) (A0_2 : Option Addr) (c0_2 : Nat) (l0_2 : List Int) (A0_3 : Option Addr) (c0_3 : Nat) (l0_3 : List Bool) (a1 : Int) (a2 : Int) (r : Int) (w : World) (hr0_1 : Kd.C (Kd.int .i64) w A0_1 l0_1.length l0_1) (hc0_1 : l0_1.length ≤ c0_1) (hr0_2 : Kd.C (Kd.int .i64) w A0_2 l0_2.length l0_2) (hc0_2 : l0_2.length ≤ c0_2) (hr0_3 : Kd.C Kd.bool w A0_3 l0_3.length l0_3) (hc0_3 : l0_3.length ≤ c0_3) (h : impl_System_join.f k a0_0 l0_1 l0_2 l0_3 a1 a2 = some r) :
  Calls Tryd.prog 88 #[.agg #[.int .i64 a0_0, .slice A0_1 l0_1.length c0_1, .slice A0_2 l0_2.length c0_2, .slice A0_3 l0_3.length c0_3], .int .i64 a1, .int .i64 a2] w fun e w' => e = .returned (.int .i64 r) ∧ Below w.heap.size w w' := by
 have hu28 := Tryd.underlying28; have HR0_1 := sd_ hr0_1; have HC0_1 := sd_ hc0_1; clear hr0_1 hc0_1; have HR0_2 := sd_ hr0_2; have HC0_2 := sd_ hc0_2; clear hr0_2 hc0_2; have HR0_3 := sd_ hr0_3; have HC0_3 := sd_ hc0_3; clear hr0_3 hc0_3; have HB := sd_ (Below.refl w.heap.size w); have H : (impl_System_join.l0 k a1 a2 0 a0_0 l0_1 l0_2 l0_3) = some r := h; clear h; have H' := sd_ H; clear H; go_enter Tryd.func88, Tryd.ntmps88; go_wp2_with (first | ((with_reducible refine gate_dst (N := 3) rfl ?_); refine bx_ (N := 3) (cs := #[.int .i64 a0_0, .slice A0_1 l0_1.length c0_1, .slice A0_2 l0_2.length c0_2, .slice A0_3 l0_3.length c0_3]) (t := 28) ?_; intro gb556 hg w4 hbox hb; have BK556 := sd_ (hbox); have GW556 := sd_ (gs_ hg (bw0_ HB.out)); have GE556 := sd_ (gs_ hg (bw0_ HB.out)); replace HB := sd_ (below_step (bw0_ HB.out) hb); clear hb hbox hg))
 go_loopg [7] k (fun kq v7 w' => ∃ (x7_1 : Int), v7 = .int .i64 x7_1 ∧ Aside0 (impl_System_join.l0 kq a1 a2 x7_1 a0_0 l0_1 l0_2 l0_3 = some r) ∧ Aside0 (kq ≤ k) ∧ Aside0 (w'.heap[gb556]? = some (.cells #[.int .i64 a0_0, (.slice A0_1 l0_1.length c0_1), (.slice A0_2 l0_2.length c0_2), (.slice A0_3 l0_3.length c0_3)] 28 (0, 0))) ∧ Aside0 (Below w.heap.size w w'))
 case atStart => exact ⟨(0), sm_, H', ⟨Nat.le_refl _⟩, ⟨bz_ BK556.out⟩, ⟨bw1_ HB.out GE556.out⟩⟩
 case round =>
  clear H'; (try clear p2); obtain ⟨x7_1, rfl, HA, HK1, BK556, HB⟩ := hrel
  cases gk with
  | zero => exact absurd HA.out (by simp [impl_System_join.l0])
  | succ k1 =>
   have H := HA.out; clear HA; simp only [impl_System_join.l0] at H; revert H; refine ic_ (fun c5b0 H => ?_) (fun c5b0 H => ?_)
   ·have HC6 := sd_ H; clear H; obtain ⟨z7_0, z7_1, z7_2, z7_3, f7_0, f7_1, f7_2, f7_3⟩ := bf4_ BK556.out; go_upto_region 4 with (fail)
    go_cut [27] (fun v27 wc => ∃ (kq : Nat) (x27_5 : Bool), v27 = .bool x27_5 ∧ Aside0 (impl_System_join.j1 kq a1 a2 x7_1 x27_5 a0_0 l0_1 l0_2 l0_3 = some r) ∧ Aside0 (kq ≤ k1) ∧ Aside0 (wc.heap[gb556]? = some (.cells #[.int .i64 a0_0, (.slice A0_1 l0_1.length c0_1), (.slice A0_2 l0_2.length c0_2), (.slice A0_3 l0_3.length c0_3)] 28 (0, 0))) ∧ Aside0 (Below w.heap.size w wc))
    case first =>
     have H := HC6.out; clear HC6
     revert H; refine ob_ fun t557 A8 H => ?_
     obtain rfl | rfl := bt_ t557
     ·replace H := it_ H
      revert H; refine ob_ fun t558 A10 H => ?_
      have H' := sd_ H; clear H; obtain ⟨z11_0, z11_1, z11_2, z11_3, f11_0, f11_1, f11_2, f11_3⟩ := bf4_ BK556.out; go_wp2_with (first | ((with_reducible refine gate_callee (f := 65) rfl ?_); refine goesL_ (some 19) rfl rfl Tryd.func65 (by kernel_rfl) rfl #[.agg #[.int .i64 a0_0, .slice A0_1 l0_1.length c0_1, .slice A0_2 l0_2.length c0_2, .slice A0_3 l0_3.length c0_3], .int .i64 a1, .int .i64 x7_1] rfl la_ ?_; (with_reducible refine (impl_System_below.calls a0_0 _ _ l0_1 _ _ l0_2 _ _ l0_3 a1 x7_1 true _ (kc_ HR0_1.out HB.out) HC0_1.out (kc_ HR0_2.out HB.out) HC0_2.out (kc_ HR0_3.out HB.out) HC0_3.out A8.out).mono ?_); rintro e w12 ⟨rfl, hb⟩; refine ⟨_, rfl, ?_⟩; replace BK556 := sd_ (bb_ BK556.out hb); replace HB := sd_ (below_step (bw1_ HB.out GE556.out) hb); (try clear hb); obtain ⟨z13_0, z13_1, z13_2, z13_3, f13_0, f13_1, f13_2, f13_3⟩ := bf4_ BK556.out) | (go_at_call 65; (with_reducible refine (impl_System_below.calls a0_0 _ _ l0_1 _ _ l0_2 _ _ l0_3 a2 x7_1 t558 _ (kc_ HR0_1.out HB.out) HC0_1.out (kc_ HR0_2.out HB.out) HC0_2.out (kc_ HR0_3.out HB.out) HC0_3.out A10.out).mono ?_); rintro e w14 ⟨rfl, hb⟩; replace BK556 := sd_ (bb_ BK556.out hb); replace HB := sd_ (below_step (bw1_ HB.out GE556.out) hb); (try clear hb))); go_meet
      case rel => exact ⟨_, (!t558), sm_, H', ⟨by have := HK1.out; first | omega | exact Nat.le_refl _⟩, ⟨bz_ BK556.out⟩, ⟨bw1_ HB.out GE556.out⟩⟩
     replace H := if_ H; have H' := sd_ H; clear H; obtain ⟨z15_0, z15_1, z15_2, z15_3, f15_0, f15_1, f15_2, f15_3⟩ := bf4_ BK556.out; go_wp2_with (first | ((with_reducible refine gate_callee (f := 65) rfl ?_); refine goesL_ (some 19) rfl rfl Tryd.func65 (by kernel_rfl) rfl #[.agg #[.int .i64 a0_0, .slice A0_1 l0_1.length c0_1, .slice A0_2 l0_2.length c0_2, .slice A0_3 l0_3.length c0_3], .int .i64 a1, .int .i64 x7_1] rfl la_ ?_; (with_reducible refine (impl_System_below.calls a0_0 _ _ l0_1 _ _ l0_2 _ _ l0_3 a1 x7_1 false _ (kc_ HR0_1.out HB.out) HC0_1.out (kc_ HR0_2.out HB.out) HC0_2.out (kc_ HR0_3.out HB.out) HC0_3.out A8.out).mono ?_); rintro e w16 ⟨rfl, hb⟩; refine ⟨_, rfl, ?_⟩; replace BK556 := sd_ (bb_ BK556.out hb); replace HB := sd_ (below_step (bw1_ HB.out GE556.out) hb); (try clear hb))); go_meet
     case rel => exact ⟨_, (true), sm_, H', ⟨by have := HK1.out; first | omega | exact Nat.le_refl _⟩, ⟨bz_ BK556.out⟩, ⟨bw1_ HB.out GE556.out⟩⟩
    case rest =>
     clear HC6; (try clear p2); (try clear c5); (try clear c5b0); (try clear c8); (try clear z7_0 z7_1 z7_2 z7_3 f7_0 f7_1 f7_2 f7_3); (try clear p2); obtain ⟨kq, x27_5, rfl, HA, HJ5, BK556, HB⟩ := hcut
     cases kq with
     | zero => exact absurd HA.out (by simp [impl_System_join.j1])
     | succ kj5 =>
      have H := HA.out; clear HA; simp only [impl_System_join.j1] at H; obtain rfl | rfl := bt_ x27_5
      ·replace H := it_ H; have H' := sd_ H; clear H; go_wp2; go_roundg kj5
       case measure => have := HK1.out; have := HJ5.out; omega
       case rel => exact ⟨(wrap64 (x7_1 + 1)), sm_, H', ⟨by have := HK1.out; have := HJ5.out; omega⟩, ⟨bz_ BK556.out⟩, ⟨bw1_ HB.out GE556.out⟩⟩
      replace H := if_ H; have H' := sd_ H; clear H; go_wp2
      go_loopg [8, 9] kj5 (fun kq v8 v9 w' => ∃ (x8_3 : Bool) (x9_3 : Int), v8 = .bool x8_3 ∧ v9 = .int .i64 x9_3 ∧ Aside0 (impl_System_join.l1 kq a1 a2 x7_1 x8_3 x9_3 a0_0 l0_1 l0_2 l0_3 = some r) ∧ Aside0 (kq ≤ kj5) ∧ Aside0 (w'.heap[gb556]? = some (.cells #[.int .i64 a0_0, (.slice A0_1 l0_1.length c0_1), (.slice A0_2 l0_2.length c0_2), (.slice A0_3 l0_3.length c0_3)] 28 (0, 0))) ∧ Aside0 (Below w.heap.size w w'))
      case atStart => exact ⟨(true), (0), sm_, sm_, H', ⟨Nat.le_refl _⟩, ⟨bz_ BK556.out⟩, ⟨bw1_ HB.out GE556.out⟩⟩
      case round =>
       clear H'; (try clear c1); (try clear p2); (try clear c5); (try clear c5b0); (try clear c8); (try clear c17); (try clear z7_0 z7_1 z7_2 z7_3 f7_0 f7_1 f7_2 f7_3); (try clear p2); obtain ⟨x8_3, x9_3, rfl, rfl, HA, HK3, BK556, HB⟩ := hrel
       cases gk with
       | zero => exact absurd HA.out (by simp [impl_System_join.l1])
       | succ k3 =>
        have H := HA.out; clear HA; simp only [impl_System_join.l1] at H; revert H; refine ic_ (fun c18b0 H => ?_) (fun c18b0 H => ?_)
        ·obtain rfl | rfl := bt_ x8_3
         ·replace H := it_ H
          revert H; refine ob_ fun t559 A20 H => ?_
          obtain rfl | rfl := bt_ t559
          ·replace H := it_ H
           revert H; refine ob_ fun t560 A22 H => ?_
           obtain rfl | rfl := bt_ t560
           ·replace H := it_ H
            revert H; refine ob_ fun t561 A24 H => ?_
            have H' := sd_ H; clear H; obtain ⟨z25_0, z25_1, z25_2, z25_3, f25_0, f25_1, f25_2, f25_3⟩ := bf4_ BK556.out; go_wp2_with (first | (go_at_call 65; (with_reducible refine (impl_System_below.calls a0_0 _ _ l0_1 _ _ l0_2 _ _ l0_3 a1 x9_3 true _ (kc_ HR0_1.out HB.out) HC0_1.out (kc_ HR0_2.out HB.out) HC0_2.out (kc_ HR0_3.out HB.out) HC0_3.out A20.out).mono ?_); rintro e w26 ⟨rfl, hb⟩; replace BK556 := sd_ (bb_ BK556.out hb); replace HB := sd_ (below_step (bw1_ HB.out GE556.out) hb); (try clear hb); obtain ⟨z27_0, z27_1, z27_2, z27_3, f27_0, f27_1, f27_2, f27_3⟩ := bf4_ BK556.out) | (go_at_call 65; (with_reducible refine (impl_System_below.calls a0_0 _ _ l0_1 _ _ l0_2 _ _ l0_3 a2 x9_3 true _ (kc_ HR0_1.out HB.out) HC0_1.out (kc_ HR0_2.out HB.out) HC0_2.out (kc_ HR0_3.out HB.out) HC0_3.out A22.out).mono ?_); rintro e w28 ⟨rfl, hb⟩; replace BK556 := sd_ (bb_ BK556.out hb); replace HB := sd_ (below_step (bw1_ HB.out GE556.out) hb); (try clear hb); obtain ⟨z29_0, z29_1, z29_2, z29_3, f29_0, f29_1, f29_2, f29_3⟩ := bf4_ BK556.out) | (go_at_call 65; (with_reducible refine (impl_System_below.calls a0_0 _ _ l0_1 _ _ l0_2 _ _ l0_3 x7_1 x9_3 t561 _ (kc_ HR0_1.out HB.out) HC0_1.out (kc_ HR0_2.out HB.out) HC0_2.out (kc_ HR0_3.out HB.out) HC0_3.out A24.out).mono ?_); rintro e w30 ⟨rfl, hb⟩; replace BK556 := sd_ (bb_ BK556.out hb); replace HB := sd_ (below_step (bw1_ HB.out GE556.out) hb); (try clear hb))); go_roundg k3
            case measure => have := HK1.out; have := HJ5.out; have := HK3.out; omega
            case rel => exact ⟨(t561), (wrap64 (x9_3 + 1)), sm_, sm_, H', ⟨by have := HK1.out; have := HJ5.out; have := HK3.out; omega⟩, ⟨bz_ BK556.out⟩, ⟨bw1_ HB.out GE556.out⟩⟩
           replace H := if_ H; have H' := sd_ H; clear H; obtain ⟨z31_0, z31_1, z31_2, z31_3, f31_0, f31_1, f31_2, f31_3⟩ := bf4_ BK556.out; go_wp2_with (first | (go_at_call 65; (with_reducible refine (impl_System_below.calls a0_0 _ _ l0_1 _ _ l0_2 _ _ l0_3 a1 x9_3 true _ (kc_ HR0_1.out HB.out) HC0_1.out (kc_ HR0_2.out HB.out) HC0_2.out (kc_ HR0_3.out HB.out) HC0_3.out A20.out).mono ?_); rintro e w32 ⟨rfl, hb⟩; replace BK556 := sd_ (bb_ BK556.out hb); replace HB := sd_ (below_step (bw1_ HB.out GE556.out) hb); (try clear hb); obtain ⟨z33_0, z33_1, z33_2, z33_3, f33_0, f33_1, f33_2, f33_3⟩ := bf4_ BK556.out) | (go_at_call 65; (with_reducible refine (impl_System_below.calls a0_0 _ _ l0_1 _ _ l0_2 _ _ l0_3 a2 x9_3 false _ (kc_ HR0_1.out HB.out) HC0_1.out (kc_ HR0_2.out HB.out) HC0_2.out (kc_ HR0_3.out HB.out) HC0_3.out A22.out).mono ?_); rintro e w34 ⟨rfl, hb⟩; replace BK556 := sd_ (bb_ BK556.out hb); replace HB := sd_ (below_step (bw1_ HB.out GE556.out) hb); (try clear hb))); go_roundg k3
           case measure => have := HK1.out; have := HJ5.out; have := HK3.out; omega
           case rel => exact ⟨(true), (wrap64 (x9_3 + 1)), sm_, sm_, H', ⟨by have := HK1.out; have := HJ5.out; have := HK3.out; omega⟩, ⟨bz_ BK556.out⟩, ⟨bw1_ HB.out GE556.out⟩⟩
          replace H := if_ H; have H' := sd_ H; clear H; obtain ⟨z35_0, z35_1, z35_2, z35_3, f35_0, f35_1, f35_2, f35_3⟩ := bf4_ BK556.out; go_wp2_with (first | (go_at_call 65; (with_reducible refine (impl_System_below.calls a0_0 _ _ l0_1 _ _ l0_2 _ _ l0_3 a1 x9_3 false _ (kc_ HR0_1.out HB.out) HC0_1.out (kc_ HR0_2.out HB.out) HC0_2.out (kc_ HR0_3.out HB.out) HC0_3.out A20.out).mono ?_); rintro e w36 ⟨rfl, hb⟩; replace BK556 := sd_ (bb_ BK556.out hb); replace HB := sd_ (below_step (bw1_ HB.out GE556.out) hb); (try clear hb))); go_roundg k3
          case measure => have := HK1.out; have := HJ5.out; have := HK3.out; omega
          case rel => exact ⟨(true), (wrap64 (x9_3 + 1)), sm_, sm_, H', ⟨by have := HK1.out; have := HJ5.out; have := HK3.out; omega⟩, ⟨bz_ BK556.out⟩, ⟨bw1_ HB.out GE556.out⟩⟩
         replace H := if_ H; have H' := sd_ H; clear H; obtain ⟨z37_0, z37_1, z37_2, z37_3, f37_0, f37_1, f37_2, f37_3⟩ := bf4_ BK556.out; go_wp2; go_roundg k3
         case measure => have := HK1.out; have := HJ5.out; have := HK3.out; omega
         case rel => exact ⟨(false), (wrap64 (x9_3 + 1)), sm_, sm_, H', ⟨by have := HK1.out; have := HJ5.out; have := HK3.out; omega⟩, ⟨bz_ BK556.out⟩, ⟨bw1_ HB.out GE556.out⟩⟩
        obtain rfl | rfl := bt_ x8_3
        ·replace H := it_ H; obtain rfl := Option.some.inj H; obtain ⟨z39_0, z39_1, z39_2, z39_3, f39_0, f39_1, f39_2, f39_3⟩ := bf4_ BK556.out; go_wp2; go_ret; exact ⟨an_, bw1_ HB.out GE556.out⟩
        replace H := if_ H; have H' := sd_ H; clear H; obtain ⟨z40_0, z40_1, z40_2, z40_3, f40_0, f40_1, f40_2, f40_3⟩ := bf4_ BK556.out; go_wp2; go_roundg k3
        case measure => have := HK1.out; have := HJ5.out; have := HK3.out; omega
        case rel => exact ⟨(wrap64 (x7_1 + 1)), sm_, H', ⟨by have := HK1.out; have := HJ5.out; have := HK3.out; omega⟩, ⟨bz_ BK556.out⟩, ⟨bw1_ HB.out GE556.out⟩⟩
   obtain rfl := Option.some.inj H; obtain ⟨z41_0, z41_1, z41_2, z41_3, f41_0, f41_1, f41_2, f41_3⟩ := bf4_ BK556.out; go_wp2; go_ret; exact ⟨an_, bw1_ HB.out GE556.out⟩

end Go.Proofs.YtmcepfimcedocaaDoor.P
end
