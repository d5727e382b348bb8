-- Several texts in one (wip/tools/merge.py).
import Derived.Test.YtipfkicndjddgaaP0
import Derived.Test.YtipfkicndjddgaaM8
import Derived.Test.YtipfkicndjddgaaM7
import Derived.Test.YtipfkicndjddgaaM4
import Derived.Test.YtipfkicndjddgaaM2
import Derived.Test.YtipfkicndjddgaaM9
section
namespace Go.Proofs.Ytipfkicndjddgaa.P
open Go.RowKit Go.Proofs.YtipfkicndjddgaaW.PrintWords Go.Proofs.YtipfkicndjddgaaW.PrintLast Go.Proofs.YtipfkicndjddgaaW.PrintMore
attribute [local go_sem] max2_int min2_int max_two min_two max_three min_three max_four min_four   -- for this text's walks alone
set_option linter.unusedVariables false
set_option linter.unusedSimpArgs false

/-! ### impl_MapType: function 91 -/
def impl_MapType.l0 : Nat → List Int → List Int → List Int → Int → Int → Option (List Int)
 | 0, _, _, _, _, _ => none
 | k + 1, x0, x5, x16, x17, x18 => if x18 < x17 then (if 0 ≤ x18 then (if x18 < (x16.length : Int) then ((impl_shape.f (rd x16 x18)).bind fun bt249 => (if bt249.2 < 0 then (impl_MapType.l0 k x0 x5 x16 x17 (wrap64 (x18 + 1))) else ((impl_mapped.f x0 bt249.2).bind fun t251 => (if t251 < 0 then (some ([] : List Int)) else (if x18 < (x5.length : Int) then ((some (x5.set (x18 : Int).toNat (wrap64 (19 + t251)) : List Int)).bind fun y252 => (if bt249.1 = 3 then (impl_MapType.l0 k x0 (y252.set (x18 : Int).toNat (wrap64 (3 + t251))) x16 x17 (wrap64 (x18 + 1))) else (impl_MapType.l0 k x0 y252 x16 x17 (wrap64 (x18 + 1))))) else (none)))))) else (none)) else (none)) else (some x5)
def impl_MapType.f (k : Nat) (l0 : List Int) (l1 : List Int) : Option (List Int) := (impl_isWrittenType.f k l1).bind fun t244 => (if t244 = true then ((slices_Clone_int_int.f l1).bind fun t245 => (impl_MapType.l0 k l0 t245 l1 (l1.length : Int) 0)) else (some ([] : List Int)))
theorem within_pos {x : Int} (h : impl_within.f x 1 40 = some true) : 1 ≤ x := by
 unfold impl_within.f at h
 by_cases c : x ≥ 1
 ·exact c
 rw [if_neg c] at h; cases h
theorem written_pos {k : Nat} {l : List Int} (h : impl_isWrittenType.f k l = some true) : 0 < l.length := by
 unfold impl_isWrittenType.f at h
 obtain ⟨t, h1, h2⟩ := Option.bind_eq_some_iff.mp h
 cases t
 ·rw [if_neg (by decide)] at h2; cases h2
 have := within_pos h1; omega
theorem clone_len {l r : List Int} (h : slices_Clone_int_int.f l = some r) : r.length = l.length := by
 unfold slices_Clone_int_int.f at h
 split at h
 ·obtain rfl := Option.some.inj h; simp
 cases h
set_option maxHeartbeats 8000000 in
set_option maxRecDepth 100000 in
theorem impl_MapType.calls (k : Nat) (A0 : Option Addr) (c0 : Nat) (l0 : List Int) (A1 : Option Addr) (c1 : Nat) (l1 : List Int) (r : List Int) (w : World) (hr0 : Kd.C (Kd.int .i64) w A0 l0.length l0) (hc0 : l0.length ≤ c0) (hr1 : Kd.C (Kd.int .i64) w A1 l1.length l1) (hc1 : l1.length ≤ c1) (h : impl_MapType.f k l0 l1 = some r) :
  Calls Try.prog 91 #[.slice A0 l0.length c0, .slice A1 l1.length c1] w fun e w' => ∃ v0_ : Value, e = .returned (v0_) ∧ Kd.R (Kd.int .i64) 3 w' w.heap.size (fun _ => True) v0_ r ∧ Below w.heap.size w w' ∧ (r = [] → v0_ = .slice none 0 0) := by
 have HR0 := sd_ hr0
 have HC0 := sd_ hc0
 clear hr0 hc0
 have HR1 := sd_ hr1
 have HC1 := sd_ hc1
 clear hr1 hc1
 have HB := sd_ (Below.refl w.heap.size w)
 have H : ((impl_isWrittenType.f k l1).bind fun t244 => (if t244 = true then ((slices_Clone_int_int.f l1).bind fun t245 => (impl_MapType.l0 k l0 t245 l1 (l1.length : Int) 0)) else (some ([] : List Int)))) = some r := h
 clear h
 replace H := Option.bind_eq_some_iff.mp H
 obtain ⟨t244, A30, H⟩ := H
 try dsimp only at H
 have A3 := sd_ A30
 clear A30
 by_cases c4 : t244 = true
 ·subst c4
  have H1 : ((slices_Clone_int_int.f l1).bind fun t245 => (impl_MapType.l0 k l0 t245 l1 (l1.length : Int) 0)) = some r := by rw [if_pos rfl] at H; exact H
  clear H
  have H := H1
  clear H1
  replace H := Option.bind_eq_some_iff.mp H
  obtain ⟨t245, A50, H⟩ := H
  try dsimp only at H
  have A5 := sd_ A50
  clear A50
  have H' := sd_ H
  clear H
  go_enter Try.func91, Try.ntmps91
  go_wp2_with (first | ((with_reducible refine gate_callee (f := 120) rfl ?_); refine goesL_ (some 12) rfl rfl Try.func120 (by kernel_rfl) rfl #[.slice A1 l1.length c1] rfl la_ ?_; (with_reducible refine (impl_isWrittenType.calls k _ _ l1 true _ (kp_ HR1.out) HC1.out A3.out).mono ?_); rintro e w' ⟨rfl, ⟨nd, rfl⟩⟩; refine ⟨_, rfl, ?_⟩) | ((with_reducible refine gate_callee (f := 121) rfl ?_); refine goesL_ (some 15) rfl rfl Try.func121 (by kernel_rfl) rfl #[.slice A1 l1.length c1] rfl la_ ?_; (with_reducible refine (slices_Clone_int_int.calls _ _ l1 t245 _ (kp_ HR1.out) HC1.out A5.out).mono ?_); rintro e w6 ⟨v246, rfl, ho0, hb⟩; refine ⟨_, rfl, ?_⟩; have HO247 := sd_ (Kd.R_lower ho0 (below_size (bw0_ HB.out))); replace HB := sd_ (below_step (bw0_ HB.out) hb); (try clear ho0)))
  have VN := sd_ (show ∃ A c, v246 = .slice A t245.length c ∧ 0 < t245.length from by obtain ⟨A_, c_, e_⟩ := Kd.R_slice HO247.out; exact ⟨A_, c_, e_, by rw [clone_len A5.out]; exact written_pos A3.out⟩)
  go_loopg [18] k (fun kq v18 w' => ∃ (x5_1 : List Int) (x18_1 : Int), v18 = .int .i64 x18_1 ∧ Aside0 (impl_MapType.l0 kq l0 x5_1 l1 (l1.length : Int) x18_1 = some r) ∧ Aside0 (kq ≤ k) ∧ Aside0 (Kd.R (Kd.int .i64) 3 w' w.heap.size (fun _ => True) v246 x5_1) ∧ Aside0 (Below w.heap.size w w'))
  case atStart => exact ⟨(t245), (0), sm_, H', ⟨Nat.le_refl _⟩, ⟨by (with_reducible repeat (first | apply Kd.R_alloc | apply Kd.R_drewN | apply Kd.R_drew)); exact HO247.out⟩, ⟨bw0_ HB.out⟩⟩
  case round =>
   clear H'
   try clear c1
   try clear p2
   try clear c4
   obtain ⟨x5_1, x18_1, rfl, HA, HK1, HO_5, HB⟩ := hrel
   cases gk with
   | zero => exact absurd HA.out (by simp [impl_MapType.l0])
   | succ k1 =>
    have H := HA.out
    clear HA
    simp only [impl_MapType.l0] at H
    by_cases c7 : x18_1 < (l1.length : Int)
    ·rw [if_pos c7] at H
     have c7b0 : decide (x18_1 < (l1.length : Int)) = true := decide_eq_true c7
     clear c7
     by_cases c8 : 0 ≤ x18_1
     ·rw [if_pos c8] at H
      have c8b0 : decide (0 ≤ x18_1) = true := decide_eq_true c8
      clear c8
      by_cases c9 : x18_1 < (l1.length : Int)
      ·rw [if_pos c9] at H
       have c9b0 : decide (x18_1 < (l1.length : Int)) = true := decide_eq_true c9
       clear c9
       replace H := Option.bind_eq_some_iff.mp H
       obtain ⟨⟨t249, t250⟩, A100, H⟩ := H
       try dsimp only at H
       have A10 := sd_ A100
       clear A100
       by_cases c11 : t250 < 0
       ·rw [if_pos c11] at H
        have c11b0 : decide (t250 < 0) = true := decide_eq_true c11
        clear c11
        have H' := sd_ H
        clear H
        have p248 : 0 ≤ (x18_1 : Int) := dt_
        have q248 : x18_1 < (l1.length : Int) := dt_
        obtain ⟨ad248, e248, hx248_0⟩ := Kd.at_int HR1.out x18_1 p248 q248
        cases e248
        replace hx248_0 := (HB.out.cell (World.block_lt_of_cell? w _ hx248_0)).trans hx248_0
        replace p248 := eq_true p248
        replace q248 := eq_true q248
        go_wp2_with (first | ((with_reducible refine gate_callee (f := 122) rfl ?_); refine goesL_ (some 25) rfl rfl Try.func122 (by kernel_rfl) rfl #[.int .i64 (rd l1 x18_1)] rfl la_ ?_; (with_reducible refine (impl_shape.calls (rd l1 x18_1) t249 t250 _ A10.out).mono ?_); rintro e w' ⟨rfl, ⟨nd, rfl⟩⟩; refine ⟨_, rfl, ?_⟩))
        go_roundg k1
        case measure => have := HK1.out; omega
        case rel => exact ⟨(x5_1), (wrap64 (x18_1 + 1)), sm_, H', ⟨by have := HK1.out; omega⟩, ⟨by (with_reducible repeat (first | apply Kd.R_alloc | apply Kd.R_drewN | apply Kd.R_drew)); exact HO_5.out⟩, ⟨bw0_ HB.out⟩⟩
       rw [if_neg c11] at H
       have c11b0 : decide (t250 < 0) = false := decide_eq_false c11
       clear c11
       replace H := Option.bind_eq_some_iff.mp H
       obtain ⟨t251, A120, H⟩ := H
       try dsimp only at H
       have A12 := sd_ A120
       clear A120
       by_cases c13 : t251 < 0
       ·rw [if_pos c13] at H
        have c13b0 : decide (t251 < 0) = true := decide_eq_true c13
        clear c13
        obtain rfl := Option.some.inj H
        have p248 : 0 ≤ (x18_1 : Int) := dt_
        have q248 : x18_1 < (l1.length : Int) := dt_
        obtain ⟨ad248, e248, hx248_0⟩ := Kd.at_int HR1.out x18_1 p248 q248
        cases e248
        replace hx248_0 := (HB.out.cell (World.block_lt_of_cell? w _ hx248_0)).trans hx248_0
        replace p248 := eq_true p248
        replace q248 := eq_true q248
        go_wp2_with (first | ((with_reducible refine gate_callee (f := 122) rfl ?_); refine goesL_ (some 25) rfl rfl Try.func122 (by kernel_rfl) rfl #[.int .i64 (rd l1 x18_1)] rfl la_ ?_; (with_reducible refine (impl_shape.calls (rd l1 x18_1) t249 t250 _ A10.out).mono ?_); rintro e w' ⟨rfl, ⟨nd, rfl⟩⟩; refine ⟨_, rfl, ?_⟩) | ((with_reducible refine gate_callee (f := 90) rfl ?_); refine goesL_ (some 32) rfl rfl Try.func90 (by kernel_rfl) rfl #[.slice A0 l0.length c0, .int .i64 t250] rfl la_ ?_; (with_reducible refine (impl_mapped.calls _ _ l0 t250 t251 _ ?side1 ?side2 A12.out).mono ?_); (case side1 => repeat (first | exact (Kd.C_below HR0.out (bw0_ HB.out)) | (with_reducible refine Kd.C_alloc ?_ _) | (with_reducible refine Kd.C_drewN ?_ _) | (with_reducible refine Kd.C_drew ?_))); (case side2 => exact HC0.out); rintro e w' ⟨rfl, ⟨nd, rfl⟩⟩; refine ⟨_, rfl, ?_⟩))
        go_ret
        exact ⟨_, an_, by first | exact Kd.R_nil _ _ _ _ _ | exact Kd.N_nil _ _ _ _ _ | exact Kd.V_nil _ _ _ _ _ | exact Kd.Q_nil _ _ _ _ _ | exact Kd.S_nil _ _ _ _ _, bw0_ HB.out, by first | rfl | (intro _; rfl)⟩
       rw [if_neg c13] at H
       have c13b0 : decide (t251 < 0) = false := decide_eq_false c13
       clear c13
       by_cases c14 : x18_1 < (x5_1.length : Int)
       ·rw [if_pos c14] at H
        have c14b0 : decide (x18_1 < (x5_1.length : Int)) = true := decide_eq_true c14
        clear c14
        obtain ⟨y252, hy252⟩ : ∃ y_ : List Int, y_ = (x5_1.set (x18_1 : Int).toNat (wrap64 (19 + t251))) := ⟨_, rfl⟩
        replace H : (if t249 = 3 then (impl_MapType.l0 k1 l0 (y252.set (x18_1 : Int).toNat (wrap64 (3 + t251))) l1 (l1.length : Int) (wrap64 (x18_1 + 1))) else (impl_MapType.l0 k1 l0 y252 l1 (l1.length : Int) (wrap64 (x18_1 + 1)))) = some r := by first | (rw [hy252]; with_reducible exact H) | (have H2_ := (Option.bind_some _ _).symm.trans H; rw [hy252]; with_reducible exact H2_) | (have H2_ := (Option.bind_some _ _).symm.trans H; with_reducible exact H2_) | with_reducible exact H | (rw [hy252]; exact H) | exact H
        have Ny252 := sd_ hy252
        clear hy252
        by_cases c16 : t249 = 3
        ·rw [if_pos c16] at H
         have c16b0 : (t249 == 3) = true := beq_iff_eq.mpr c16
         have c16b1 : (t249 != 3) = false := bne_eq_false_iff_eq.mpr c16
         clear c16
         obtain ⟨y253, hy253⟩ : ∃ y_ : List Int, y_ = (y252.set (x18_1 : Int).toNat (wrap64 (3 + t251))) := ⟨_, rfl⟩
         replace H : (impl_MapType.l0 k1 l0 y253 l1 (l1.length : Int) (wrap64 (x18_1 + 1))) = some r := by first | (rw [hy253]; with_reducible exact H) | (have H2_ := (Option.bind_some _ _).symm.trans H; rw [hy253]; with_reducible exact H2_) | (have H2_ := (Option.bind_some _ _).symm.trans H; with_reducible exact H2_) | with_reducible exact H | (rw [hy253]; exact H) | exact H
         have Ny253 := sd_ hy253
         clear hy253
         have H' := sd_ H
         clear H
         have p248 : 0 ≤ (x18_1 : Int) := dt_
         have q248 : x18_1 < (l1.length : Int) := dt_
         obtain ⟨ad248, e248, hx248_0⟩ := Kd.at_int HR1.out x18_1 p248 q248
         cases e248
         replace hx248_0 := (HB.out.cell (World.block_lt_of_cell? w _ hx248_0)).trans hx248_0
         replace p248 := eq_true p248
         replace q248 := eq_true q248
         go_wp2_with (first | ((with_reducible refine gate_callee (f := 122) rfl ?_); refine goesL_ (some 25) rfl rfl Try.func122 (by kernel_rfl) rfl #[.int .i64 (rd l1 x18_1)] rfl la_ ?_; (with_reducible refine (impl_shape.calls (rd l1 x18_1) t249 t250 _ A10.out).mono ?_); rintro e w' ⟨rfl, ⟨nd, rfl⟩⟩; refine ⟨_, rfl, ?_⟩; (try (rw [drewN_self wr]; generalize hq_ : World.drewN wr _ = wr; have n0_ : Aside0 (Kd.R (Kd.int .i64) 3 wr w.heap.size (fun _ => True) v246 x5_1) := ⟨by rw [← hq_]; exact (ro_ HO_5.out)⟩; have n1_ : Aside0 (Below w.heap.size w wr) := ⟨by rw [← hq_]; exact (bw0_ HB.out)⟩; clear HO_5 HB hq_; have HO_5 := n0_; have HB := n1_; clear n0_ n1_))) | ((with_reducible refine gate_callee (f := 90) rfl ?_); refine goesL_ (some 32) rfl rfl Try.func90 (by kernel_rfl) rfl #[.slice A0 l0.length c0, .int .i64 t250] rfl la_ ?_; (with_reducible refine (impl_mapped.calls _ _ l0 t250 t251 _ (kc_ HR0.out HB.out) HC0.out A12.out).mono ?_); rintro e w' ⟨rfl, ⟨nd, rfl⟩⟩; refine ⟨_, rfl, ?_⟩; (try (rw [drewN_self wr]; generalize hq_ : World.drewN wr _ = wr; have n0_ : Aside0 (Kd.R (Kd.int .i64) 3 wr w.heap.size (fun _ => True) v246 x5_1) := ⟨by rw [← hq_]; exact (ro_ HO_5.out)⟩; have n1_ : Aside0 (Below w.heap.size w wr) := ⟨by rw [← hq_]; exact (bw0_ HB.out)⟩; clear HO_5 HB hq_; have HO_5 := n0_; have HB := n1_; clear n0_ n1_)); have p15 : 0 ≤ (x18_1 : Int) := dt_; have q15 : (x18_1 : Int) < ((x5_1.length : Int) : Int) := dt_; obtain ⟨go15, co15, eo15, gb15, gl15, cl15, HG15⟩ := Kd.R_form HO_5.out (by omega); (first | cases eo15 | (injection eo15 with ea_ en_ ec_; (first | subst ea_ | (injection ea_ with ea_; subst ea_)); subst ec_; clear en_)); have GB15 := sd_ gb15; have GG15 := sd_ HG15; clear gb15 gl15 HG15; obtain ⟨hx15_0, hf15_0⟩ := Kd.R_celln 0 HO_5.out (x18_1 : Int) p15 q15; replace p15 := eq_true p15; replace q15 := eq_true q15; obtain ⟨hy18_, hz18_⟩ := Kd.R_celln 0 HO_5.out (x18_1 : Int) (dt_) (dt_); have HP18 := Kd.R_putg HO_5.out (x18_1 : Int) (wrap64 (19 + t251))) | ((with_reducible refine gate_store (t := 3) (p := 39) rfl ?_); refine store_event (t := 3) (p := 39) (v := ?vo_w19) (w1 := (wr.setCell ⟨go15, (x18_1 : Int).toNat, none⟩ (.int .i64 (wrap64 (19 + t251))))) ?hg ?ho ?hn ?hr ?_; (case ho => rfl); (case hg => rfl); (case hn => rfl); (case hr => first | (go_simp; done) | (go_simp; rfl)); intro w19 hw; have hg : wr.grownBy w19 (some go15) := (by rw [hw]; exact HP18.2); have hp_ : Kd.R (Kd.int .i64) 3 w19 w.heap.size (fun _ => True) (.slice (some ⟨go15, 0, none⟩) x5_1.length co15) y252 := (by rw [hw, Ny252.out]; exact HP18.1); clear HP18; replace HO_5 := sd_ (hp_); replace HB := sd_ ((by rw [hw]; exact below_set (HB.out) GB15.out : Below w.heap.size w w19)); clear hg hw hp_; have p17 : 0 ≤ (x18_1 : Int) := dt_; have q17 : (x18_1 : Int) < ((x5_1.length : Int) : Int) := dt_; obtain ⟨hx17_0, hf17_0⟩ := Kd.R_celln 0 HO_5.out (x18_1 : Int) p17 q17; replace p17 := eq_true p17; replace q17 := eq_true q17; obtain ⟨hy20_, hz20_⟩ := Kd.R_celln 0 HO_5.out (x18_1 : Int) (dt_) (dt_); have HP20 := Kd.R_putg HO_5.out (x18_1 : Int) (wrap64 (3 + t251))) | ((with_reducible refine gate_store (t := 3) (p := 46) rfl ?_); refine store_event (t := 3) (p := 46) (v := ?vo_w21) (w1 := (w19.setCell ⟨go15, (x18_1 : Int).toNat, none⟩ (.int .i64 (wrap64 (3 + t251))))) ?hg ?ho ?hn ?hr ?_; (case ho => rfl); (case hg => rfl); (case hn => rfl); (case hr => first | (go_simp; done) | (go_simp; rfl)); intro w21 hw; have hg : w19.grownBy w21 (some go15) := (by rw [hw]; exact HP20.2); have hp_ : Kd.R (Kd.int .i64) 3 w21 w.heap.size (fun _ => True) (.slice (some ⟨go15, 0, none⟩) x5_1.length co15) y253 := (by rw [hw, Ny253.out]; exact HP20.1); clear HP20; replace HO_5 := sd_ (hp_); replace HB := sd_ ((by rw [hw]; exact below_set (HB.out) GB15.out : Below w.heap.size w w21)); clear hg hw hp_))
         go_roundg k1
         case measure => have := HK1.out; omega
         case rel => exact ⟨(y253), (wrap64 (x18_1 + 1)), sm_, H', ⟨by have := HK1.out; omega⟩, ⟨by (with_reducible repeat (first | apply Kd.R_alloc | apply Kd.R_drewN | apply Kd.R_drew)); exact HO_5.out⟩, ⟨bw0_ HB.out⟩⟩
        rw [if_neg c16] at H
        have c16b0 : (t249 == 3) = false := beq_eq_false_iff_ne.mpr c16
        have c16b1 : (t249 != 3) = true := bne_iff_ne.mpr c16
        have H' := sd_ H
        clear H
        have p248 : 0 ≤ (x18_1 : Int) := dt_
        have q248 : x18_1 < (l1.length : Int) := dt_
        obtain ⟨ad248, e248, hx248_0⟩ := Kd.at_int HR1.out x18_1 p248 q248
        cases e248
        replace hx248_0 := (HB.out.cell (World.block_lt_of_cell? w _ hx248_0)).trans hx248_0
        replace p248 := eq_true p248
        replace q248 := eq_true q248
        go_wp2_with (first | ((with_reducible refine gate_callee (f := 122) rfl ?_); refine goesL_ (some 25) rfl rfl Try.func122 (by kernel_rfl) rfl #[.int .i64 (rd l1 x18_1)] rfl la_ ?_; (with_reducible refine (impl_shape.calls (rd l1 x18_1) t249 t250 _ A10.out).mono ?_); rintro e w' ⟨rfl, ⟨nd, rfl⟩⟩; refine ⟨_, rfl, ?_⟩; (try (rw [drewN_self wr]; generalize hq_ : World.drewN wr _ = wr; have n0_ : Aside0 (Kd.R (Kd.int .i64) 3 wr w.heap.size (fun _ => True) v246 x5_1) := ⟨by rw [← hq_]; exact (ro_ HO_5.out)⟩; have n1_ : Aside0 (Below w.heap.size w wr) := ⟨by rw [← hq_]; exact (bw0_ HB.out)⟩; clear HO_5 HB hq_; have HO_5 := n0_; have HB := n1_; clear n0_ n1_))) | ((with_reducible refine gate_callee (f := 90) rfl ?_); refine goesL_ (some 32) rfl rfl Try.func90 (by kernel_rfl) rfl #[.slice A0 l0.length c0, .int .i64 t250] rfl la_ ?_; (with_reducible refine (impl_mapped.calls _ _ l0 t250 t251 _ (kc_ HR0.out HB.out) HC0.out A12.out).mono ?_); rintro e w' ⟨rfl, ⟨nd, rfl⟩⟩; refine ⟨_, rfl, ?_⟩; (try (rw [drewN_self wr]; generalize hq_ : World.drewN wr _ = wr; have n0_ : Aside0 (Kd.R (Kd.int .i64) 3 wr w.heap.size (fun _ => True) v246 x5_1) := ⟨by rw [← hq_]; exact (ro_ HO_5.out)⟩; have n1_ : Aside0 (Below w.heap.size w wr) := ⟨by rw [← hq_]; exact (bw0_ HB.out)⟩; clear HO_5 HB hq_; have HO_5 := n0_; have HB := n1_; clear n0_ n1_)); have p15 : 0 ≤ (x18_1 : Int) := dt_; have q15 : (x18_1 : Int) < ((x5_1.length : Int) : Int) := dt_; obtain ⟨go15, co15, eo15, gb15, gl15, cl15, HG15⟩ := Kd.R_form HO_5.out (by omega); (first | cases eo15 | (injection eo15 with ea_ en_ ec_; (first | subst ea_ | (injection ea_ with ea_; subst ea_)); subst ec_; clear en_)); have GB15 := sd_ gb15; have GG15 := sd_ HG15; clear gb15 gl15 HG15; obtain ⟨hx15_0, hf15_0⟩ := Kd.R_celln 0 HO_5.out (x18_1 : Int) p15 q15; replace p15 := eq_true p15; replace q15 := eq_true q15; obtain ⟨hy22_, hz22_⟩ := Kd.R_celln 0 HO_5.out (x18_1 : Int) (dt_) (dt_); have HP22 := Kd.R_putg HO_5.out (x18_1 : Int) (wrap64 (19 + t251))) | ((with_reducible refine gate_store (t := 3) (p := 39) rfl ?_); refine store_event (t := 3) (p := 39) (v := ?vo_w23) (w1 := (wr.setCell ⟨go15, (x18_1 : Int).toNat, none⟩ (.int .i64 (wrap64 (19 + t251))))) ?hg ?ho ?hn ?hr ?_; (case ho => rfl); (case hg => rfl); (case hn => rfl); (case hr => first | (go_simp; done) | (go_simp; rfl)); intro w23 hw; have hg : wr.grownBy w23 (some go15) := (by rw [hw]; exact HP22.2); have hp_ : Kd.R (Kd.int .i64) 3 w23 w.heap.size (fun _ => True) (.slice (some ⟨go15, 0, none⟩) x5_1.length co15) y252 := (by rw [hw, Ny252.out]; exact HP22.1); clear HP22; replace HO_5 := sd_ (hp_); replace HB := sd_ ((by rw [hw]; exact below_set (HB.out) GB15.out : Below w.heap.size w w23)); clear hg hw hp_))
        go_roundg k1
        case measure => have := HK1.out; omega
        case rel => exact ⟨(y252), (wrap64 (x18_1 + 1)), sm_, H', ⟨by have := HK1.out; omega⟩, ⟨by (with_reducible repeat (first | apply Kd.R_alloc | apply Kd.R_drewN | apply Kd.R_drew)); exact HO_5.out⟩, ⟨bw0_ HB.out⟩⟩
       rw [if_neg c14] at H
       exact absurd H (by simp)
      rw [if_neg c9] at H
      exact absurd H (by simp)
     rw [if_neg c8] at H
     exact absurd H (by simp)
    rw [if_neg c7] at H
    have c7b0 : decide (x18_1 < (l1.length : Int)) = false := decide_eq_false c7
    clear c7
    obtain rfl := Option.some.inj H
    go_wp2
    go_ret
    exact ⟨_, an_, by (with_reducible repeat (first | apply Kd.R_alloc | apply Kd.R_drewN | apply Kd.R_drew)); exact HO_5.out, bw0_ HB.out, fun hr_ => by obtain ⟨A_, c_, e_, hp_⟩ := VN.out; have q_ := HO_5.out; rw [e_] at q_; have := (Kd.R_reads' q_).1; rw [hr_] at this; simp only [List.length_nil] at this; omega⟩
 replace c4 := Bool.eq_false_iff.mpr c4
 subst c4
 have H1 : (some ([] : List Int)) = some r := by rw [if_neg (show ¬ (false = true) by decide)] at H; exact H
 clear H
 have H := H1
 clear H1
 obtain rfl := Option.some.inj H
 go_enter Try.func91, Try.ntmps91
 go_wp2_with (first | ((with_reducible refine gate_callee (f := 120) rfl ?_); refine goesL_ (some 12) rfl rfl Try.func120 (by kernel_rfl) rfl #[.slice A1 l1.length c1] rfl la_ ?_; (with_reducible refine (impl_isWrittenType.calls k _ _ l1 false _ (kp_ HR1.out) HC1.out A3.out).mono ?_); rintro e w' ⟨rfl, ⟨nd, rfl⟩⟩; refine ⟨_, rfl, ?_⟩))
 go_ret
 exact ⟨_, an_, by first | exact Kd.R_nil _ _ _ _ _ | exact Kd.N_nil _ _ _ _ _ | exact Kd.V_nil _ _ _ _ _ | exact Kd.Q_nil _ _ _ _ _ | exact Kd.S_nil _ _ _ _ _, bw0_ HB.out, by first | rfl | (intro _; rfl)⟩

end Go.Proofs.Ytipfkicndjddgaa.P
end

section
/- Marks of rows; types under a map. -/
set_option linter.unusedSimpArgs false
set_option linter.unusedVariables false
namespace Go.Proofs.Ytipfkicndjddgaa.Pure
open Go.RowKit Go.Proofs.Ytipfkicndjddgaa.P Go.Proofs.YtipfkicndjddgaaW.PrintWords Go.Proofs.YtipfkicndjddgaaW.PrintLast
/-- Numbers from a on, n of them. -/
def marks (a : Int) : Nat → List Int
  | 0 => []
  | n + 1 => a :: marks (a + 1) n
theorem marks_len : ∀ (n : Nat) (a : Int), (marks a n).length = n
  | 0, _ => rfl
  | n + 1, a => by simp [marks, marks_len n (a + 1)]
theorem markS_loop (hi : Int) (hh : hi ≤ 4611686018427387904) : ∀ (m : Nat) (pre rest : List Int) (a : Int), rest.length = m → 0 ≤ a → a + m ≤ hi → (pre.length : Int) + m ≤ hi → Ev (fun k => laws_markIntS.l0 k (pre ++ rest) a (pre.length : Int)) (a + m, pre ++ marks a m)
  | 0, pre, rest, a, h, ha, hb, hc => by
    obtain rfl : rest = [] := List.length_eq_zero_iff.mp h
    refine Ev.step (f := fun _ => some (a + 0, pre ++ marks a 0)) (fun k => ?_) (Ev.now _)
    simp only [laws_markIntS.l0, marks, List.append_nil]
    rw [if_neg (by omega), Int.add_zero]
  | m + 1, pre, rest, a, h, ha, hb, hc => by
    obtain ⟨z, zs, rfl⟩ : ∃ z zs, rest = z :: zs := by cases rest with | nil => cases h | cons z zs => exact ⟨z, zs, rfl⟩
    have ih := markS_loop hi hh m (pre ++ [a]) zs (a + 1) (by simpa using h) (by omega) (by omega) (by simp; omega)
    have e1 : (pre ++ z :: zs).set pre.length a = (pre ++ [a]) ++ zs := by simp
    have e2 : a + ((m + 1 : Nat) : Int) = a + 1 + m := by omega
    have e3 : pre ++ marks a (m + 1) = (pre ++ [a]) ++ marks (a + 1) m := by simp [marks]
    rw [e2, e3]
    refine Ev.step (fun k => ?_) ih
    simp only [laws_markIntS.l0]
    rw [if_pos (by simp; omega), if_pos (by omega), w64 (x := a + 1) (by omega) (by omega), w64 (x := (pre.length : Int) + 1) (by omega) (by omega), Int.toNat_natCast, e1, show ((pre ++ [a]).length : Int) = (pre.length : Int) + 1 by simp]
theorem markIntS (l : List Int) (a : Int) (ha : 0 ≤ a) (hb : a + l.length ≤ 4611686018427387904) : Ev (fun k => laws_markIntS.f k l a) (a + l.length, marks a l.length) := by
  unfold laws_markIntS.f
  exact markS_loop _ (Int.le_refl _) l.length [] l a rfl ha hb (by simp; omega)
theorem heldS_loop (hi : Int) (hh : hi ≤ 4611686018427387904) : ∀ (m : Nat) (pre : List Int) (a : Int), 0 ≤ a → a + m ≤ hi → (pre.length : Int) + m ≤ hi → Ev (fun k => laws_heldIntS.l0 k (pre ++ marks a m) a (pre.length : Int)) (a + m)
  | 0, pre, a, ha, hb, hc => by
    refine Ev.step (f := fun _ => some (a + 0)) (fun k => ?_) (Ev.now _)
    simp only [laws_heldIntS.l0, marks, List.append_nil]
    rw [if_neg (by omega), Int.add_zero]
  | m + 1, pre, a, ha, hb, hc => by
    have ih := heldS_loop hi hh m (pre ++ [a]) (a + 1) (by omega) (by omega) (by simp; omega)
    have e2 : a + ((m + 1 : Nat) : Int) = a + 1 + m := by omega
    have e3 : pre ++ marks a (m + 1) = (pre ++ [a]) ++ marks (a + 1) m := by simp [marks]
    have e4 : rd (pre ++ marks a (m + 1)) (pre.length : Int) = a := by rw [rd_get (by simp [marks])]; simp [marks]
    rw [e2]
    refine Ev.step (fun k => ?_) ih
    simp only [laws_heldIntS.l0]
    rw [if_pos (by simp [marks]; omega), if_pos (by omega), e4, if_pos rfl, e3, w64 (x := a + 1) (by omega) (by omega), w64 (x := (pre.length : Int) + 1) (by omega) (by omega), show ((pre ++ [a]).length : Int) = (pre.length : Int) + 1 by simp]
theorem heldIntS (n : Nat) (a : Int) (ha : 0 ≤ a) (hb : a + (n : Int) ≤ 4611686018427387904) : Ev (fun k => laws_heldIntS.f k (marks a n) a) (a + n) := by
  unfold laws_heldIntS.f
  exact heldS_loop _ (Int.le_refl _) n [] a ha hb (by simp; omega)
/-- What is put for a code: none where its grade has no image. -/
def mapOne (f : List Int) (c : Int) : Option Int :=
  if (shapeV c).2 < 0 then some c
  else if (shapeV c).2 < (f.length : Int) ∧ 0 ≤ rd f (shapeV c).2 ∧ rd f (shapeV c).2 ≤ 15 then some ((if (shapeV c).1 = 3 then 3 else 19) + rd f (shapeV c).2)
  else none
def mapAll (f : List Int) : List Int → Option (List Int)
  | [] => some []
  | c :: cs => (mapOne f c).bind fun y => (mapAll f cs).bind fun ys => some (y :: ys)
def mapV (f xs : List Int) : List Int := if writtenV xs = true then (mapAll f xs).getD [] else []
theorem shape_two (c : Int) : 0 ≤ (shapeV c).2 → ((shapeV c).1 = 3 ∧ 3 ≤ c ∧ c ≤ 18 ∧ (shapeV c).2 = c - 3) ∨ ((shapeV c).1 = 4 ∧ 19 ≤ c ∧ c ≤ 34 ∧ (shapeV c).2 = c - 19) := by
  unfold shapeV
  repeat' split
  all_goals (intro h; simp at h ⊢; try omega)
theorem shape_neg (c : Int) : (shapeV c).2 < 0 → c < 3 ∨ 35 ≤ c := by
  unfold shapeV
  repeat' split
  all_goals (intro h; simp at h ⊢; try omega)
theorem specMap (f xs : List Int) (hf : f.length ≤ 1048576) (hl : xs.length ≤ 1048576) : ∀ (m i : Nat) (acc : List Int), i + m = xs.length → acc.length = i → Ev (fun k => spec_MapType.l0 k f xs acc (i : Int)) (((mapAll f (xs.drop i)).map (acc ++ ·)).getD [])
  | 0, i, acc, hi, ha => by
    rw [List.drop_eq_nil_of_le (by omega)]
    refine Ev.step (f := fun _ => some acc) (fun k => ?_) (by simpa [mapAll] using Ev.now acc)
    simp only [spec_MapType.l0]; rw [if_neg (by omega)]
  | m + 1, i, acc, hi, ha => by
    rw [List.drop_eq_getElem_cons (by omega)]
    have up : wrap64 ((i : Int) + 1) = ((i + 1 : Nat) : Int) := by rw [w64 (by omega) (by omega)]; omega
    have i1 : (i : Int) < (xs.length : Int) := by omega
    have i0 : 0 ≤ (i : Int) := by omega
    have len : acc.length < 17592186044416 := by omega
    have ih := fun y => specMap f xs hf hl m (i + 1) (acc ++ [y]) (by omega) (by simp [ha])
    have key : ∀ k, spec_MapType.l0 (k + 4) f xs acc (i : Int) = (match mapOne f xs[i] with | none => some [] | some y => spec_MapType.l0 (k + 2) f xs (acc ++ [y]) ((i + 1 : Nat) : Int)) := by
      intro k
      show (if (i : Int) < (xs.length : Int) then _ else _) = _
      rw [if_pos i1, if_pos i0, rd_get (by omega), kids_eq, Option.bind_some]
      unfold mapOne
      by_cases g0 : (shapeV xs[i]).2 < 0
      · rw [if_pos g0]
        have hc := shape_neg _ g0
        have plain : ∀ j, spec_MapType.j1 (j + 1) f xs acc (i : Int) xs[i] false = spec_MapType.l0 j f xs (acc ++ [xs[i]]) ((i + 1 : Nat) : Int) := by
          intro j
          simp only [spec_MapType.j1, Bool.false_eq_true, if_false]
          rw [if_pos len, up]
        by_cases ck : kidsV xs[i] > 0
        · rw [if_pos ck]
          by_cases c2 : xs[i] > 2
          · have c35 : xs[i] ≥ 35 := by omega
            rw [if_pos c2]
            unfold spec_l2Grade.f
            rw [if_pos c35, Option.bind_some]
            exact plain _
          · rw [if_neg c2]; exact plain _
        · rw [if_neg ck]; exact plain _
      · rw [if_neg g0]
        rcases shape_two xs[i] (by omega) with ⟨s3, a1, a2, s2⟩ | ⟨s4, a1, a2, s2⟩
        · have ck : kidsV xs[i] > 0 := by unfold kidsV; rw [if_neg (by omega), if_pos (by omega)]; decide
          have eg : spec_l2Grade.f xs[i] = some (xs[i] - 3) := by unfold spec_l2Grade.f; rw [if_neg (by omega), if_neg (by omega), w64 (by omega) (by omega)]
          have ea : spec_l2Arrow.f xs[i] = some true := by unfold spec_l2Arrow.f; rw [in_eq, (inV_iff _ _ _).mpr ⟨a1, a2⟩]; rfl
          rw [if_pos ck, if_pos (show xs[i] > 2 by omega), eg, Option.bind_some, decide_eq_true (show xs[i] - 3 ≥ 0 by omega), s3, s2]
          simp only [spec_MapType.j1, if_true, eg, ea, Option.bind_some, spec_l3Mapped.f]
          rw [if_neg (show ¬ xs[i] - 3 < 0 by omega)]
          by_cases r1 : xs[i] - 3 < (f.length : Int)
          · rw [if_pos r1, if_pos (show 0 ≤ xs[i] - 3 by omega), in_eq, Option.bind_some, Option.bind_some]
            by_cases r2 : 0 ≤ rd f (xs[i] - 3) ∧ rd f (xs[i] - 3) ≤ 15
            · rw [(inV_iff _ _ _).mpr r2, if_pos rfl, if_pos (show 0 ≤ xs[i] - 3 by omega), if_pos r1, if_pos ⟨r1, r2.1, r2.2⟩]
              unfold spec_l2Code.f
              rw [if_pos rfl, decide_eq_false (show ¬ rd f (xs[i] - 3) < 0 by omega)]
              simp only [spec_l2Code.j0, Bool.false_eq_true, if_false, if_true, Option.bind_some]
              rw [w64 (x := 3 + rd f (xs[i] - 3)) (by omega) (by omega), if_pos len, up]
            · have e : inV (rd f (xs[i] - 3)) 0 15 = false := by rw [Bool.eq_false_iff]; exact fun hh => r2 ((inV_iff _ _ _).mp hh)
              rw [e, if_neg (by decide), if_neg (fun hh => r2 ⟨hh.2.1, hh.2.2⟩)]
          · rw [if_neg r1, Option.bind_some, if_neg (by decide), if_neg (fun hh => r1 hh.1)]
        · have ck : kidsV xs[i] > 0 := by unfold kidsV; rw [if_neg (by omega), if_neg (by omega), if_pos (by omega)]; decide
          have eg : spec_l2Grade.f xs[i] = some (xs[i] - 19) := by unfold spec_l2Grade.f; rw [if_neg (by omega), if_pos (by omega), w64 (by omega) (by omega)]
          have e3 : inV xs[i] 3 18 = false := by rw [Bool.eq_false_iff]; exact fun hh => by have := (inV_iff _ _ _).mp hh; omega
          have ea : spec_l2Arrow.f xs[i] = some false := by unfold spec_l2Arrow.f; rw [in_eq, e3, Option.bind_some, if_neg (by decide), beq_eq_false_iff_ne.mpr (by omega)]
          rw [if_pos ck, if_pos (show xs[i] > 2 by omega), eg, Option.bind_some, decide_eq_true (show xs[i] - 19 ≥ 0 by omega), s4, s2]
          simp only [spec_MapType.j1, if_true, eg, ea, Option.bind_some, spec_l3Mapped.f]
          rw [if_neg (show ¬ xs[i] - 19 < 0 by omega)]
          by_cases r1 : xs[i] - 19 < (f.length : Int)
          · rw [if_pos r1, if_pos (show 0 ≤ xs[i] - 19 by omega), in_eq, Option.bind_some, Option.bind_some]
            by_cases r2 : 0 ≤ rd f (xs[i] - 19) ∧ rd f (xs[i] - 19) ≤ 15
            · rw [(inV_iff _ _ _).mpr r2, if_pos rfl, if_pos (show 0 ≤ xs[i] - 19 by omega), if_pos r1, if_pos ⟨r1, r2.1, r2.2⟩]
              unfold spec_l2Code.f
              rw [if_neg (by decide)]
              simp only [spec_l2Code.j0, Bool.false_eq_true, if_false, Option.bind_some]
              rw [if_neg (show ¬ rd f (xs[i] - 19) < 0 by omega), w64 (x := 19 + rd f (xs[i] - 19)) (by omega) (by omega), Option.bind_some, if_pos len, up, if_neg (by decide)]
            · have e : inV (rd f (xs[i] - 19)) 0 15 = false := by rw [Bool.eq_false_iff]; exact fun hh => r2 ((inV_iff _ _ _).mp hh)
              rw [e, if_neg (by decide), if_neg (fun hh => r2 ⟨hh.2.1, hh.2.2⟩)]
          · rw [if_neg r1, Option.bind_some, if_neg (by decide), if_neg (fun hh => r1 hh.1)]
    cases hm : mapOne f xs[i] with
    | none =>
      have e : ((mapAll f (xs[i] :: xs.drop (i + 1))).map (acc ++ ·)).getD [] = [] := by simp only [mapAll, hm]; rfl
      rw [e]
      refine ⟨4, fun k hk => ?_⟩
      obtain ⟨k, rfl⟩ : ∃ q, k = q + 4 := ⟨k - 4, by omega⟩
      show spec_MapType.l0 (k + 4) f xs acc (i : Int) = _
      rw [key, hm]
    | some y =>
      have e : ((mapAll f (xs[i] :: xs.drop (i + 1))).map (acc ++ ·)).getD [] = ((mapAll f (xs.drop (i + 1))).map ((acc ++ [y]) ++ ·)).getD [] := by
        simp only [mapAll, hm, Option.bind_some]
        cases mapAll f (xs.drop (i + 1)) <;> simp
      rw [e]
      obtain ⟨K, hK⟩ := ih y
      refine ⟨K + 4, fun k hk => ?_⟩
      obtain ⟨k, rfl⟩ : ∃ q, k = q + 4 := ⟨k - 4, by omega⟩
      show spec_MapType.l0 (k + 4) f xs acc (i : Int) = _
      rw [key, hm]
      exact hK (k + 2) (by omega)
theorem mapped_eq (f : List Int) (hf : f.length ≤ 1048576) (g : Int) (hg : 0 ≤ g) : impl_mapped.f f g = some (if g < (f.length : Int) ∧ 0 ≤ rd f g ∧ rd f g ≤ 15 then rd f g else -1) := by
  unfold impl_mapped.f
  rw [within_eq, Option.bind_some, w64 (x := (f.length : Int) - 1) (by omega) (by omega)]
  by_cases r1 : g < (f.length : Int)
  · rw [(inV_iff _ _ _).mpr ⟨hg, by omega⟩, if_pos rfl, if_pos hg, if_pos r1, within_eq, Option.bind_some]
    by_cases r2 : 0 ≤ rd f g ∧ rd f g ≤ 15
    · rw [(inV_iff _ _ _).mpr r2, if_pos rfl, if_pos ⟨r1, r2.1, r2.2⟩]
    · have e : inV (rd f g) 0 15 = false := by rw [Bool.eq_false_iff]; exact fun hh => r2 ((inV_iff _ _ _).mp hh)
      rw [e, if_neg (by decide), if_neg (fun hh => r2 ⟨hh.2.1, hh.2.2⟩)]
  · have e : inV g 0 ((f.length : Int) - 1) = false := by rw [Bool.eq_false_iff]; intro hh; have := (inV_iff _ _ _).mp hh; omega
    rw [e, if_neg (by decide), if_neg (fun hh => r1 hh.1)]
theorem implMap (f xs : List Int) (hf : f.length ≤ 1048576) (hl : xs.length ≤ 1048576) : ∀ (m i : Nat) (pre : List Int), i + m = xs.length → pre.length = i → Ev (fun k => impl_MapType.l0 k f (pre ++ xs.drop i) xs (xs.length : Int) (i : Int)) (((mapAll f (xs.drop i)).map (pre ++ ·)).getD [])
  | 0, i, pre, hi, ha => by
    rw [List.drop_eq_nil_of_le (by omega)]
    refine Ev.step (f := fun _ => some pre) (fun k => ?_) (by simpa [mapAll] using Ev.now pre)
    simp only [impl_MapType.l0, List.append_nil]; rw [if_neg (by omega)]
  | m + 1, i, pre, hi, ha => by
    rw [List.drop_eq_getElem_cons (by omega)]
    have up : wrap64 ((i : Int) + 1) = ((i + 1 : Nat) : Int) := by rw [w64 (by omega) (by omega)]; omega
    have i1 : (i : Int) < (xs.length : Int) := by omega
    have i0 : 0 ≤ (i : Int) := by omega
    have ih := fun y => implMap f xs hf hl m (i + 1) (pre ++ [y]) (by omega) (by simp [ha])
    have e0 : ∀ y, (pre ++ [y]) ++ xs.drop (i + 1) = pre ++ y :: xs.drop (i + 1) := fun y => by simp
    have es : ∀ y z, (pre ++ y :: xs.drop (i + 1)).set i z = pre ++ z :: xs.drop (i + 1) := fun y z => by
      subst ha; simp
    have ln : ∀ y, (i : Int) < ((pre ++ y :: xs.drop (i + 1)).length : Int) := fun y => by simp; omega
    have key : ∀ k, impl_MapType.l0 (k + 1) f (pre ++ xs[i] :: xs.drop (i + 1)) xs (xs.length : Int) (i : Int) = (match mapOne f xs[i] with | none => some [] | some y => impl_MapType.l0 k f (pre ++ y :: xs.drop (i + 1)) xs (xs.length : Int) ((i + 1 : Nat) : Int)) := by
      intro k
      show (if (i : Int) < (xs.length : Int) then _ else _) = _
      rw [if_pos i1, if_pos i0, if_pos i1, rd_get (by omega), shape_eq, Option.bind_some]
      unfold mapOne
      by_cases g0 : (shapeV xs[i]).2 < 0
      · rw [if_pos g0, if_pos g0, up]
      · rw [if_neg g0, if_neg g0, mapped_eq f hf _ (by omega), Option.bind_some]
        by_cases r : (shapeV xs[i]).2 < (f.length : Int) ∧ 0 ≤ rd f (shapeV xs[i]).2 ∧ rd f (shapeV xs[i]).2 ≤ 15
        · rw [if_pos r, if_pos r, if_neg (by omega), if_pos (ln _), Option.bind_some, Int.toNat_natCast, es, es, up]
          rw [w64 (x := 19 + rd f (shapeV xs[i]).2) (by omega) (by omega), w64 (x := 3 + rd f (shapeV xs[i]).2) (by omega) (by omega)]
          by_cases s3 : (shapeV xs[i]).1 = 3
          · rw [if_pos s3, if_pos s3]
          · rw [if_neg s3, if_neg s3]
        · rw [if_neg r, if_neg r, if_pos (by decide)]
    cases hm : mapOne f xs[i] with
    | none =>
      have e : ((mapAll f (xs[i] :: xs.drop (i + 1))).map (pre ++ ·)).getD [] = [] := by simp only [mapAll, hm]; rfl
      rw [e]
      exact Ev.step (f := fun _ => some []) (fun k => by rw [key, hm]) (Ev.now _)
    | some y =>
      have e : ((mapAll f (xs[i] :: xs.drop (i + 1))).map (pre ++ ·)).getD [] = ((mapAll f (xs.drop (i + 1))).map ((pre ++ [y]) ++ ·)).getD [] := by
        simp only [mapAll, hm, Option.bind_some]
        cases mapAll f (xs.drop (i + 1)) <;> simp
      rw [e]
      have := ih y
      rw [e0] at this
      exact Ev.step (fun k => by rw [key, hm]) this
theorem specV (f xs : List Int) (hf : f.length ≤ 1048576) (hl : xs.length ≤ 1048576) : Ev (fun k => spec_MapType.f k f xs) (mapV f xs) := by
  unfold spec_MapType.f mapV
  refine Ev.bind (specWritten xs hl) ?_
  cases writtenV xs
  · simpa using Ev.now ([] : List Int)
  · simp only [if_true]
    have := specMap f xs hf hl xs.length 0 [] (by omega) rfl
    simpa using this
theorem implV (f xs : List Int) (hf : f.length ≤ 1048576) (hl : xs.length ≤ 1048576) : Ev (fun k => impl_MapType.f k f xs) (mapV f xs) := by
  unfold impl_MapType.f mapV
  refine Ev.bind (implWritten xs hl) ?_
  cases writtenV xs
  · simpa using Ev.now ([] : List Int)
  · have c : ([] : List Int).length + xs.length < 17592186044416 := by simp only [List.length_nil]; omega
    simp only [if_true, slices_Clone_int_int.f, if_pos c, Option.bind_some]
    have := implMap f xs hf hl xs.length 0 [] (by omega) rfl
    simpa using this
theorem mapAll_len (f : List Int) : ∀ (xs ys : List Int), mapAll f xs = some ys → ys.length = xs.length
  | [], ys, h => by simp only [mapAll, Option.some.injEq] at h; subst h; rfl
  | c :: cs, ys, h => by
    simp only [mapAll, Option.bind_eq_some_iff, Option.some.injEq] at h
    obtain ⟨y, _, zs, hz, rfl⟩ := h
    simp [mapAll_len f cs zs hz]
theorem mapV_len (f xs : List Int) (hl : xs.length ≤ 1048576) : (mapV f xs).length ≤ 1048576 := by
  unfold mapV
  split
  · cases c : mapAll f xs with
    | none => simp
    | some ys => simp [mapAll_len f xs ys c]; exact hl
  · simp
end Go.Proofs.Ytipfkicndjddgaa.Pure
end
