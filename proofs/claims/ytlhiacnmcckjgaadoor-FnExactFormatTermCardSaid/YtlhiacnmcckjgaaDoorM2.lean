-- Several texts in one (wip/tools/merge.py).
import Derived.Test.YtlhiacnmcckjgaaDoorM1
section
namespace Go.Proofs.YtlhiacnmcckjgaaDoor.P
open Go.RowKit Go.Proofs.YtlhiacnmcckjgaaDoorW.PrintWords Go.Proofs.YtlhiacnmcckjgaaDoorW.PrintLast Go.Proofs.YtlhiacnmcckjgaaDoorW.PrintMore
attribute [local go_sem] max2_int min2_int max_two min_two max_three min_three max_four min_four   -- for this text's walks alone
set_option linter.unusedVariables false
set_option linter.unusedSimpArgs false

/-! ### laws_eqIntS: function 8 -/
def laws_eqIntS.l0 : Nat → List Int → List Int → Int → Option (Bool)
 | 0, _, _, _ => none
 | k + 1, x0, x1, x5 => if x5 < (x0.length : Int) then (if 0 ≤ x5 then (if x5 < (x1.length : Int) then (if (rd x0 x5) = (rd x1 x5) then (laws_eqIntS.l0 k x0 x1 (wrap64 (x5 + 1))) else (some false)) else (none)) else (none)) else (some true)
def laws_eqIntS.f (k : Nat) (l0 : List Int) (l1 : List Int) : Option (Bool) := if (l0.length : Int) = (l1.length : Int) then (laws_eqIntS.l0 k l0 l1 0) else (some false)
set_option maxHeartbeats 8000000 in
set_option maxRecDepth 100000 in
theorem laws_eqIntS.calls (k : Nat) (A0 : Option Addr) (c0 : Nat) (l0 : List Int) (A1 : Option Addr) (c1 : Nat) (l1 : List Int) (r : Bool) (w : World) (hr0 : Kd.C (Kd.int .i64) w A0 l0.length l0) (hc0 : l0.length ≤ c0) (hr1 : Kd.C (Kd.int .i64) w A1 l1.length l1) (hc1 : l1.length ≤ c1) (h : laws_eqIntS.f k l0 l1 = some r) :
  Calls Tryd.prog 8 #[.slice A0 l0.length c0, .slice A1 l1.length c1] w fun e w' => e = .returned (.bool r) ∧ Drawn0 w w' := by
 have HR0 := sd_ hr0
 have HC0 := sd_ hc0
 clear hr0 hc0
 have HR1 := sd_ hr1
 have HC1 := sd_ hc1
 clear hr1 hc1
 have H : (if (l0.length : Int) = (l1.length : Int) then (laws_eqIntS.l0 k l0 l1 0) else (some false)) = some r := h
 clear h
 by_cases c3 : (l0.length : Int) = (l1.length : Int)
 ·rw [if_pos c3] at H
  have c3b0 : ((l0.length : Int) == (l1.length : Int)) = true := beq_iff_eq.mpr c3
  have c3b1 : ((l0.length : Int) != (l1.length : Int)) = false := bne_eq_false_iff_eq.mpr c3
  have c3b2 : (l0.length == l1.length) = true := by first | simpa using c3 | (simp at c3 ⊢; omega)
  clear c3
  have H' := sd_ H
  clear H
  go_enter Tryd.func8, Tryd.ntmps8
  go_wp2
  repeat (go_quiet (fail); try go_wp2)
  go_loopg [5] k (fun kq v5 w' => ∃ (x5_1 : Int), v5 = .int .i64 x5_1 ∧ Aside0 (laws_eqIntS.l0 kq l0 l1 x5_1 = some r) ∧ Aside0 (kq ≤ k) ∧ Drawn0 w w')
  case atStart => exact ⟨(0), sm_, H', ⟨Nat.le_refl _⟩, by repeat (first | exact Drawn0.refl _ | apply Drawn0.step)⟩
  case round =>
   clear H'
   try clear c1
   try clear p2
   try clear c3
   try clear c3b0
   try clear c3b1
   try clear c3b2
   obtain ⟨x5_1, rfl, HA, HK1, ⟨m1, rfl⟩⟩ := hrel
   cases gk with
   | zero => exact absurd HA.out (by simp [laws_eqIntS.l0])
   | succ k1 =>
    have H := HA.out
    clear HA
    simp only [laws_eqIntS.l0] at H
    by_cases c4 : x5_1 < (l0.length : Int)
    ·rw [if_pos c4] at H
     have c4b0 : decide (x5_1 < (l0.length : Int)) = true := decide_eq_true c4
     clear c4
     by_cases c5 : 0 ≤ x5_1
     ·rw [if_pos c5] at H
      have c5b0 : decide (0 ≤ x5_1) = true := decide_eq_true c5
      clear c5
      by_cases c6 : x5_1 < (l1.length : Int)
      ·rw [if_pos c6] at H
       have c6b0 : decide (x5_1 < (l1.length : Int)) = true := decide_eq_true c6
       clear c6
       by_cases c7 : (rd l0 x5_1) = (rd l1 x5_1)
       ·rw [if_pos c7] at H
        have c7b0 : ((rd l0 x5_1) == (rd l1 x5_1)) = true := beq_iff_eq.mpr c7
        have c7b1 : ((rd l0 x5_1) != (rd l1 x5_1)) = false := bne_eq_false_iff_eq.mpr c7
        clear c7
        have H' := sd_ H
        clear H
        have p261 : 0 ≤ (x5_1 : Int) := dt_
        have q261 : x5_1 < (l0.length : Int) := dt_
        obtain ⟨ad261, e261, hx261_0⟩ := Kd.at_int HR0.out x5_1 p261 q261
        cases e261
        replace p261 := eq_true p261
        replace q261 := eq_true q261
        have p262 : 0 ≤ (x5_1 : Int) := dt_
        have q262 : x5_1 < (l1.length : Int) := dt_
        obtain ⟨ad262, e262, hx262_0⟩ := Kd.at_int HR1.out x5_1 p262 q262
        cases e262
        replace p262 := eq_true p262
        replace q262 := eq_true q262
        go_wp2
        repeat (go_quiet (fail); try go_wp2)
        go_roundg k1
        case measure => have := HK1.out; omega
        case rel => exact ⟨(wrap64 (x5_1 + 1)), sm_, H', ⟨by have := HK1.out; omega⟩, by repeat (first | exact Drawn0.refl _ | apply Drawn0.step)⟩
       rw [if_neg c7] at H
       have c7b0 : ((rd l0 x5_1) == (rd l1 x5_1)) = false := beq_eq_false_iff_ne.mpr c7
       have c7b1 : ((rd l0 x5_1) != (rd l1 x5_1)) = true := bne_iff_ne.mpr c7
       obtain rfl := Option.some.inj H
       have p261 : 0 ≤ (x5_1 : Int) := dt_
       have q261 : x5_1 < (l0.length : Int) := dt_
       obtain ⟨ad261, e261, hx261_0⟩ := Kd.at_int HR0.out x5_1 p261 q261
       cases e261
       replace p261 := eq_true p261
       replace q261 := eq_true q261
       have p262 : 0 ≤ (x5_1 : Int) := dt_
       have q262 : x5_1 < (l1.length : Int) := dt_
       obtain ⟨ad262, e262, hx262_0⟩ := Kd.at_int HR1.out x5_1 p262 q262
       cases e262
       replace p262 := eq_true p262
       replace q262 := eq_true q262
       go_wp2
       repeat (go_quiet (fail); try go_wp2)
       go_ret
       exact ⟨by first | rfl | (simp; done) | (simp [*]; done), by repeat (first | exact Drawn0.refl _ | apply Drawn0.step)⟩
      rw [if_neg c6] at H
      exact absurd H (by simp)
     rw [if_neg c5] at H
     exact absurd H (by simp)
    rw [if_neg c4] at H
    have c4b0 : decide (x5_1 < (l0.length : Int)) = false := decide_eq_false c4
    clear c4
    obtain rfl := Option.some.inj H
    go_wp2
    repeat (go_quiet (fail); try go_wp2)
    go_ret
    exact ⟨by first | rfl | (simp; done) | (simp [*]; done), by repeat (first | exact Drawn0.refl _ | apply Drawn0.step)⟩
 rw [if_neg c3] at H
 have c3b0 : ((l0.length : Int) == (l1.length : Int)) = false := beq_eq_false_iff_ne.mpr c3
 have c3b1 : ((l0.length : Int) != (l1.length : Int)) = true := bne_iff_ne.mpr c3
 have c3b2 : (l0.length == l1.length) = false := by first | simpa using c3 | (simp at c3 ⊢; omega)
 obtain rfl := Option.some.inj H
 go_enter Tryd.func8, Tryd.ntmps8
 go_wp2
 repeat (go_quiet (fail); try go_wp2)
 go_ret
 exact ⟨by first | rfl | (simp; done) | (simp [*]; done), by repeat (first | exact Drawn0.refl _ | apply Drawn0.step)⟩


/-! ### laws_toTermS: function 24 -/
/-! ### laws_toTerm: function 11 -/
mutual
def laws_toTermS.l0 : Nat → List (S29) → List (S34) → Int → Option ((List (S34)))
 | 0, _, _, _ => none
 | k + 1, x0, x3, x4 => if x4 < (x0.length : Int) then (if 0 ≤ x4 then ((laws_toTerm.f k ((rd_T29 x0 x4).f0) ((rd_T29 x0 x4).f1) ((rd_T29 x0 x4).f2) ((rd_T29 x0 x4).f3)).bind fun bt182 => (if x4 < (x3.length : Int) then (laws_toTermS.l0 k x0 (x3.set (x4 : Int).toNat (⟨bt182.1, bt182.2.1, bt182.2.2.1, bt182.2.2.2⟩ : S34)) (wrap64 (x4 + 1))) else (none))) else (none)) else (some x3)
def laws_toTermS.f : Nat → List (S29) → Option ((List (S34)))
 | 0, _ => none
 | k + 1, l0 => if 0 ≤ (l0.length : Int) then (if ((l0.length : Int) : Int).toNat ≤ 4398046511104 then (laws_toTermS.l0 k l0 (List.replicate ((l0.length : Int) : Int).toNat z34) 0) else (none)) else (none)
def laws_toTerm.f : Nat → Int → Int → List Int → List (S29) → Option (Int × Int × List Int × (List (S34)))
 | 0, _, _, _, _ => none
 | k + 1, a0_0, a0_1, l0_2, l0_3 => (laws_toIntS.f k l0_2).bind fun t194 => ((laws_toTermS.f k l0_3).bind fun t197 => (some (a0_0, a0_1, t194, t197)))
end
set_option maxHeartbeats 8000000 in
set_option maxRecDepth 100000 in
theorem laws_toTermS.step (k : Nat) (ih : ∀ k_, k_ < k → (∀ (A0 : Option Addr) (c0 : Nat) (l0 : List (S29)) (r : List (S34)) (w : World) (hr0 : Kd.C k29 w A0 l0.length l0) (hc0 : l0.length ≤ c0) (h : laws_toTermS.f k_ l0 = some r), Calls Tryd.prog 24 #[.slice A0 l0.length c0] w fun e w' => ∃ v0_ : Value, e = .returned (v0_) ∧ Kd.R k34 34 w' w.heap.size (fun _ => True) v0_ r ∧ Below w.heap.size w w')) (ihm : ∀ k_, k_ < k → (∀ (a0_0 : Int) (a0_1 : Int) (A0_2 : Option Addr) (c0_2 : Nat) (l0_2 : List Int) (A0_3 : Option Addr) (c0_3 : Nat) (l0_3 : List (S29)) (r1 : Int) (r2 : Int) (r3 : List Int) (r4 : List (S34)) (w : World) (hr0_2 : Kd.C (Kd.int .i64) w A0_2 l0_2.length l0_2) (hc0_2 : l0_2.length ≤ c0_2) (hr0_3 : Kd.C k29 w A0_3 l0_3.length l0_3) (hc0_3 : l0_3.length ≤ c0_3) (h : laws_toTerm.f k_ a0_0 a0_1 l0_2 l0_3 = some (r1, r2, r3, r4)), Calls Tryd.prog 11 #[.agg #[.int .i64 a0_0, .int .i64 a0_1, .slice A0_2 l0_2.length c0_2, .slice A0_3 l0_3.length c0_3]] w fun e w' => ∃ v2_ v3_ : Value, e = .returned (.agg #[.int .i64 r1, .int .i64 r2, v2_, v3_]) ∧ Kd.R (Kd.int .i64) 3 w' w.heap.size (fun _ => True) v2_ r3 ∧ Kd.R k34 34 w' w.heap.size (fun k_ => some k_ ≠ (v2_ : Value).ownBlock) v3_ r4 ∧ Below w.heap.size w w')) : ∀ (A0 : Option Addr) (c0 : Nat) (l0 : List (S29)) (r : List (S34)) (w : World) (hr0 : Kd.C k29 w A0 l0.length l0) (hc0 : l0.length ≤ c0) (h : laws_toTermS.f k l0 = some r),
  Calls Tryd.prog 24 #[.slice A0 l0.length c0] w fun e w' => ∃ v0_ : Value, e = .returned (v0_) ∧ Kd.R k34 34 w' w.heap.size (fun _ => True) v0_ r ∧ Below w.heap.size w w' := by
 intro A0 c0 l0 r w hr0 hc0 h
 cases k with
 | zero => exact absurd h (by simp [laws_toTermS.f])
 | succ k =>
 simp only [laws_toTermS.f] at h
 have hu29 := Tryd.underlying29
 have hu34 := Tryd.underlying34
 have HR0 := sd_ hr0
 have HC0 := sd_ hc0
 clear hr0 hc0
 have HB := sd_ (Below.refl w.heap.size w)
 have H : (if 0 ≤ (l0.length : Int) then (if ((l0.length : Int) : Int).toNat ≤ 4398046511104 then (laws_toTermS.l0 k l0 (List.replicate ((l0.length : Int) : Int).toNat z34) 0) else (none)) else (none)) = some r := h
 clear h
 by_cases c2 : 0 ≤ (l0.length : Int)
 ·rw [if_pos c2] at H
  have c2b0 := eq_true c2
  have c2b1 : decide (0 ≤ (l0.length : Int)) = true := decide_eq_true c2
  clear c2
  by_cases c3 : ((l0.length : Int) : Int).toNat ≤ 4398046511104
  ·rw [if_pos c3] at H
   have c3b0 := eq_true c3
   have c3b1 : decide (((l0.length : Int) : Int).toNat ≤ 4398046511104) = true := decide_eq_true c3
   clear c3
   obtain ⟨y178, hy178⟩ : ∃ y_ : List (S34), y_ = (List.replicate ((l0.length : Int) : Int).toNat z34) := ⟨_, rfl⟩
   replace H : (laws_toTermS.l0 k l0 y178 0) = some r := by first | (rw [hy178]; with_reducible exact H) | (have H2_ := (Option.bind_some _ _).symm.trans H; rw [hy178]; with_reducible exact H2_) | (have H2_ := (Option.bind_some _ _).symm.trans H; with_reducible exact H2_) | with_reducible exact H | (rw [hy178]; exact H) | exact H
   have Ny178 := sd_ hy178
   clear hy178
   have H' := sd_ H
   clear H
   go_enter Tryd.func24, Tryd.ntmps24
   go_wp2_with (first | ((with_reducible refine gate_dst (N := 7) rfl ?_); refine Kd.R_make k34 _ 34 rfl (N := 7) rfl 32 _ _ rfl (l0.length : Int) rfl rfl Tryd.underlying32 (.agg #[(.int .i64 0), (.int .i64 0), (.slice none 0 0), (.slice none 0 0)]) 64 info34 rfl (by decide) (by omega) z34 (ok := fun _ => True) (okp := fun _ => True) (k34_mkM _ _ _ z34 (Kd.R_nil _ _ _ _ _) (Kd.R_nil _ _ _ _ _)) (fun _ hk => hk) trivial (dt_) (Nat.le_trans (Nat.mul_le_mul_right _ (dt_ : (l0.length : Int).toNat ≤ 4398046511104)) (by omega)) (Below.refl _ _) (Nat.le_refl _) ?_; intro v179 w4 ho5 hb hg_ hnew_; clear hg_ hnew_; (first | rw [← Ny178.out] at ho5 | (simp only [Int.reduceToNat] at ho5; rw [← Ny178.out] at ho5)); have HO180 := sd_ (Kd.R_lower ho5 (below_size (bw0_ HB.out))); replace HB := sd_ (below_step (bw0_ HB.out) hb); clear hb ho5))
   go_loopg [4] k (fun kq v4 w' => ∃ (x3_1 : List (S34)) (x4_1 : Int), v4 = .int .i64 x4_1 ∧ Aside0 (laws_toTermS.l0 kq l0 x3_1 x4_1 = some r) ∧ Aside0 (kq ≤ k) ∧ Aside0 (Kd.R k34 34 w' w.heap.size (fun _ => True) v179 x3_1) ∧ Aside0 (Below w.heap.size w w'))
   case atStart => exact ⟨(y178), (0), sm_, H', ⟨Nat.le_refl _⟩, ⟨by (with_reducible repeat (first | apply Kd.R_alloc | apply Kd.R_drewN | apply Kd.R_drew)); exact HO180.out⟩, ⟨bw0_ HB.out⟩⟩
   case round =>
    clear H'
    try clear c2
    try clear c2b0
    try clear c2b1
    try clear p2
    try clear c3
    try clear c3b0
    try clear c3b1
    obtain ⟨x3_1, x4_1, rfl, HA, HK1, HO_3, HB⟩ := hrel
    cases gk with
    | zero => exact absurd HA.out (by simp [laws_toTermS.l0])
    | succ k1 =>
     have H := HA.out
     clear HA
     simp only [laws_toTermS.l0] at H
     by_cases c6 : x4_1 < (l0.length : Int)
     ·rw [if_pos c6] at H
      have c6b0 : decide (x4_1 < (l0.length : Int)) = true := decide_eq_true c6
      clear c6
      by_cases c7 : 0 ≤ x4_1
      ·rw [if_pos c7] at H
       have c7b0 : decide (0 ≤ x4_1) = true := decide_eq_true c7
       clear c7
       replace H := Option.bind_eq_some_iff.mp H
       obtain ⟨⟨t182, t183, t184, t187⟩, A80, H⟩ := H
       try dsimp only at H
       have A8 := sd_ A80
       clear A80
       by_cases c9 : x4_1 < (x3_1.length : Int)
       ·rw [if_pos c9] at H
        have c9b0 : decide (x4_1 < (x3_1.length : Int)) = true := decide_eq_true c9
        clear c9
        obtain ⟨y190, hy190⟩ : ∃ y_ : List (S34), y_ = (x3_1.set (x4_1 : Int).toNat (⟨t182, t183, t184, t187⟩ : S34)) := ⟨_, rfl⟩
        replace H : (laws_toTermS.l0 k1 l0 y190 (wrap64 (x4_1 + 1))) = some r := by first | (rw [hy190]; with_reducible exact H) | (have H2_ := (Option.bind_some _ _).symm.trans H; rw [hy190]; with_reducible exact H2_) | (have H2_ := (Option.bind_some _ _).symm.trans H; with_reducible exact H2_) | with_reducible exact H | (rw [hy190]; exact H) | exact H
        have Ny190 := sd_ hy190
        clear hy190
        have H' := sd_ H
        clear H
        have p181 : 0 ≤ (x4_1 : Int) := dt_
        have q181 : x4_1 < (l0.length : Int) := dt_
        obtain ⟨ad181, A181_2, c181_2, A181_3, c181_3, e181, hx181_0, hx181_1, hx181_2, hx181_3, hl181_2, hi181_2, hl181_3, hi181_3⟩ := at_T29 HR0.out x4_1 p181 q181
        cases e181
        replace hx181_0 := (HB.out.cell (World.block_lt_of_cell? w _ hx181_0)).trans hx181_0
        replace hx181_1 := (HB.out.cell (World.block_lt_of_cell? w _ hx181_1)).trans hx181_1
        replace hx181_2 := (HB.out.cell (World.block_lt_of_cell? w _ hx181_2)).trans hx181_2
        replace hx181_3 := (HB.out.cell (World.block_lt_of_cell? w _ hx181_3)).trans hx181_3
        have HR181_2 := sd_ hi181_2
        have HC181_2 := sd_ hl181_2
        clear hi181_2 hl181_2
        have HR181_3 := sd_ hi181_3
        have HC181_3 := sd_ hl181_3
        clear hi181_3 hl181_3
        replace p181 := eq_true p181
        replace q181 := eq_true q181
        go_wp2_with (first | ((with_reducible refine gate_callee (f := 11) rfl ?_); refine goesL_ (some 20) rfl rfl Tryd.func11 (by kernel_rfl) rfl #[.agg #[.int .i64 ((rd_T29 l0 x4_1).f0), .int .i64 ((rd_T29 l0 x4_1).f1), .slice A181_2 ((rd_T29 l0 x4_1).f2).length c181_2, .slice A181_3 ((rd_T29 l0 x4_1).f3).length c181_3]] rfl la_ ?_; (with_reducible refine (ihm k1 (by have := HK1.out; omega) ((rd_T29 l0 x4_1).f0) ((rd_T29 l0 x4_1).f1) _ _ ((rd_T29 l0 x4_1).f2) _ _ ((rd_T29 l0 x4_1).f3) t182 t183 t184 t187 _ ?side1 ?side2 ?side3 ?side4 A8.out).mono ?_); (case side1 => exact kc_ HR181_2.out HB.out); (case side2 => exact HC181_2.out); (case side3 => exact kc_ HR181_3.out HB.out); (case side4 => exact HC181_3.out); rintro e w11 ⟨v185, v188, rfl, ho0, ho1, hb⟩; refine ⟨_, rfl, ?_⟩; have HO186 := sd_ (Kd.R_lower ho0 (below_size (bw0_ HB.out))); have HO189 := sd_ (Kd.R_lower (Kd.R_new' ho1 (Kd.R_lt (ro_ HO_3.out))) (below_size (bw0_ HB.out))); replace HO_3 := sd_ (Kd.R_mono (Kd.R_told (Kd.R_told (Kd.R_old (ro_ HO_3.out) hb) (Kd.R_base ho0)) (Kd.R_base ho1)) (fun _ h_ => h_.1)); replace HB := sd_ (below_step (bw0_ HB.out) hb); (try clear hb); (try clear ho0); (try clear ho1); have p10 : 0 ≤ (x4_1 : Int) := dt_; have q10 : (x4_1 : Int) < ((x3_1.length : Int) : Int) := dt_; obtain ⟨go10, co10, eo10, gb10, gl10, cl10, HG10⟩ := Kd.R_form HO_3.out (by omega); (first | cases eo10 | (injection eo10 with ea_ en_ ec_; (first | subst ea_ | (injection ea_ with ea_; subst ea_)); subst ec_; clear en_)); have GB10 := sd_ gb10; have GG10 := sd_ HG10; clear gb10 gl10 HG10; obtain ⟨ce10, hcl10, hM10, hcc10, hfr10⟩ := Kd.R_elem HO_3.out z34 (x4_1 : Int) p10 q10; obtain ⟨ve10_2, ve10_3, rfl, ge10_2, ge10_3⟩ := k34_openM hM10; have hx10_0 : w11.cell? ⟨go10, (x4_1 : Int).toNat * 4, none⟩ = some (.int .i64 ((rd_T34 x3_1 x4_1).f0)) := hcc10 0 _ rfl; have hx10_1 : w11.cell? ⟨go10, (x4_1 : Int).toNat * 4 + 1, none⟩ = some (.int .i64 ((rd_T34 x3_1 x4_1).f1)) := hcc10 1 _ rfl; have hx10_2 : w11.cell? ⟨go10, (x4_1 : Int).toNat * 4 + 2, none⟩ = some (ve10_2) := hcc10 2 _ rfl; have hx10_3 : w11.cell? ⟨go10, (x4_1 : Int).toNat * 4 + 3, none⟩ = some (ve10_3) := hcc10 3 _ rfl; have hf10_0 : w11.frozen? ⟨go10, (x4_1 : Int).toNat * 4, none⟩ = false := hfr10 0; have hf10_1 : w11.frozen? ⟨go10, (x4_1 : Int).toNat * 4 + 1, none⟩ = false := hfr10 1; have hf10_2 : w11.frozen? ⟨go10, (x4_1 : Int).toNat * 4 + 2, none⟩ = false := hfr10 2; have hf10_3 : w11.frozen? ⟨go10, (x4_1 : Int).toNat * 4 + 3, none⟩ = false := hfr10 3; clear hcl10 hcc10 hfr10 hM10; replace p10 := eq_true p10; replace q10 := eq_true q10; have n_ := sd_ (Kd.R_mono (ok' := (fun k_ => some k_ ≠ (v185 : Value).ownBlock ∧ some k_ ≠ (v188 : Value).ownBlock)) HO_3.out (fun k_ hk => ⟨hk.1.2, hk.2⟩)); clear HO_3; have HO_3 := n_; clear n_; have HX12 := sd_ (show Kd.R k34 34 w11 w.heap.size (fun _ => True) (.slice (some ⟨go10, 0, none⟩) x3_1.length co10) x3_1 from (by (with_reducible repeat (first | apply Kd.R_alloc | apply Kd.R_drewN | apply Kd.R_drew)); exact Kd.R_mono HO_3.out (fun _ hk => trivial))); obtain ⟨ce12, hcl12, hM12, hcc12, hfr12⟩ := Kd.R_elem HX12.out z34 (x4_1 : Int) (dt_) (by have h_ : (x4_1 : Int) < ((x3_1.length : Int) : Int) := dt_; first | exact h_ | (have e_ := (Kd.R_reads' HO_3.out).1; omega) | simpa using h_); obtain ⟨ve12_2, ve12_3, rfl, ge12_2, ge12_3⟩ := k34_openM hM12; have HP12 := Kd.R_seg HX12.out (x4_1 : Int) (dt_) (by have h_ : (x4_1 : Int) < ((x3_1.length : Int) : Int) := dt_; first | exact h_ | (have e_ := (Kd.R_reads' HO_3.out).1; omega) | simpa using h_) (seg := [.int .i64 t182, .int .i64 t183, v185, v188]) (j := 0) hcl12 hcc12 (show 4 ≤ 4 from by decide) (x' := (⟨t182, t183, t184, t187⟩ : S34)) (k34_mkM _ _ _ (⟨t182, t183, t184, t187⟩ : S34) (Kd.R_mono (Kd.R_apart' (HO186.out) (Kd.R_typed HO_3.out) (by decide)) (fun k_ hk => ⟨trivial, fun e_ => (hk.2) (by rw [e_]; rfl)⟩)) (Kd.R_mono (HO189.out) (fun k_ hk => ⟨trivial, fun e_ => (hk.2) (by rw [e_]; rfl)⟩))) (fun _ hk => hk); have hx12_0 := hcc12 0 _ rfl; (try simp only [show (k34).sz = 4 from rfl, Nat.mul_one, Nat.add_zero] at hx12_0); have hf12_0 := hfr12 0; (try simp only [show (k34).sz = 4 from rfl, Nat.mul_one, Nat.add_zero] at hf12_0); have hx12_1 := hcc12 1 _ rfl; (try simp only [show (k34).sz = 4 from rfl, Nat.mul_one, Nat.add_zero] at hx12_1); have hf12_1 := hfr12 1; (try simp only [show (k34).sz = 4 from rfl, Nat.mul_one, Nat.add_zero] at hf12_1); have hx12_2 := hcc12 2 _ rfl; (try simp only [show (k34).sz = 4 from rfl, Nat.mul_one, Nat.add_zero] at hx12_2); have hf12_2 := hfr12 2; (try simp only [show (k34).sz = 4 from rfl, Nat.mul_one, Nat.add_zero] at hf12_2); have hx12_3 := hcc12 3 _ rfl; (try simp only [show (k34).sz = 4 from rfl, Nat.mul_one, Nat.add_zero] at hx12_3); have hf12_3 := hfr12 3; (try simp only [show (k34).sz = 4 from rfl, Nat.mul_one, Nat.add_zero] at hf12_3); clear hcl12 hcc12 hfr12 hM12) | ((with_reducible refine gate_store (t := 34) (p := 21) rfl ?_); refine store_event (t := 34) (p := 21) (v := ?vo_w13) (w1 := ((((w11.setCell ⟨go10, (x4_1 : Int).toNat * 4, none⟩ (.int .i64 t182)).setCell ⟨go10, (x4_1 : Int).toNat * 4 + 1, none⟩ (.int .i64 t183)).setCell ⟨go10, (x4_1 : Int).toNat * 4 + 2, none⟩ (v185)).setCell ⟨go10, (x4_1 : Int).toNat * 4 + 3, none⟩ (v188))) ?hg ?ho ?hn ?hr ?_; (case ho => rfl); (case hg => rfl); (case hn => rfl); (case hr => first | (go_simp; done) | (go_simp; rfl) | (obtain ⟨Az0_, cz0_, ez0_⟩ := Kd.R_slice HO186.out; subst ez0_; obtain ⟨Az1_, cz1_, ez1_⟩ := Kd.R_slice HO189.out; subst ez1_; go_simp; done) | (obtain ⟨Az0_, cz0_, ez0_⟩ := Kd.R_slice HO186.out; subst ez0_; obtain ⟨Az1_, cz1_, ez1_⟩ := Kd.R_slice HO189.out; subst ez1_; go_simp; rfl)); intro w13 hw; have hg : w11.grownBy w13 (some go10) := (by rw [hw]; exact HP12.2); have hp_ : Kd.R k34 34 w13 w.heap.size (fun _ => True) (.slice (some ⟨go10, 0, none⟩) x3_1.length co10) y190 := (by rw [hw, Ny190.out]; exact HP12.1); clear HP12; have n0_ := sd_ (hp_); have n1_ := sd_ ((by rw [hw]; exact below_set (below_set (below_set (below_set (HB.out) GB10.out) GB10.out) GB10.out) GB10.out : Below w.heap.size w w13)); clear HO_3; clear HB; clear HO186; clear HO189; have HO_3 := n0_; have HB := n1_; clear n0_ n1_; clear hg hw hp_))
        go_roundg k1
        case measure => have := HK1.out; omega
        case rel => exact ⟨(y190), (wrap64 (x4_1 + 1)), sm_, H', ⟨by have := HK1.out; omega⟩, ⟨by (with_reducible repeat (first | apply Kd.R_alloc | apply Kd.R_drewN | apply Kd.R_drew)); exact HO_3.out⟩, ⟨bw0_ HB.out⟩⟩
       rw [if_neg c9] at H
       exact absurd H (by simp)
      rw [if_neg c7] at H
      exact absurd H (by simp)
     rw [if_neg c6] at H
     have c6b0 : decide (x4_1 < (l0.length : Int)) = false := decide_eq_false c6
     clear c6
     obtain rfl := Option.some.inj H
     go_wp2
     go_ret
     exact ⟨_, an_, by (with_reducible repeat (first | apply Kd.R_alloc | apply Kd.R_drewN | apply Kd.R_drew)); exact HO_3.out, bw0_ HB.out⟩
  rw [if_neg c3] at H
  exact absurd H (by simp)
 rw [if_neg c2] at H
 exact absurd H (by simp)


set_option maxHeartbeats 8000000 in
set_option maxRecDepth 100000 in
theorem laws_toTerm.step (k : Nat) (ih : ∀ k_, k_ < k → (∀ (a0_0 : Int) (a0_1 : Int) (A0_2 : Option Addr) (c0_2 : Nat) (l0_2 : List Int) (A0_3 : Option Addr) (c0_3 : Nat) (l0_3 : List (S29)) (r1 : Int) (r2 : Int) (r3 : List Int) (r4 : List (S34)) (w : World) (hr0_2 : Kd.C (Kd.int .i64) w A0_2 l0_2.length l0_2) (hc0_2 : l0_2.length ≤ c0_2) (hr0_3 : Kd.C k29 w A0_3 l0_3.length l0_3) (hc0_3 : l0_3.length ≤ c0_3) (h : laws_toTerm.f k_ a0_0 a0_1 l0_2 l0_3 = some (r1, r2, r3, r4)), Calls Tryd.prog 11 #[.agg #[.int .i64 a0_0, .int .i64 a0_1, .slice A0_2 l0_2.length c0_2, .slice A0_3 l0_3.length c0_3]] w fun e w' => ∃ v2_ v3_ : Value, e = .returned (.agg #[.int .i64 r1, .int .i64 r2, v2_, v3_]) ∧ Kd.R (Kd.int .i64) 3 w' w.heap.size (fun _ => True) v2_ r3 ∧ Kd.R k34 34 w' w.heap.size (fun k_ => some k_ ≠ (v2_ : Value).ownBlock) v3_ r4 ∧ Below w.heap.size w w')) (ihm : ∀ k_, k_ < k → (∀ (A0 : Option Addr) (c0 : Nat) (l0 : List (S29)) (r : List (S34)) (w : World) (hr0 : Kd.C k29 w A0 l0.length l0) (hc0 : l0.length ≤ c0) (h : laws_toTermS.f k_ l0 = some r), Calls Tryd.prog 24 #[.slice A0 l0.length c0] w fun e w' => ∃ v0_ : Value, e = .returned (v0_) ∧ Kd.R k34 34 w' w.heap.size (fun _ => True) v0_ r ∧ Below w.heap.size w w')) : ∀ (a0_0 : Int) (a0_1 : Int) (A0_2 : Option Addr) (c0_2 : Nat) (l0_2 : List Int) (A0_3 : Option Addr) (c0_3 : Nat) (l0_3 : List (S29)) (r1 : Int) (r2 : Int) (r3 : List Int) (r4 : List (S34)) (w : World) (hr0_2 : Kd.C (Kd.int .i64) w A0_2 l0_2.length l0_2) (hc0_2 : l0_2.length ≤ c0_2) (hr0_3 : Kd.C k29 w A0_3 l0_3.length l0_3) (hc0_3 : l0_3.length ≤ c0_3) (h : laws_toTerm.f k a0_0 a0_1 l0_2 l0_3 = some (r1, r2, r3, r4)),
  Calls Tryd.prog 11 #[.agg #[.int .i64 a0_0, .int .i64 a0_1, .slice A0_2 l0_2.length c0_2, .slice A0_3 l0_3.length c0_3]] w fun e w' => ∃ v2_ v3_ : Value, e = .returned (.agg #[.int .i64 r1, .int .i64 r2, v2_, v3_]) ∧ Kd.R (Kd.int .i64) 3 w' w.heap.size (fun _ => True) v2_ r3 ∧ Kd.R k34 34 w' w.heap.size (fun k_ => some k_ ≠ (v2_ : Value).ownBlock) v3_ r4 ∧ Below w.heap.size w w' := by
 intro a0_0 a0_1 A0_2 c0_2 l0_2 A0_3 c0_3 l0_3 r1 r2 r3 r4 w hr0_2 hc0_2 hr0_3 hc0_3 h
 cases k with
 | zero => exact absurd h (by simp [laws_toTerm.f])
 | succ k =>
 simp only [laws_toTerm.f] at h
 have hu29 := Tryd.underlying29
 have hu34 := Tryd.underlying34
 have HR0_2 := sd_ hr0_2
 have HC0_2 := sd_ hc0_2
 clear hr0_2 hc0_2
 have HR0_3 := sd_ hr0_3
 have HC0_3 := sd_ hc0_3
 clear hr0_3 hc0_3
 have HB := sd_ (Below.refl w.heap.size w)
 have H : ((laws_toIntS.f k l0_2).bind fun t194 => ((laws_toTermS.f k l0_3).bind fun t197 => (some (a0_0, a0_1, t194, t197)))) = some (r1, r2, r3, r4) := h
 clear h
 replace H := Option.bind_eq_some_iff.mp H
 obtain ⟨t194, A20, H⟩ := H
 try dsimp only at H
 have A2 := sd_ A20
 clear A20
 replace H := Option.bind_eq_some_iff.mp H
 obtain ⟨t197, A30, H⟩ := H
 try dsimp only at H
 have A3 := sd_ A30
 clear A30
 simp only [Option.some.injEq, Prod.mk.injEq] at H
 obtain ⟨rfl, rfl, rfl, rfl⟩ := H
 go_enter Tryd.func11, Tryd.ntmps11
 go_wp2_with (first | ((with_reducible refine gate_dst (N := 1) rfl ?_); refine bx_ (N := 1) (cs := #[.int .i64 a0_0, .int .i64 a0_1, .slice A0_2 l0_2.length c0_2, .slice A0_3 l0_3.length c0_3]) (t := 29) ?_; intro gb191 hg w4 hbox hb; have BK191 := sd_ (hbox); have GW191 := sd_ (gs_ hg (bw0_ HB.out)); have GE191 := sd_ (gs_ hg (bw0_ HB.out)); replace HB := sd_ (below_step (bw0_ HB.out) hb); clear hb hbox hg) | ((with_reducible refine gate_dst (N := 2) rfl ?_); refine bx_ (N := 2) (cs := #[.int .i64 0, .int .i64 0, .slice none 0 0, .slice none 0 0]) (t := 34) ?_; intro gb192 hg w5 hbox hb; have BK192 := sd_ (hbox); have GW192 := sd_ (gs_ hg (bw1_ HB.out GE191.out)); have GE192 := sd_ (gs_ hg (bw1_ HB.out GE191.out)); replace HB := sd_ (below_step (bw1_ HB.out GE191.out) hb); have NB191_192 := sd_ (nl_ hg (bl_ BK191.out)); have NB192_191 := sd_ (ng_ hg (bl_ BK191.out)); replace BK191 := sd_ (bb_ BK191.out hb); clear hb hbox hg) | ((with_reducible refine gate_dst (N := 3) rfl ?_); refine bx_ (N := 3) (cs := #[.int .i64 0, .int .i64 0, .slice none 0 0, .slice none 0 0]) (t := 34) ?_; intro gb193 hg w6 hbox hb; have BK193 := sd_ (hbox); have GW193 := sd_ (gs_ hg (bw2_ HB.out GE191.out GE192.out)); have GE193 := sd_ (gs_ hg (bw2_ HB.out GE191.out GE192.out)); replace HB := sd_ (below_step (bw2_ HB.out GE191.out GE192.out) hb); have NB191_193 := sd_ (nl_ hg (bl_ BK191.out)); have NB193_191 := sd_ (ng_ hg (bl_ BK191.out)); replace BK191 := sd_ (bb_ BK191.out hb); have NB192_193 := sd_ (nl_ hg (bl_ BK192.out)); have NB193_192 := sd_ (ng_ hg (bl_ BK192.out)); replace BK192 := sd_ (bb_ BK192.out hb); clear hb hbox hg; have hnb7 := NB191_192.out; have hnc7 := NB192_191.out; have hnb8 := NB191_193.out; have hnc8 := NB193_191.out; obtain ⟨hcz9_0, hcz9_1, hcz9_2, hcz9_3, hfz9_0, hfz9_1, hfz9_2, hfz9_3⟩ := bf4_ BK191.out; have hnb10 := NB193_192.out; have hnc10 := NB192_193.out; obtain ⟨hcz11_0, hcz11_1, hcz11_2, hcz11_3, hfz11_0, hfz11_1, hfz11_2, hfz11_3⟩ := bf4_ BK193.out) | ((with_reducible refine gate_callee (f := 6) rfl ?_); refine goesL_ (some 12) rfl rfl Tryd.func6 (by kernel_rfl) rfl #[.slice A0_2 l0_2.length c0_2] rfl la_ ?_; (with_reducible refine (laws_toIntS.calls k _ _ l0_2 t194 _ ?side1 ?side2 A2.out).mono ?_); (case side1 => exact Kd.C_below HR0_2.out (bw3_ HB.out GE191.out GE192.out GE193.out)); (case side2 => exact HC0_2.out); rintro e w12 ⟨v195, rfl, ho0, hb⟩; refine ⟨_, rfl, ?_⟩; have HO196 := sd_ (Kd.R_lower ho0 (below_size (bw3_ HB.out GE191.out GE192.out GE193.out))); replace BK191 := sd_ (blk_below (g := gb191) (o := .cells #[.int .i64 a0_0, .int .i64 a0_1, .slice A0_2 l0_2.length c0_2, .slice A0_3 l0_3.length c0_3] 29 (0, 0)) (by (with_reducible repeat (first | refine blk_drewN ?_ _ | refine blk_drew ?_ | refine blk_alloc ?_ _)); refine blk_far ?_ NB191_193.out _; (with_reducible repeat (first | refine blk_drewN ?_ _ | refine blk_drew ?_ | refine blk_alloc ?_ _)); refine blk_far ?_ NB191_193.out _; (with_reducible repeat (first | refine blk_drewN ?_ _ | refine blk_drew ?_ | refine blk_alloc ?_ _)); exact BK191.out) hb); replace BK192 := sd_ (blk_below (g := gb192) (o := .cells #[.int .i64 0, .int .i64 0, .slice none 0 0, .slice none 0 0] 34 (0, 0)) (by (with_reducible repeat (first | refine blk_drewN ?_ _ | refine blk_drew ?_ | refine blk_alloc ?_ _)); refine blk_far ?_ NB192_193.out _; (with_reducible repeat (first | refine blk_drewN ?_ _ | refine blk_drew ?_ | refine blk_alloc ?_ _)); refine blk_far ?_ NB192_193.out _; (with_reducible repeat (first | refine blk_drewN ?_ _ | refine blk_drew ?_ | refine blk_alloc ?_ _)); exact BK192.out) hb); replace BK193 := sd_ (blk_below (g := gb193) (o := .cells #[.int .i64 a0_0, .int .i64 a0_1, .slice none 0 0, .slice none 0 0] 34 (0, 0)) (by (with_reducible repeat (first | refine blk_drewN ?_ _ | refine blk_drew ?_ | refine blk_alloc ?_ _)); refine blk_put (cs := #[.int .i64 a0_0, .int .i64 0, .slice none 0 0, .slice none 0 0]) ?_ 1 _ rfl; (with_reducible repeat (first | refine blk_drewN ?_ _ | refine blk_drew ?_ | refine blk_alloc ?_ _)); refine blk_put (cs := #[.int .i64 0, .int .i64 0, .slice none 0 0, .slice none 0 0]) ?_ 0 _ rfl; exact bz_ BK193.out) hb); replace HB := sd_ (below_step (bw3_ HB.out GE191.out GE192.out GE193.out) hb); (try clear hb); (try clear ho0); obtain ⟨Ao13, co13, eo13⟩ := Kd.R_slice HO196.out; subst eo13; obtain ⟨hcz14_0, hcz14_1, hcz14_2, hcz14_3, hfz14_0, hfz14_1, hfz14_2, hfz14_3⟩ := bf4_ BK193.out; obtain ⟨hcz15_0, hcz15_1, hcz15_2, hcz15_3, hfz15_0, hfz15_1, hfz15_2, hfz15_3⟩ := bf4_ BK191.out) | ((with_reducible refine gate_callee (f := 24) rfl ?_); refine goesL_ (some 16) rfl rfl Tryd.func24 (by kernel_rfl) rfl #[.slice A0_3 l0_3.length c0_3] rfl la_ ?_; (with_reducible refine (ihm k (by omega) _ _ l0_3 t197 _ ?side1 ?side2 A3.out).mono ?_); (case side1 => exact Kd.C_below HR0_3.out (bw3_ HB.out GE191.out GE192.out GE193.out)); (case side2 => exact HC0_3.out); rintro e w16 ⟨v198, rfl, ho0, hb⟩; refine ⟨_, rfl, ?_⟩; have HO199 := sd_ (Kd.R_lower (Kd.R_newB (Kd.R_newB (Kd.R_new' ho0 (Kd.R_lt (by (with_reducible repeat (first | apply Kd.R_alloc | apply Kd.R_drewN | apply Kd.R_drew)); exact (Kd.R_mono (Kd.R_far (p := ⟨gb193, 2, none⟩) (Kd.R_types HO196.out BK193.out (by decide)) (fun _ hk => hk.2) (.slice Ao13 t194.length co13)) (fun _ h_ => h_.1))))) (g := gb192) (o := .cells #[.int .i64 0, .int .i64 0, .slice none 0 0, .slice none 0 0] 34 (0, 0)) (by (with_reducible repeat (first | refine blk_drewN ?_ _ | refine blk_drew ?_ | refine blk_alloc ?_ _)); refine blk_far ?_ NB192_193.out _; (with_reducible repeat (first | refine blk_drewN ?_ _ | refine blk_drew ?_ | refine blk_alloc ?_ _)); exact BK192.out)) (g := gb193) (o := .cells #[.int .i64 a0_0, .int .i64 a0_1, .slice Ao13 t194.length co13, .slice none 0 0] 34 (0, 0)) (by (with_reducible repeat (first | refine blk_drewN ?_ _ | refine blk_drew ?_ | refine blk_alloc ?_ _)); refine blk_put (cs := #[.int .i64 a0_0, .int .i64 a0_1, .slice none 0 0, .slice none 0 0]) ?_ 2 _ rfl; exact bz_ BK193.out)) (below_size (bw3_ HB.out GE191.out GE192.out GE193.out))); replace HO196 := sd_ (Kd.R_below (by (with_reducible repeat (first | apply Kd.R_alloc | apply Kd.R_drewN | apply Kd.R_drew)); exact (Kd.R_mono (Kd.R_far (p := ⟨gb193, 2, none⟩) (Kd.R_types HO196.out BK193.out (by decide)) (fun _ hk => hk.2) (.slice Ao13 t194.length co13)) (fun _ h_ => h_.1))) hb); replace BK191 := sd_ (blk_below (g := gb191) (o := .cells #[.int .i64 a0_0, .int .i64 a0_1, .slice A0_2 l0_2.length c0_2, .slice A0_3 l0_3.length c0_3] 29 (0, 0)) (by (with_reducible repeat (first | refine blk_drewN ?_ _ | refine blk_drew ?_ | refine blk_alloc ?_ _)); refine blk_far ?_ NB191_193.out _; (with_reducible repeat (first | refine blk_drewN ?_ _ | refine blk_drew ?_ | refine blk_alloc ?_ _)); exact BK191.out) hb); replace BK192 := sd_ (blk_below (g := gb192) (o := .cells #[.int .i64 0, .int .i64 0, .slice none 0 0, .slice none 0 0] 34 (0, 0)) (by (with_reducible repeat (first | refine blk_drewN ?_ _ | refine blk_drew ?_ | refine blk_alloc ?_ _)); refine blk_far ?_ NB192_193.out _; (with_reducible repeat (first | refine blk_drewN ?_ _ | refine blk_drew ?_ | refine blk_alloc ?_ _)); exact BK192.out) hb); replace BK193 := sd_ (blk_below (g := gb193) (o := .cells #[.int .i64 a0_0, .int .i64 a0_1, .slice Ao13 t194.length co13, .slice none 0 0] 34 (0, 0)) (by (with_reducible repeat (first | refine blk_drewN ?_ _ | refine blk_drew ?_ | refine blk_alloc ?_ _)); refine blk_put (cs := #[.int .i64 a0_0, .int .i64 a0_1, .slice none 0 0, .slice none 0 0]) ?_ 2 _ rfl; exact bz_ BK193.out) hb); replace HB := sd_ (below_step (bw3_ HB.out GE191.out GE192.out GE193.out) hb); (try clear hb); (try clear ho0); obtain ⟨Ao17, co17, eo17⟩ := Kd.R_slice HO199.out; subst eo17; obtain ⟨hcz18_0, hcz18_1, hcz18_2, hcz18_3, hfz18_0, hfz18_1, hfz18_2, hfz18_3⟩ := bf4_ BK193.out; obtain ⟨hcz19_0, hcz19_1, hcz19_2, hcz19_3, hfz19_0, hfz19_1, hfz19_2, hfz19_3⟩ := bf4_ BK192.out))
 refine bodyPost_ret (results_cell_row rfl _ _ gb192 34 #[.int .i64 a0_0, .int .i64 a0_1, .slice Ao13 t194.length co13, .slice Ao17 t197.length co17] (0, 0) _ rfl (by (with_reducible repeat (first | refine blk_drewN ?_ _ | refine blk_drew ?_ | refine blk_alloc ?_ _)); refine blk_put (cs := #[.int .i64 a0_0, .int .i64 a0_1, .slice Ao13 t194.length co13, .slice none 0 0]) ?_ 3 _ rfl; (with_reducible repeat (first | refine blk_drewN ?_ _ | refine blk_drew ?_ | refine blk_alloc ?_ _)); refine blk_put (cs := #[.int .i64 a0_0, .int .i64 a0_1, .slice none 0 0, .slice none 0 0]) ?_ 2 _ rfl; (with_reducible repeat (first | refine blk_drewN ?_ _ | refine blk_drew ?_ | refine blk_alloc ?_ _)); refine blk_put (cs := #[.int .i64 a0_0, .int .i64 0, .slice none 0 0, .slice none 0 0]) ?_ 1 _ rfl; (with_reducible repeat (first | refine blk_drewN ?_ _ | refine blk_drew ?_ | refine blk_alloc ?_ _)); refine blk_put (cs := #[.int .i64 0, .int .i64 0, .slice none 0 0, .slice none 0 0]) ?_ 0 _ rfl; (with_reducible repeat (first | refine blk_drewN ?_ _ | refine blk_drew ?_ | refine blk_alloc ?_ _)); refine blk_far ?_ NB192_193.out _; (with_reducible repeat (first | refine blk_drewN ?_ _ | refine blk_drew ?_ | refine blk_alloc ?_ _)); exact BK192.out) Tryd.underlying34 rfl (by kernel_rfl)) rfl ?_
 exact ⟨_, _, an_, by (with_reducible repeat (first | apply Kd.R_alloc | apply Kd.R_drewN | apply Kd.R_drew)); exact Kd.R_mono (Kd.R_far (p := ⟨gb192, 3, none⟩) (Kd.R_far (p := ⟨gb192, 2, none⟩) (Kd.R_far (p := ⟨gb192, 1, none⟩) (Kd.R_far (p := ⟨gb192, 0, none⟩) (Kd.R_far (p := ⟨gb193, 3, none⟩) (Kd.R_types (Kd.R_types HO196.out BK193.out (by decide)) BK192.out (by decide)) (fun _ hk => hk.1.2) (.slice Ao17 t197.length co17)) (fun _ hk => hk.2) (.int .i64 a0_0)) (fun _ hk => hk.2) (.int .i64 a0_1)) (fun _ hk => hk.2) (.slice Ao13 t194.length co13)) (fun _ hk => hk.2) (.slice Ao17 t197.length co17)) (fun _ hk => trivial), by (with_reducible repeat (first | apply Kd.R_alloc | apply Kd.R_drewN | apply Kd.R_drew)); exact Kd.R_mono (Kd.R_far (p := ⟨gb192, 3, none⟩) (Kd.R_far (p := ⟨gb192, 2, none⟩) (Kd.R_far (p := ⟨gb192, 1, none⟩) (Kd.R_far (p := ⟨gb192, 0, none⟩) (Kd.R_far (p := ⟨gb193, 3, none⟩) (Kd.R_mono (Kd.R_mono HO199.out (fun k_ hk => (⟨hk, hk.2⟩ : _ ∧ k_ ≠ gb193))) (fun k_ hk => (⟨hk, hk.1.1.2⟩ : _ ∧ k_ ≠ gb192))) (fun _ hk => hk.1.2) (.slice Ao17 t197.length co17)) (fun _ hk => hk.2) (.int .i64 a0_0)) (fun _ hk => hk.2) (.int .i64 a0_1)) (fun _ hk => hk.2) (.slice Ao13 t194.length co13)) (fun _ hk => hk.2) (.slice Ao17 t197.length co17)) (fun _ hk => hk.1.1.1.1.2), bw3_ HB.out GE191.out GE192.out GE193.out⟩

theorem laws_toTerm.both (k : Nat) : (∀ (a0_0 : Int) (a0_1 : Int) (A0_2 : Option Addr) (c0_2 : Nat) (l0_2 : List Int) (A0_3 : Option Addr) (c0_3 : Nat) (l0_3 : List (S29)) (r1 : Int) (r2 : Int) (r3 : List Int) (r4 : List (S34)) (w : World) (hr0_2 : Kd.C (Kd.int .i64) w A0_2 l0_2.length l0_2) (hc0_2 : l0_2.length ≤ c0_2) (hr0_3 : Kd.C k29 w A0_3 l0_3.length l0_3) (hc0_3 : l0_3.length ≤ c0_3) (h : laws_toTerm.f k a0_0 a0_1 l0_2 l0_3 = some (r1, r2, r3, r4)), Calls Tryd.prog 11 #[.agg #[.int .i64 a0_0, .int .i64 a0_1, .slice A0_2 l0_2.length c0_2, .slice A0_3 l0_3.length c0_3]] w fun e w' => ∃ v2_ v3_ : Value, e = .returned (.agg #[.int .i64 r1, .int .i64 r2, v2_, v3_]) ∧ Kd.R (Kd.int .i64) 3 w' w.heap.size (fun _ => True) v2_ r3 ∧ Kd.R k34 34 w' w.heap.size (fun k_ => some k_ ≠ (v2_ : Value).ownBlock) v3_ r4 ∧ Below w.heap.size w w') ∧ (∀ (A0 : Option Addr) (c0 : Nat) (l0 : List (S29)) (r : List (S34)) (w : World) (hr0 : Kd.C k29 w A0 l0.length l0) (hc0 : l0.length ≤ c0) (h : laws_toTermS.f k l0 = some r), Calls Tryd.prog 24 #[.slice A0 l0.length c0] w fun e w' => ∃ v0_ : Value, e = .returned (v0_) ∧ Kd.R k34 34 w' w.heap.size (fun _ => True) v0_ r ∧ Below w.heap.size w w') := by
 induction k using Nat.strongRecOn with
 | _ k ih => exact ⟨laws_toTerm.step k (fun j hj => (ih j hj).1) (fun j hj => (ih j hj).2), laws_toTermS.step k (fun j hj => (ih j hj).2) (fun j hj => (ih j hj).1)⟩
theorem laws_toTerm.calls (k : Nat) : ∀ (a0_0 : Int) (a0_1 : Int) (A0_2 : Option Addr) (c0_2 : Nat) (l0_2 : List Int) (A0_3 : Option Addr) (c0_3 : Nat) (l0_3 : List (S29)) (r1 : Int) (r2 : Int) (r3 : List Int) (r4 : List (S34)) (w : World) (hr0_2 : Kd.C (Kd.int .i64) w A0_2 l0_2.length l0_2) (hc0_2 : l0_2.length ≤ c0_2) (hr0_3 : Kd.C k29 w A0_3 l0_3.length l0_3) (hc0_3 : l0_3.length ≤ c0_3) (h : laws_toTerm.f k a0_0 a0_1 l0_2 l0_3 = some (r1, r2, r3, r4)), Calls Tryd.prog 11 #[.agg #[.int .i64 a0_0, .int .i64 a0_1, .slice A0_2 l0_2.length c0_2, .slice A0_3 l0_3.length c0_3]] w fun e w' => ∃ v2_ v3_ : Value, e = .returned (.agg #[.int .i64 r1, .int .i64 r2, v2_, v3_]) ∧ Kd.R (Kd.int .i64) 3 w' w.heap.size (fun _ => True) v2_ r3 ∧ Kd.R k34 34 w' w.heap.size (fun k_ => some k_ ≠ (v2_ : Value).ownBlock) v3_ r4 ∧ Below w.heap.size w w' := (laws_toTerm.both k).1
theorem laws_toTermS.calls (k : Nat) : ∀ (A0 : Option Addr) (c0 : Nat) (l0 : List (S29)) (r : List (S34)) (w : World) (hr0 : Kd.C k29 w A0 l0.length l0) (hc0 : l0.length ≤ c0) (h : laws_toTermS.f k l0 = some r), Calls Tryd.prog 24 #[.slice A0 l0.length c0] w fun e w' => ∃ v0_ : Value, e = .returned (v0_) ∧ Kd.R k34 34 w' w.heap.size (fun _ => True) v0_ r ∧ Below w.heap.size w w' := (laws_toTerm.both k).2

/-! ### spec_l2Grade: function 17 -/
def spec_l2Grade.f (a0 : Int) : Option (Int) := if a0 ≥ 35 then (some (-1)) else (if a0 ≥ 19 then (some (wrap64 (a0 - 19))) else (some (wrap64 (a0 - 3))))
set_option maxHeartbeats 8000000 in
set_option maxRecDepth 100000 in
theorem spec_l2Grade.calls (a0 : Int) (r : Int) (w : World) (h : spec_l2Grade.f a0 = some r) :
  Calls Tryd.prog 17 #[.int .i64 a0] w fun e w' => e = .returned (.int .i64 r) ∧ Drawn0 w w' := by
 have H : (if a0 ≥ 35 then (some (-1)) else (if a0 ≥ 19 then (some (wrap64 (a0 - 19))) else (some (wrap64 (a0 - 3))))) = some r := h
 clear h
 by_cases c2 : a0 ≥ 35
 ·rw [if_pos c2] at H
  have c2b0 : decide (35 ≤ a0) = true := decide_eq_true c2
  clear c2
  obtain rfl := Option.some.inj H
  go_enter Tryd.func17, Tryd.ntmps17
  go_wp2
  go_ret
  exact ⟨by first | rfl | (simp; done) | (simp [*]; done), by repeat (first | exact Drawn0.refl _ | apply Drawn0.step)⟩
 rw [if_neg c2] at H
 have c2b0 : decide (35 ≤ a0) = false := decide_eq_false c2
 clear c2
 by_cases c3 : a0 ≥ 19
 ·rw [if_pos c3] at H
  have c3b0 : decide (19 ≤ a0) = true := decide_eq_true c3
  clear c3
  obtain rfl := Option.some.inj H
  go_enter Tryd.func17, Tryd.ntmps17
  go_wp2
  go_ret
  exact ⟨by first | rfl | (simp; done) | (simp [*]; done), by repeat (first | exact Drawn0.refl _ | apply Drawn0.step)⟩
 rw [if_neg c3] at H
 have c3b0 : decide (19 ≤ a0) = false := decide_eq_false c3
 clear c3
 obtain rfl := Option.some.inj H
 go_enter Tryd.func17, Tryd.ntmps17
 go_wp2
 go_ret
 exact ⟨by first | rfl | (simp; done) | (simp [*]; done), by repeat (first | exact Drawn0.refl _ | apply Drawn0.step)⟩


/-! ### laws_szIntS: function 20 -/
def laws_szIntS.f (l0 : List Int) (a1 : Int) : Option (Int) := if (wrap64 (a1 - (l0.length : Int))) < 0 then (some (-1)) else (some (wrap64 (a1 - (l0.length : Int))))
set_option maxHeartbeats 8000000 in
set_option maxRecDepth 100000 in
theorem laws_szIntS.calls (A0 : Option Addr) (c0 : Nat) (l0 : List Int) (a1 : Int) (r : Int) (w : World) (hr0 : Kd.C (Kd.int .i64) w A0 l0.length l0) (hc0 : l0.length ≤ c0) (h : laws_szIntS.f l0 a1 = some r) :
  Calls Tryd.prog 20 #[.slice A0 l0.length c0, .int .i64 a1] w fun e w' => e = .returned (.int .i64 r) ∧ Drawn0 w w' := by
 have HR0 := sd_ hr0
 have HC0 := sd_ hc0
 clear hr0 hc0
 have H : (if (wrap64 (a1 - (l0.length : Int))) < 0 then (some (-1)) else (some (wrap64 (a1 - (l0.length : Int))))) = some r := h
 clear h
 by_cases c3 : (wrap64 (a1 - (l0.length : Int))) < 0
 ·rw [if_pos c3] at H
  have c3b0 : decide ((wrap64 (a1 - (l0.length : Int))) < 0) = true := decide_eq_true c3
  clear c3
  obtain rfl := Option.some.inj H
  go_enter Tryd.func20, Tryd.ntmps20
  go_wp2
  go_ret
  exact ⟨by first | rfl | (simp; done) | (simp [*]; done), by repeat (first | exact Drawn0.refl _ | apply Drawn0.step)⟩
 rw [if_neg c3] at H
 have c3b0 : decide ((wrap64 (a1 - (l0.length : Int))) < 0) = false := decide_eq_false c3
 clear c3
 obtain rfl := Option.some.inj H
 go_enter Tryd.func20, Tryd.ntmps20
 go_wp2
 go_ret
 exact ⟨by first | rfl | (simp; done) | (simp [*]; done), by repeat (first | exact Drawn0.refl _ | apply Drawn0.step)⟩


/-! ### laws_szTermS: function 21 -/
/-! ### laws_szTerm: function 9 -/
mutual
def laws_szTermS.l0 : Nat → List (S29) → Int → Int → Option (Int)
 | 0, _, _, _ => none
 | k + 1, x0, x1, x5 => if x5 < (x0.length : Int) then (if 0 ≤ x5 then ((laws_szTerm.f k ((rd_T29 x0 x5).f0) ((rd_T29 x0 x5).f1) ((rd_T29 x0 x5).f2) ((rd_T29 x0 x5).f3) x1).bind fun t102 => (if t102 < 0 then (some (-1)) else (laws_szTermS.l0 k x0 t102 (wrap64 (x5 + 1))))) else (none)) else (some x1)
def laws_szTermS.f : Nat → List (S29) → Int → Option (Int)
 | 0, _, _ => none
 | k + 1, l0, a1 => if (wrap64 (a1 - (l0.length : Int))) < 0 then (some (-1)) else (laws_szTermS.l0 k l0 (wrap64 (a1 - (l0.length : Int))) 0)
def laws_szTerm.f : Nat → Int → Int → List Int → List (S29) → Int → Option (Int)
 | 0, _, _, _, _, _ => none
 | k + 1, a0_0, a0_1, l0_2, l0_3, a1 => (laws_szIntS.f l0_2 a1).bind fun t104 => (if t104 < 0 then (some (-1)) else ((laws_szTermS.f k l0_3 t104).bind fun t105 => (if t105 < 0 then (some (-1)) else (some t105))))
end
set_option maxHeartbeats 8000000 in
set_option maxRecDepth 100000 in
theorem laws_szTermS.step (k : Nat) (ih : ∀ k_, k_ < k → (∀ (A0 : Option Addr) (c0 : Nat) (l0 : List (S29)) (a1 : Int) (r : Int) (w : World) (hr0 : Kd.C k29 w A0 l0.length l0) (hc0 : l0.length ≤ c0) (h : laws_szTermS.f k_ l0 a1 = some r), Calls Tryd.prog 21 #[.slice A0 l0.length c0, .int .i64 a1] w fun e w' => e = .returned (.int .i64 r) ∧ Below w.heap.size w w')) (ihm : ∀ k_, k_ < k → (∀ (a0_0 : Int) (a0_1 : Int) (A0_2 : Option Addr) (c0_2 : Nat) (l0_2 : List Int) (A0_3 : Option Addr) (c0_3 : Nat) (l0_3 : List (S29)) (a1 : Int) (r : Int) (w : World) (hr0_2 : Kd.C (Kd.int .i64) w A0_2 l0_2.length l0_2) (hc0_2 : l0_2.length ≤ c0_2) (hr0_3 : Kd.C k29 w A0_3 l0_3.length l0_3) (hc0_3 : l0_3.length ≤ c0_3) (h : laws_szTerm.f k_ a0_0 a0_1 l0_2 l0_3 a1 = some r), Calls Tryd.prog 9 #[.agg #[.int .i64 a0_0, .int .i64 a0_1, .slice A0_2 l0_2.length c0_2, .slice A0_3 l0_3.length c0_3], .int .i64 a1] w fun e w' => e = .returned (.int .i64 r) ∧ Below w.heap.size w w')) : ∀ (A0 : Option Addr) (c0 : Nat) (l0 : List (S29)) (a1 : Int) (r : Int) (w : World) (hr0 : Kd.C k29 w A0 l0.length l0) (hc0 : l0.length ≤ c0) (h : laws_szTermS.f k l0 a1 = some r),
  Calls Tryd.prog 21 #[.slice A0 l0.length c0, .int .i64 a1] w fun e w' => e = .returned (.int .i64 r) ∧ Below w.heap.size w w' := by
 intro A0 c0 l0 a1 r w hr0 hc0 h
 cases k with
 | zero => exact absurd h (by simp [laws_szTermS.f])
 | succ k =>
 simp only [laws_szTermS.f] at h
 have hu29 := Tryd.underlying29
 have HR0 := sd_ hr0
 have HC0 := sd_ hc0
 clear hr0 hc0
 have HB := sd_ (Below.refl w.heap.size w)
 have H : (if (wrap64 (a1 - (l0.length : Int))) < 0 then (some (-1)) else (laws_szTermS.l0 k l0 (wrap64 (a1 - (l0.length : Int))) 0)) = some r := h
 clear h
 by_cases c3 : (wrap64 (a1 - (l0.length : Int))) < 0
 ·rw [if_pos c3] at H
  have c3b0 : decide ((wrap64 (a1 - (l0.length : Int))) < 0) = true := decide_eq_true c3
  clear c3
  obtain rfl := Option.some.inj H
  go_enter Tryd.func21, Tryd.ntmps21
  go_wp2
  go_ret
  exact ⟨an_, bw0_ HB.out⟩
 rw [if_neg c3] at H
 have c3b0 : decide ((wrap64 (a1 - (l0.length : Int))) < 0) = false := decide_eq_false c3
 clear c3
 have H' := sd_ H
 clear H
 go_enter Tryd.func21, Tryd.ntmps21
 go_wp2
 go_loopg [1, 5] k (fun kq v1 v5 w' => ∃ (x1_1 : Int) (x5_1 : Int), v1 = .int .i64 x1_1 ∧ v5 = .int .i64 x5_1 ∧ Aside0 (laws_szTermS.l0 kq l0 x1_1 x5_1 = some r) ∧ Aside0 (kq ≤ k) ∧ Aside0 (Below w.heap.size w w'))
 case atStart => exact ⟨(wrap64 (a1 - (l0.length : Int))), (0), sm_, sm_, H', ⟨Nat.le_refl _⟩, ⟨bw0_ HB.out⟩⟩
 case round =>
  clear H'
  try clear c2
  try clear p2
  try clear c3
  try clear c3b0
  obtain ⟨x1_1, x5_1, rfl, rfl, HA, HK1, HB⟩ := hrel
  cases gk with
  | zero => exact absurd HA.out (by simp [laws_szTermS.l0])
  | succ k1 =>
   have H := HA.out
   clear HA
   simp only [laws_szTermS.l0] at H
   by_cases c4 : x5_1 < (l0.length : Int)
   ·rw [if_pos c4] at H
    have c4b0 : decide (x5_1 < (l0.length : Int)) = true := decide_eq_true c4
    clear c4
    by_cases c5 : 0 ≤ x5_1
    ·rw [if_pos c5] at H
     have c5b0 : decide (0 ≤ x5_1) = true := decide_eq_true c5
     clear c5
     replace H := Option.bind_eq_some_iff.mp H
     obtain ⟨t102, A60, H⟩ := H
     try dsimp only at H
     have A6 := sd_ A60
     clear A60
     have HP7 := sd_ H
     clear H
     have p101 : 0 ≤ (x5_1 : Int) := dt_
     have q101 : x5_1 < (l0.length : Int) := dt_
     obtain ⟨ad101, A101_2, c101_2, A101_3, c101_3, e101, hx101_0, hx101_1, hx101_2, hx101_3, hl101_2, hi101_2, hl101_3, hi101_3⟩ := at_T29 HR0.out x5_1 p101 q101
     cases e101
     replace hx101_0 := (HB.out.cell (World.block_lt_of_cell? w _ hx101_0)).trans hx101_0
     replace hx101_1 := (HB.out.cell (World.block_lt_of_cell? w _ hx101_1)).trans hx101_1
     replace hx101_2 := (HB.out.cell (World.block_lt_of_cell? w _ hx101_2)).trans hx101_2
     replace hx101_3 := (HB.out.cell (World.block_lt_of_cell? w _ hx101_3)).trans hx101_3
     have HR101_2 := sd_ hi101_2
     have HC101_2 := sd_ hl101_2
     clear hi101_2 hl101_2
     have HR101_3 := sd_ hi101_3
     have HC101_3 := sd_ hl101_3
     clear hi101_3 hl101_3
     replace p101 := eq_true p101
     replace q101 := eq_true q101
     go_upto_if 25 with (first | ((with_reducible refine gate_callee (f := 9) rfl ?_); refine goesL_ (some 23) rfl rfl Tryd.func9 (by kernel_rfl) rfl #[.agg #[.int .i64 ((rd_T29 l0 x5_1).f0), .int .i64 ((rd_T29 l0 x5_1).f1), .slice A101_2 ((rd_T29 l0 x5_1).f2).length c101_2, .slice A101_3 ((rd_T29 l0 x5_1).f3).length c101_3], .int .i64 x1_1] rfl la_ ?_; (with_reducible refine (ihm k1 (by have := HK1.out; omega) ((rd_T29 l0 x5_1).f0) ((rd_T29 l0 x5_1).f1) _ _ ((rd_T29 l0 x5_1).f2) _ _ ((rd_T29 l0 x5_1).f3) x1_1 t102 _ ?side1 ?side2 ?side3 ?side4 A6.out).mono ?_); (case side1 => exact kc_ HR101_2.out HB.out); (case side2 => exact HC101_2.out); (case side3 => exact kc_ HR101_3.out HB.out); (case side4 => exact HC101_3.out); rintro e w8 ⟨rfl, hb⟩; refine ⟨_, rfl, ?_⟩; have n0_ := sd_ (below_step (bw0_ HB.out) hb); clear HB; have HB := n0_; clear n0_; (try clear hb)))
     have H := HP7.out
     clear HP7
     by_cases c9 : t102 < 0
     ·rw [if_pos c9] at H
      have c9b0 : decide (t102 < 0) = true := decide_eq_true c9
      clear c9
      (first | rw [c9b0] | (simp only [i64_w, i32_w]; rw [c9b0]) | skip)
      obtain rfl := Option.some.inj H
      go_wp2
      go_ret
      exact ⟨an_, bw0_ HB.out⟩
     rw [if_neg c9] at H
     have c9b0 : decide (t102 < 0) = false := decide_eq_false c9
     clear c9
     (first | rw [c9b0] | (simp only [i64_w, i32_w]; rw [c9b0]) | skip)
     have H' := sd_ H
     clear H
     go_wp2
     go_roundg k1
     case measure => have := HK1.out; omega
     case rel => exact ⟨(t102), (wrap64 (x5_1 + 1)), sm_, sm_, H', ⟨by have := HK1.out; omega⟩, ⟨bw0_ HB.out⟩⟩
    rw [if_neg c5] at H
    exact absurd H (by simp)
   rw [if_neg c4] at H
   have c4b0 : decide (x5_1 < (l0.length : Int)) = false := decide_eq_false c4
   clear c4
   obtain rfl := Option.some.inj H
   go_wp2
   go_ret
   exact ⟨an_, bw0_ HB.out⟩


set_option maxHeartbeats 8000000 in
set_option maxRecDepth 100000 in
theorem laws_szTerm.step (k : Nat) (ih : ∀ k_, k_ < k → (∀ (a0_0 : Int) (a0_1 : Int) (A0_2 : Option Addr) (c0_2 : Nat) (l0_2 : List Int) (A0_3 : Option Addr) (c0_3 : Nat) (l0_3 : List (S29)) (a1 : Int) (r : Int) (w : World) (hr0_2 : Kd.C (Kd.int .i64) w A0_2 l0_2.length l0_2) (hc0_2 : l0_2.length ≤ c0_2) (hr0_3 : Kd.C k29 w A0_3 l0_3.length l0_3) (hc0_3 : l0_3.length ≤ c0_3) (h : laws_szTerm.f k_ a0_0 a0_1 l0_2 l0_3 a1 = some r), Calls Tryd.prog 9 #[.agg #[.int .i64 a0_0, .int .i64 a0_1, .slice A0_2 l0_2.length c0_2, .slice A0_3 l0_3.length c0_3], .int .i64 a1] w fun e w' => e = .returned (.int .i64 r) ∧ Below w.heap.size w w')) (ihm : ∀ k_, k_ < k → (∀ (A0 : Option Addr) (c0 : Nat) (l0 : List (S29)) (a1 : Int) (r : Int) (w : World) (hr0 : Kd.C k29 w A0 l0.length l0) (hc0 : l0.length ≤ c0) (h : laws_szTermS.f k_ l0 a1 = some r), Calls Tryd.prog 21 #[.slice A0 l0.length c0, .int .i64 a1] w fun e w' => e = .returned (.int .i64 r) ∧ Below w.heap.size w w')) : ∀ (a0_0 : Int) (a0_1 : Int) (A0_2 : Option Addr) (c0_2 : Nat) (l0_2 : List Int) (A0_3 : Option Addr) (c0_3 : Nat) (l0_3 : List (S29)) (a1 : Int) (r : Int) (w : World) (hr0_2 : Kd.C (Kd.int .i64) w A0_2 l0_2.length l0_2) (hc0_2 : l0_2.length ≤ c0_2) (hr0_3 : Kd.C k29 w A0_3 l0_3.length l0_3) (hc0_3 : l0_3.length ≤ c0_3) (h : laws_szTerm.f k a0_0 a0_1 l0_2 l0_3 a1 = some r),
  Calls Tryd.prog 9 #[.agg #[.int .i64 a0_0, .int .i64 a0_1, .slice A0_2 l0_2.length c0_2, .slice A0_3 l0_3.length c0_3], .int .i64 a1] w fun e w' => e = .returned (.int .i64 r) ∧ Below w.heap.size w w' := by
 intro a0_0 a0_1 A0_2 c0_2 l0_2 A0_3 c0_3 l0_3 a1 r w hr0_2 hc0_2 hr0_3 hc0_3 h
 cases k with
 | zero => exact absurd h (by simp [laws_szTerm.f])
 | succ k =>
 simp only [laws_szTerm.f] at h
 have hu29 := Tryd.underlying29
 have HR0_2 := sd_ hr0_2
 have HC0_2 := sd_ hc0_2
 clear hr0_2 hc0_2
 have HR0_3 := sd_ hr0_3
 have HC0_3 := sd_ hc0_3
 clear hr0_3 hc0_3
 have HB := sd_ (Below.refl w.heap.size w)
 have H : ((laws_szIntS.f l0_2 a1).bind fun t104 => (if t104 < 0 then (some (-1)) else ((laws_szTermS.f k l0_3 t104).bind fun t105 => (if t105 < 0 then (some (-1)) else (some t105))))) = some r := h
 clear h
 replace H := Option.bind_eq_some_iff.mp H
 obtain ⟨t104, A30, H⟩ := H
 try dsimp only at H
 have A3 := sd_ A30
 clear A30
 have HP4 := sd_ H
 clear H
 go_enter Tryd.func9, Tryd.ntmps9
 go_upto_if 10 with (first | ((with_reducible refine gate_dst (N := 2) rfl ?_); refine bx_ (N := 2) (cs := #[.int .i64 a0_0, .int .i64 a0_1, .slice A0_2 l0_2.length c0_2, .slice A0_3 l0_3.length c0_3]) (t := 29) ?_; intro gb103 hg w5 hbox hb; have BK103 := sd_ (hbox); have GW103 := sd_ (gs_ hg (bw0_ HB.out)); have GE103 := sd_ (gs_ hg (bw0_ HB.out)); replace HB := sd_ (below_step (bw0_ HB.out) hb); clear hb hbox hg; obtain ⟨hcz6_0, hcz6_1, hcz6_2, hcz6_3, hfz6_0, hfz6_1, hfz6_2, hfz6_3⟩ := bf4_ BK103.out) | ((with_reducible refine gate_callee (f := 20) rfl ?_); refine goesL_ (some 8) rfl rfl Tryd.func20 (by kernel_rfl) rfl #[.slice A0_2 l0_2.length c0_2, .int .i64 a1] rfl la_ ?_; (with_reducible refine (laws_szIntS.calls _ _ l0_2 a1 t104 _ (kc_ HR0_2.out HB.out) HC0_2.out A3.out).mono ?_); rintro e w' ⟨rfl, ⟨nd, rfl⟩⟩; refine ⟨_, rfl, ?_⟩))
 have H := HP4.out
 clear HP4
 by_cases c7 : t104 < 0
 ·rw [if_pos c7] at H
  have c7b0 : decide (t104 < 0) = true := decide_eq_true c7
  clear c7
  (first | rw [c7b0] | (simp only [i64_w, i32_w]; rw [c7b0]) | skip)
  obtain rfl := Option.some.inj H
  go_wp2
  go_ret
  exact ⟨an_, bw1_ HB.out GE103.out⟩
 rw [if_neg c7] at H
 have c7b0 : decide (t104 < 0) = false := decide_eq_false c7
 clear c7
 (first | rw [c7b0] | (simp only [i64_w, i32_w]; rw [c7b0]) | skip)
 replace H := Option.bind_eq_some_iff.mp H
 obtain ⟨t105, A80, H⟩ := H
 try dsimp only at H
 have A8 := sd_ A80
 clear A80
 have HP9 := sd_ H
 clear H
 obtain ⟨hcz10_0, hcz10_1, hcz10_2, hcz10_3, hfz10_0, hfz10_1, hfz10_2, hfz10_3⟩ := bf4_ BK103.out
 go_upto_if 16 with (first | ((with_reducible refine gate_callee (f := 21) rfl ?_); refine goesL_ (some 14) rfl rfl Tryd.func21 (by kernel_rfl) rfl #[.slice A0_3 l0_3.length c0_3, .int .i64 t104] rfl la_ ?_; (with_reducible refine (ihm k (by omega) _ _ l0_3 t104 t105 _ ?side1 ?side2 A8.out).mono ?_); (case side1 => exact kc_ HR0_3.out HB.out); (case side2 => exact HC0_3.out); rintro e w11 ⟨rfl, hb⟩; refine ⟨_, rfl, ?_⟩; replace BK103 := sd_ (bb_ BK103.out hb); replace HB := sd_ (below_step (bw1_ HB.out GE103.out) hb); (try clear hb)))
 have H := HP9.out
 clear HP9
 by_cases c12 : t105 < 0
 ·rw [if_pos c12] at H
  have c12b0 : decide (t105 < 0) = true := decide_eq_true c12
  clear c12
  (first | rw [c12b0] | (simp only [i64_w, i32_w]; rw [c12b0]) | skip)
  obtain rfl := Option.some.inj H
  go_wp2
  go_ret
  exact ⟨an_, bw1_ HB.out GE103.out⟩
 rw [if_neg c12] at H
 have c12b0 : decide (t105 < 0) = false := decide_eq_false c12
 clear c12
 (first | rw [c12b0] | (simp only [i64_w, i32_w]; rw [c12b0]) | skip)
 obtain rfl := Option.some.inj H
 go_wp2
 go_ret
 exact ⟨an_, bw1_ HB.out GE103.out⟩

theorem laws_szTerm.both (k : Nat) : (∀ (a0_0 : Int) (a0_1 : Int) (A0_2 : Option Addr) (c0_2 : Nat) (l0_2 : List Int) (A0_3 : Option Addr) (c0_3 : Nat) (l0_3 : List (S29)) (a1 : Int) (r : Int) (w : World) (hr0_2 : Kd.C (Kd.int .i64) w A0_2 l0_2.length l0_2) (hc0_2 : l0_2.length ≤ c0_2) (hr0_3 : Kd.C k29 w A0_3 l0_3.length l0_3) (hc0_3 : l0_3.length ≤ c0_3) (h : laws_szTerm.f k a0_0 a0_1 l0_2 l0_3 a1 = some r), Calls Tryd.prog 9 #[.agg #[.int .i64 a0_0, .int .i64 a0_1, .slice A0_2 l0_2.length c0_2, .slice A0_3 l0_3.length c0_3], .int .i64 a1] w fun e w' => e = .returned (.int .i64 r) ∧ Below w.heap.size w w') ∧ (∀ (A0 : Option Addr) (c0 : Nat) (l0 : List (S29)) (a1 : Int) (r : Int) (w : World) (hr0 : Kd.C k29 w A0 l0.length l0) (hc0 : l0.length ≤ c0) (h : laws_szTermS.f k l0 a1 = some r), Calls Tryd.prog 21 #[.slice A0 l0.length c0, .int .i64 a1] w fun e w' => e = .returned (.int .i64 r) ∧ Below w.heap.size w w') := by
 induction k using Nat.strongRecOn with
 | _ k ih => exact ⟨laws_szTerm.step k (fun j hj => (ih j hj).1) (fun j hj => (ih j hj).2), laws_szTermS.step k (fun j hj => (ih j hj).2) (fun j hj => (ih j hj).1)⟩
theorem laws_szTerm.calls (k : Nat) : ∀ (a0_0 : Int) (a0_1 : Int) (A0_2 : Option Addr) (c0_2 : Nat) (l0_2 : List Int) (A0_3 : Option Addr) (c0_3 : Nat) (l0_3 : List (S29)) (a1 : Int) (r : Int) (w : World) (hr0_2 : Kd.C (Kd.int .i64) w A0_2 l0_2.length l0_2) (hc0_2 : l0_2.length ≤ c0_2) (hr0_3 : Kd.C k29 w A0_3 l0_3.length l0_3) (hc0_3 : l0_3.length ≤ c0_3) (h : laws_szTerm.f k a0_0 a0_1 l0_2 l0_3 a1 = some r), Calls Tryd.prog 9 #[.agg #[.int .i64 a0_0, .int .i64 a0_1, .slice A0_2 l0_2.length c0_2, .slice A0_3 l0_3.length c0_3], .int .i64 a1] w fun e w' => e = .returned (.int .i64 r) ∧ Below w.heap.size w w' := (laws_szTerm.both k).1
theorem laws_szTermS.calls (k : Nat) : ∀ (A0 : Option Addr) (c0 : Nat) (l0 : List (S29)) (a1 : Int) (r : Int) (w : World) (hr0 : Kd.C k29 w A0 l0.length l0) (hc0 : l0.length ≤ c0) (h : laws_szTermS.f k l0 a1 = some r), Calls Tryd.prog 21 #[.slice A0 l0.length c0, .int .i64 a1] w fun e w' => e = .returned (.int .i64 r) ∧ Below w.heap.size w w' := (laws_szTerm.both k).2
end Go.Proofs.YtlhiacnmcckjgaaDoor.P
end
