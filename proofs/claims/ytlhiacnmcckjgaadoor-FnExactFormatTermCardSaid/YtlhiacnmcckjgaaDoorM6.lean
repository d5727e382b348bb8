-- Several texts in one (wip/tools/merge.py).
import Derived.Test.YtlhiacnmcckjgaaDoorM1
import Derived.Test.YtlhiacnmcckjgaaDoorM5
import Derived.Test.YtlhiacnmcckjgaaDoorM4
import Derived.Test.YtlhiacnmcckjgaaDoorM3
import Derived.Test.YtlhiacnmcckjgaaDoorM2
import Derived.Lib.LazyBuf
section
namespace Go.Proofs.YtlhiacnmcckjgaaDoor.P
open Go.RowKit Go.Proofs.YtlhiacnmcckjgaaDoorW.PrintWords Go.Proofs.YtlhiacnmcckjgaaDoorW.PrintLast Go.Proofs.YtlhiacnmcckjgaaDoorW.PrintMore
attribute [local go_sem] max2_int min2_int max_two min_two max_three min_three max_four min_four   -- for this text's walks alone
set_option linter.unusedVariables false
set_option linter.unusedSimpArgs false

/-! ### spec_l2End: function 29 -/
def spec_l2End.l0 : Nat → List Int → Int → Int → Option (Int)
 | 0, _, _, _ => none
 | k + 1, x0, x5, x6 => if x6 < (x0.length : Int) then (if 0 ≤ x6 then ((spec_l2Kids.f k (rd x0 x6)).bind fun t114 => (if t114 < 0 then (some (-1)) else (if (wrap64 ((wrap64 (x5 - 1)) + t114)) = 0 then (some (wrap64 (x6 + 1))) else (spec_l2End.l0 k x0 (wrap64 ((wrap64 (x5 - 1)) + t114)) (wrap64 (x6 + 1)))))) else (none)) else (some (-1))
def spec_l2End.f (k : Nat) (l0 : List Int) (a1 : Int) : Option (Int) := spec_l2End.l0 k l0 1 a1
set_option maxHeartbeats 8000000 in
set_option maxRecDepth 100000 in
theorem spec_l2End.calls (k : Nat) (A0 : Option Addr) (c0 : Nat) (l0 : List Int) (a1 : Int) (r : Int) (w : World) (hr0 : Kd.C (Kd.int .i64) w A0 l0.length l0) (hc0 : l0.length ≤ c0) (h : spec_l2End.f k l0 a1 = some r) :
  Calls Tryd.prog 29 #[.slice A0 l0.length c0, .int .i64 a1] w fun e w' => e = .returned (.int .i64 r) ∧ Drawn0 w w' := by
 have HR0 := sd_ hr0
 have HC0 := sd_ hc0
 clear hr0 hc0
 have H : (spec_l2End.l0 k l0 1 a1) = some r := h
 clear h
 have H' := sd_ H
 clear H
 go_enter Tryd.func29, Tryd.ntmps29
 go_wp2
 go_loopg [5, 6] k (fun kq v5 v6 w' => ∃ (x5_1 : Int) (x6_1 : Int), v5 = .int .i64 x5_1 ∧ v6 = .int .i64 x6_1 ∧ Aside0 (spec_l2End.l0 kq l0 x5_1 x6_1 = some r) ∧ Aside0 (kq ≤ k) ∧ Drawn0 w w')
 case atStart => exact ⟨(1), (a1), sm_, sm_, H', ⟨Nat.le_refl _⟩, by repeat (first | exact Drawn0.refl _ | apply Drawn0.step)⟩
 case round =>
  clear H'
  try clear c2
  try clear p2
  obtain ⟨x5_1, x6_1, rfl, rfl, HA, HK1, ⟨m1, rfl⟩⟩ := hrel
  cases gk with
  | zero => exact absurd HA.out (by simp [spec_l2End.l0])
  | succ k1 =>
   have H := HA.out
   clear HA
   simp only [spec_l2End.l0] at H
   by_cases c3 : x6_1 < (l0.length : Int)
   ·rw [if_pos c3] at H
    have c3b0 : decide (x6_1 < (l0.length : Int)) = true := decide_eq_true c3
    clear c3
    by_cases c4 : 0 ≤ x6_1
    ·rw [if_pos c4] at H
     have c4b0 : decide (0 ≤ x6_1) = true := decide_eq_true c4
     clear c4
     replace H := Option.bind_eq_some_iff.mp H
     obtain ⟨t114, A50, H⟩ := H
     try dsimp only at H
     have A5 := sd_ A50
     clear A50
     by_cases c6 : t114 < 0
     ·rw [if_pos c6] at H
      have c6b0 : decide (t114 < 0) = true := decide_eq_true c6
      clear c6
      obtain rfl := Option.some.inj H
      have p113 : 0 ≤ (x6_1 : Int) := dt_
      have q113 : x6_1 < (l0.length : Int) := dt_
      obtain ⟨ad113, e113, hx113_0⟩ := Kd.at_int HR0.out x6_1 p113 q113
      cases e113
      replace p113 := eq_true p113
      replace q113 := eq_true q113
      go_wp2_with (first | ((with_reducible refine gate_callee (f := 45) rfl ?_); refine goesL_ (some 19) rfl rfl Tryd.func45 (by kernel_rfl) rfl #[.int .i64 (rd l0 x6_1)] rfl la_ ?_; (with_reducible refine (spec_l2Kids.calls k1 (rd l0 x6_1) t114 _ A5.out).mono ?_); rintro e w' ⟨rfl, ⟨nd, rfl⟩⟩; refine ⟨_, rfl, ?_⟩))
      go_ret
      exact ⟨by first | rfl | (simp; done) | (simp [*]; done), by repeat (first | exact Drawn0.refl _ | apply Drawn0.step)⟩
     rw [if_neg c6] at H
     have c6b0 : decide (t114 < 0) = false := decide_eq_false c6
     clear c6
     by_cases c7 : (wrap64 ((wrap64 (x5_1 - 1)) + t114)) = 0
     ·rw [if_pos c7] at H
      have c7b0 : ((wrap64 ((wrap64 (x5_1 - 1)) + t114)) == 0) = true := beq_iff_eq.mpr c7
      have c7b1 : ((wrap64 ((wrap64 (x5_1 - 1)) + t114)) != 0) = false := bne_eq_false_iff_eq.mpr c7
      clear c7
      obtain rfl := Option.some.inj H
      have p113 : 0 ≤ (x6_1 : Int) := dt_
      have q113 : x6_1 < (l0.length : Int) := dt_
      obtain ⟨ad113, e113, hx113_0⟩ := Kd.at_int HR0.out x6_1 p113 q113
      cases e113
      replace p113 := eq_true p113
      replace q113 := eq_true q113
      go_wp2_with (first | ((with_reducible refine gate_callee (f := 45) rfl ?_); refine goesL_ (some 19) rfl rfl Tryd.func45 (by kernel_rfl) rfl #[.int .i64 (rd l0 x6_1)] rfl la_ ?_; (with_reducible refine (spec_l2Kids.calls k1 (rd l0 x6_1) t114 _ A5.out).mono ?_); rintro e w' ⟨rfl, ⟨nd, rfl⟩⟩; refine ⟨_, rfl, ?_⟩))
      go_ret
      exact ⟨by first | rfl | (simp; done) | (simp [*]; done), by repeat (first | exact Drawn0.refl _ | apply Drawn0.step)⟩
     rw [if_neg c7] at H
     have c7b0 : ((wrap64 ((wrap64 (x5_1 - 1)) + t114)) == 0) = false := beq_eq_false_iff_ne.mpr c7
     have c7b1 : ((wrap64 ((wrap64 (x5_1 - 1)) + t114)) != 0) = true := bne_iff_ne.mpr c7
     have H' := sd_ H
     clear H
     have p113 : 0 ≤ (x6_1 : Int) := dt_
     have q113 : x6_1 < (l0.length : Int) := dt_
     obtain ⟨ad113, e113, hx113_0⟩ := Kd.at_int HR0.out x6_1 p113 q113
     cases e113
     replace p113 := eq_true p113
     replace q113 := eq_true q113
     go_wp2_with (first | ((with_reducible refine gate_callee (f := 45) rfl ?_); refine goesL_ (some 19) rfl rfl Tryd.func45 (by kernel_rfl) rfl #[.int .i64 (rd l0 x6_1)] rfl la_ ?_; (with_reducible refine (spec_l2Kids.calls k1 (rd l0 x6_1) t114 _ A5.out).mono ?_); rintro e w' ⟨rfl, ⟨nd, rfl⟩⟩; refine ⟨_, rfl, ?_⟩))
     go_roundg k1
     case measure => have := HK1.out; omega
     case rel => exact ⟨(wrap64 ((wrap64 (x5_1 - 1)) + t114)), (wrap64 (x6_1 + 1)), sm_, sm_, H', ⟨by have := HK1.out; omega⟩, by repeat (first | exact Drawn0.refl _ | apply Drawn0.step)⟩
    rw [if_neg c4] at H
    exact absurd H (by simp)
   rw [if_neg c3] at H
   have c3b0 : decide (x6_1 < (l0.length : Int)) = false := decide_eq_false c3
   clear c3
   obtain rfl := Option.some.inj H
   go_wp2
   go_ret
   exact ⟨by first | rfl | (simp; done) | (simp [*]; done), by repeat (first | exact Drawn0.refl _ | apply Drawn0.step)⟩


/-! ### spec_l2Type: function 14 -/
def spec_l2Type.f (k : Nat) (l0 : List Int) : Option (Bool) := if (l0.length : Int) ≤ 40 then ((spec_l2End.f k l0 0).bind fun t115 => (if t115 = (l0.length : Int) then (some (decide ((l0.length : Int) > 0))) else (some false))) else (some false)
set_option maxHeartbeats 8000000 in
set_option maxRecDepth 100000 in
theorem spec_l2Type.calls (k : Nat) (A0 : Option Addr) (c0 : Nat) (l0 : List Int) (r : Bool) (w : World) (hr0 : Kd.C (Kd.int .i64) w A0 l0.length l0) (hc0 : l0.length ≤ c0) (h : spec_l2Type.f k l0 = some r) :
  Calls Tryd.prog 14 #[.slice A0 l0.length c0] w fun e w' => e = .returned (.bool r) ∧ Drawn0 w w' := by
 have HR0 := sd_ hr0
 have HC0 := sd_ hc0
 clear hr0 hc0
 have H : (if (l0.length : Int) ≤ 40 then ((spec_l2End.f k l0 0).bind fun t115 => (if t115 = (l0.length : Int) then (some (decide ((l0.length : Int) > 0))) else (some false))) else (some false)) = some r := h
 clear h
 by_cases c2 : (l0.length : Int) ≤ 40
 ·rw [if_pos c2] at H
  have c2b0 : decide ((l0.length : Int) ≤ 40) = true := decide_eq_true c2
  have c2b1 : decide (l0.length ≤ 40) = true := decide_eq_true (by omega)
  clear c2
  replace H := Option.bind_eq_some_iff.mp H
  obtain ⟨t115, A30, H⟩ := H
  try dsimp only at H
  have A3 := sd_ A30
  clear A30
  by_cases c4 : t115 = (l0.length : Int)
  ·rw [if_pos c4] at H
   have c4b0 : (t115 == (l0.length : Int)) = true := beq_iff_eq.mpr c4
   have c4b1 : (t115 != (l0.length : Int)) = false := bne_eq_false_iff_eq.mpr c4
   clear c4
   obtain rfl := Option.some.inj H
   go_enter Tryd.func14, Tryd.ntmps14
   go_wp2_with (first | (go_at_call 29; (with_reducible refine (spec_l2End.calls k _ _ l0 0 t115 _ (kp_ HR0.out) HC0.out A3.out).mono ?_); rintro e w' ⟨rfl, ⟨nd, rfl⟩⟩))
   go_ret
   exact ⟨by first | rfl | (simp; done) | (simp [*]; done), by repeat (first | exact Drawn0.refl _ | apply Drawn0.step)⟩
  rw [if_neg c4] at H
  have c4b0 : (t115 == (l0.length : Int)) = false := beq_eq_false_iff_ne.mpr c4
  have c4b1 : (t115 != (l0.length : Int)) = true := bne_iff_ne.mpr c4
  obtain rfl := Option.some.inj H
  go_enter Tryd.func14, Tryd.ntmps14
  go_wp2_with (first | (go_at_call 29; (with_reducible refine (spec_l2End.calls k _ _ l0 0 t115 _ (kp_ HR0.out) HC0.out A3.out).mono ?_); rintro e w' ⟨rfl, ⟨nd, rfl⟩⟩))
  go_ret
  exact ⟨by first | rfl | (simp; done) | (simp [*]; done), by repeat (first | exact Drawn0.refl _ | apply Drawn0.step)⟩
 rw [if_neg c2] at H
 have c2b0 : decide ((l0.length : Int) ≤ 40) = false := decide_eq_false c2
 have c2b1 : decide (l0.length ≤ 40) = false := decide_eq_false (by omega)
 clear c2
 obtain rfl := Option.some.inj H
 go_enter Tryd.func14, Tryd.ntmps14
 go_wp2
 go_ret
 exact ⟨by first | rfl | (simp; done) | (simp [*]; done), by repeat (first | exact Drawn0.refl _ | apply Drawn0.step)⟩

end Go.Proofs.YtlhiacnmcckjgaaDoor.P
end

section
/- Types in their code: where one ends; what is written. -/
set_option linter.unusedSimpArgs false
set_option linter.unusedVariables false
namespace Go.Proofs.YtlhiacnmcckjgaaDoor.Pure
open Go.RowKit Go.Proofs.YtlhiacnmcckjgaaDoor.P Go.Proofs.YtlhiacnmcckjgaaDoorW.PrintWords Go.Proofs.YtlhiacnmcckjgaaDoorW.PrintLast
def kidsV (c : Int) : Int := if c = 0 then 0 else if c = 1 ∨ c = 2 ∨ (3 ≤ c ∧ c ≤ 18) ∨ c = 35 then 2 else if (19 ≤ c ∧ c ≤ 34) ∨ c = 36 then 1 else -1
def shapeV (c : Int) : Int × Int := if 0 ≤ c ∧ c ≤ 2 then (c, -1) else if 3 ≤ c ∧ c ≤ 18 then (3, c - 3) else if 19 ≤ c ∧ c ≤ 34 then (4, c - 19) else if c = 35 then (3, -1) else if c = 36 then (4, -1) else (5, -1)
theorem inV_iff (x lo hi : Int) : inV x lo hi = true ↔ lo ≤ x ∧ x ≤ hi := by
  unfold inV; rw [Bool.and_eq_true, decide_eq_true_eq, decide_eq_true_eq]
theorem kids_eq (k : Nat) (c : Int) : spec_l2Kids.f (k + 1) c = some (kidsV c) := by
  unfold spec_l2Kids.f spec_l2Arrow.f kidsV
  simp only [spec_l2Kids.j0, spec_l2Box.f, in_eq, Option.bind_some]
  by_cases c0 : c = 0
  · simp [c0]
  by_cases c1 : c = 1
  · simp [c1]
  by_cases c2 : c = 2
  · simp [c2]
  by_cases c3 : 3 ≤ c ∧ c ≤ 18
  · have e := (inV_iff c 3 18).mpr c3
    simp [c0, c1, c2, c3, e]
  have e3 : inV c 3 18 = false := by rw [Bool.eq_false_iff]; exact fun h => c3 ((inV_iff c 3 18).mp h)
  by_cases c4 : c = 35
  · simp [c4, inV]
  by_cases c5 : 19 ≤ c ∧ c ≤ 34
  · have e := (inV_iff c 19 34).mpr c5
    simp [c0, c1, c2, c3, c4, c5, e, e3]
  have e5 : inV c 19 34 = false := by rw [Bool.eq_false_iff]; exact fun h => c5 ((inV_iff c 19 34).mp h)
  by_cases c6 : c = 36
  · simp [c6, inV]
  · simp [c0, c1, c2, c3, c4, c5, c6, e3, e5]
theorem shape_eq (c : Int) : impl_shape.f c = some (shapeV c) := by
  unfold impl_shape.f shapeV
  simp only [within_eq, Option.bind_some]
  by_cases c0 : 0 ≤ c ∧ c ≤ 2
  · simp [(inV_iff c 0 2).mpr c0, c0]
  have e0 : inV c 0 2 = false := by rw [Bool.eq_false_iff]; exact fun h => c0 ((inV_iff c 0 2).mp h)
  by_cases c3 : 3 ≤ c ∧ c ≤ 18
  · simp only [e0, (inV_iff c 3 18).mpr c3, if_neg c0, if_pos c3, Bool.false_eq_true, if_false, if_true, w64 (x := c - 3) (by omega) (by omega)]
  have e3 : inV c 3 18 = false := by rw [Bool.eq_false_iff]; exact fun h => c3 ((inV_iff c 3 18).mp h)
  by_cases c5 : 19 ≤ c ∧ c ≤ 34
  · simp only [e0, e3, (inV_iff c 19 34).mpr c5, if_neg c0, if_neg c3, if_pos c5, Bool.false_eq_true, if_false, if_true, w64 (x := c - 19) (by omega) (by omega)]
  have e5 : inV c 19 34 = false := by rw [Bool.eq_false_iff]; exact fun h => c5 ((inV_iff c 19 34).mp h)
  simp only [e0, e3, e5, if_neg c0, if_neg c3, if_neg c5, Bool.false_eq_true, if_false]
  by_cases c6 : c = 35
  · simp [c6]
  · by_cases c7 : c = 36
    · simp [c7]
    · simp [c6, c7]
/-- Where d types that begin at i end, m places ahead: -1 where none. -/
def eat (xs : List Int) : Nat → Int → Int → Int
  | 0, _, _ => -1
  | m + 1, d, i => if kidsV (rd xs i) < 0 then -1 else if d - 1 + kidsV (rd xs i) = 0 then i + 1 else eat xs m (d - 1 + kidsV (rd xs i)) (i + 1)
theorem kids_le (c : Int) : kidsV c ≤ 2 := by unfold kidsV; repeat' split <;> omega
theorem eat_range (xs : List Int) : ∀ (m : Nat) (d i : Int), 0 ≤ i → eat xs m d i = -1 ∨ (i < eat xs m d i ∧ eat xs m d i ≤ i + m)
  | 0, _, _, _ => Or.inl rfl
  | m + 1, d, i, h => by
    unfold eat
    split
    · exact Or.inl rfl
    · split
      · right; constructor <;> omega
      · rcases eat_range xs m (d - 1 + kidsV (rd xs i)) (i + 1) (by omega) with e | e
        · exact Or.inl e
        · right; constructor <;> omega
theorem eat_add (xs : List Int) (e : Int) (he : 1 ≤ e) : ∀ (m : Nat) (d i : Int), 0 ≤ i → 1 ≤ d → eat xs m (d + e) i = if eat xs m d i = -1 then -1 else eat xs (i + m - eat xs m d i).toNat e (eat xs m d i)
  | 0, d, i, h, hd => by simp [eat]
  | m + 1, d, i, h, hd => by
    by_cases c : kidsV (rd xs i) < 0
    · simp [eat, c]
    · by_cases c1 : d - 1 + kidsV (rd xs i) = 0
      · have e1 : eat xs (m + 1) d i = i + 1 := by simp [eat, c, c1]
        have e2 : eat xs (m + 1) (d + e) i = eat xs m e (i + 1) := by
          have e4 : d + e - 1 + kidsV (rd xs i) = e := by omega
          have e3 : ¬ e = 0 := by omega
          simp only [eat, if_neg c, e4, if_neg e3]
        rw [e1, e2, if_neg (by omega), show (i + ((m + 1 : Nat) : Int) - (i + 1)).toNat = m by omega]
      · have e1 : eat xs (m + 1) d i = eat xs m (d - 1 + kidsV (rd xs i)) (i + 1) := by simp [eat, c, c1]
        have e4 : d + e - 1 + kidsV (rd xs i) = d - 1 + kidsV (rd xs i) + e := by omega
        have e2 : eat xs (m + 1) (d + e) i = eat xs m (d - 1 + kidsV (rd xs i) + e) (i + 1) := by
          have e3 : ¬ d - 1 + kidsV (rd xs i) + e = 0 := by omega
          simp only [eat, if_neg c, e4, if_neg e3]
        rw [e1, e2, eat_add xs e he m (d - 1 + kidsV (rd xs i)) (i + 1) (by omega) (by omega), show i + 1 + (m : Int) = i + ((m + 1 : Nat) : Int) by omega]
theorem specEnd (xs : List Int) (hl : xs.length ≤ 1048576) : ∀ (m : Nat) (d i : Int), 0 ≤ i → i + m = xs.length → 1 ≤ d → d ≤ 1048576 + i → Ev (fun k => spec_l2End.l0 k xs d i) (eat xs m d i)
  | 0, d, i, h0, h1, hd, hd' => by
    refine Ev.step (f := fun _ => some (-1)) (fun k => ?_) (Ev.now _)
    simp only [spec_l2End.l0]; rw [if_neg (by omega)]
  | m + 1, d, i, h0, h1, hd, hd' => by
    have hk := kids_le (rd xs i)
    have i1 : i < (xs.length : Int) := by omega
    have run : ∀ (r : Int) (F : Nat → Option Int), (∀ k, (if kidsV (rd xs i) < 0 then some (-1) else if d - 1 + kidsV (rd xs i) = 0 then some (i + 1) else spec_l2End.l0 (k + 1) xs (d - 1 + kidsV (rd xs i)) (i + 1)) = F k) → Ev F r → Ev (fun k => spec_l2End.l0 k xs d i) r := by
      rintro r F hF ⟨K, hK⟩
      refine ⟨K + 2, fun k hk2 => ?_⟩
      obtain ⟨k, rfl⟩ : ∃ q, k = q + 2 := ⟨k - 2, by omega⟩
      rw [← hK k (by omega), ← hF k]
      show (if i < (xs.length : Int) then _ else _) = _
      rw [if_pos i1, if_pos h0, kids_eq, Option.bind_some]
      by_cases c : kidsV (rd xs i) < 0
      · rw [if_pos c, if_pos c]
      · rw [if_neg c, if_neg c, w64 (x := d - 1) (by omega) (by omega), w64 (x := d - 1 + kidsV (rd xs i)) (by omega) (by omega), w64 (x := i + 1) (by omega) (by omega)]
    unfold eat
    by_cases c : kidsV (rd xs i) < 0
    · rw [if_pos c]
      exact run _ (fun _ => some (-1)) (fun k => if_pos c) (Ev.now _)
    · rw [if_neg c]
      by_cases c1 : d - 1 + kidsV (rd xs i) = 0
      · rw [if_pos c1]
        exact run _ (fun _ => some (i + 1)) (fun k => (if_neg c).trans (if_pos c1)) (Ev.now _)
      · rw [if_neg c1]
        obtain ⟨K, hK⟩ := specEnd xs hl m (d - 1 + kidsV (rd xs i)) (i + 1) (by omega) (by omega) (by omega) (by omega)
        exact run _ (fun k => spec_l2End.l0 (k + 1) xs (d - 1 + kidsV (rd xs i)) (i + 1)) (fun k => (if_neg c).trans (if_neg c1)) ⟨K, fun k hk => hK (k + 1) (by omega)⟩
theorem specEnd0 (xs : List Int) (hl : xs.length ≤ 1048576) {i : Int} (h0 : 0 ≤ i) (h1 : i ≤ xs.length) : Ev (fun k => spec_l2End.f k xs i) (eat xs (xs.length - i).toNat 1 i) := by
  unfold spec_l2End.f
  exact specEnd xs hl _ 1 i h0 (by omega) (by omega) (by omega)
theorem kids_shape (c : Int) : (kidsV c < 0 ↔ (shapeV c).1 = 5) ∧ (kidsV c = 0 ↔ (shapeV c).1 = 0) ∧ (kidsV c = 1 ↔ (shapeV c).1 = 4) ∧ (kidsV c = 2 ↔ ((shapeV c).1 = 1 ∨ (shapeV c).1 = 2 ∨ (shapeV c).1 = 3)) := by
  unfold kidsV shapeV
  repeat' split
  all_goals (refine ⟨?_, ?_, ?_, ?_⟩ <;> simp <;> omega)
theorem implEnd_bad (xs : List Int) (i : Int) (h : i < 0 ∨ (xs.length : Int) ≤ i) : Ev (fun k => impl_typeEnd.f k xs i) (-1) := by
  refine Ev.step (f := fun k => impl_typeEnd.j0 k xs i true) (fun k => ?_) (Ev.step (f := fun _ => some (-1)) (fun k => ?_) (Ev.now _))
  · simp only [impl_typeEnd.f]
    by_cases c : i < 0
    · rw [if_pos c]
    · rw [if_neg c, decide_eq_true (by omega)]
  · simp only [impl_typeEnd.j0, if_true]
theorem implEnd (xs : List Int) (hl : xs.length ≤ 1048576) : ∀ (m : Nat) (i : Int), 0 ≤ i → i + m = xs.length → Ev (fun k => impl_typeEnd.f k xs i) (eat xs m 1 i) := by
  intro m
  induction m using Nat.strongRecOn with
  | _ m ih =>
  intro i h0 h1
  cases m with
  | zero => exact implEnd_bad xs i (by omega)
  | succ m =>
    have i1 : i < (xs.length : Int) := by omega
    have up : wrap64 (i + 1) = i + 1 := w64 (by omega) (by omega)
    have next := ih m (by omega) (i + 1) (by omega) (by omega)
    obtain ⟨k5, k0, k1, k2⟩ := kids_shape (rd xs i)
    have hle := kids_le (rd xs i)
    refine Ev.step (f := fun k => impl_typeEnd.j0 k xs i false) (fun k => ?_) ?_
    · simp only [impl_typeEnd.f]; rw [if_neg (by omega), decide_eq_false (by omega)]
    · have open_ : ∀ k, impl_typeEnd.j0 (k + 1) xs i false = (if (shapeV (rd xs i)).1 = 0 then some (i + 1) else if (shapeV (rd xs i)).1 = 4 then impl_typeEnd.f k xs (i + 1) else if (shapeV (rd xs i)).1 = 5 then some (-1) else (impl_typeEnd.f k xs (i + 1)).bind fun j => impl_typeEnd.f k xs j) := by
        intro k
        simp only [impl_typeEnd.j0, shape_eq, Option.bind_some, Bool.false_eq_true, if_false, if_pos h0, if_pos i1, up, Option.bind_fun_some]
      refine Ev.step open_ ?_
      unfold eat
      by_cases c : kidsV (rd xs i) < 0
      · have := k5.mp c
        simp only [this]
        simpa [c] using Ev.now (-1 : Int)
      · rw [if_neg c]
        by_cases c0 : kidsV (rd xs i) = 0
        · simp only [k0.mp c0, c0]
          simpa using Ev.now (i + 1)
        · by_cases c1 : kidsV (rd xs i) = 1
          · simp only [k1.mp c1, c1]
            simpa using next
          · have c2 : kidsV (rd xs i) = 2 := by omega
            have s0 : ¬ (shapeV (rd xs i)).1 = 0 := fun h => c0 (k0.mpr h)
            have s4 : ¬ (shapeV (rd xs i)).1 = 4 := fun h => c1 (k1.mpr h)
            have s5 : ¬ (shapeV (rd xs i)).1 = 5 := fun h => c (k5.mpr h)
            simp only [if_neg s0, if_neg s4, if_neg s5, c2]
            refine Ev.bind next ?_
            have ea := eat_add xs 1 (by omega) m 1 (i + 1) (by omega) (by omega)
            have er := eat_range xs m 1 (i + 1) (by omega)
            have goal_ : (if (1 : Int) - 1 + 2 = 0 then i + 1 else eat xs m (1 - 1 + 2) (i + 1)) = eat xs m (1 + 1) (i + 1) := by rw [if_neg (by decide)]; rfl
            rw [goal_, ea]
            by_cases e : eat xs m 1 (i + 1) = -1
            · rw [if_pos e, e]; exact implEnd_bad xs (-1) (by omega)
            · rw [if_neg e]
              have e' := er.resolve_left e
              exact ih _ (by omega) _ (by omega) (by omega)
def writtenV (xs : List Int) : Bool := inV xs.length 1 40 && decide (eat xs xs.length 1 0 = (xs.length : Int))
theorem specWritten (xs : List Int) (hl : xs.length ≤ 1048576) : Ev (fun k => spec_l2Type.f k xs) (writtenV xs) := by
  unfold spec_l2Type.f writtenV
  have main := specEnd0 xs hl (i := 0) (by omega) (by omega)
  rw [show ((xs.length : Int) - 0).toNat = xs.length by omega] at main
  by_cases c : (xs.length : Int) ≤ 40
  · refine evCongr (fun k => if_pos c) ?_
    refine Ev.bind main ?_
    unfold inV
    by_cases c1 : eat xs xs.length 1 0 = (xs.length : Int)
    · by_cases c2 : (xs.length : Int) > 0
      · have c3 : (xs.length : Int) ≥ 1 := by omega
        simp only [if_pos c1, decide_eq_true c, decide_eq_true c1, decide_eq_true c2, decide_eq_true c3]
        exact Ev.now _
      · have c3 : ¬ (xs.length : Int) ≥ 1 := by omega
        simp only [if_pos c1, decide_eq_true c, decide_eq_true c1, decide_eq_false c2, decide_eq_false c3]
        exact Ev.now _
    · simp only [if_neg c1, decide_eq_false c1, Bool.and_false]
      exact Ev.now _
  · refine evCongr (fun k => if_neg c) ?_
    unfold inV
    rw [decide_eq_false c, Bool.and_false, Bool.false_and]
    exact Ev.now _
theorem implWritten (xs : List Int) (hl : xs.length ≤ 1048576) : Ev (fun k => impl_isWrittenType.f k xs) (writtenV xs) := by
  unfold impl_isWrittenType.f writtenV
  simp only [within_eq, Option.bind_some]
  have main := implEnd xs hl xs.length 0 (by omega) (by omega)
  cases inV (xs.length : Int) 1 40
  · simpa using Ev.now false
  · simp only [if_true, Bool.true_and]
    refine Ev.bind main ?_
    by_cases c1 : eat xs xs.length 1 0 = (xs.length : Int)
    · simp only [c1, beq_self_eq_true, decide_true]; exact Ev.now _
    · simp only [beq_eq_false_iff_ne.mpr c1, decide_eq_false c1]; exact Ev.now _
end Go.Proofs.YtlhiacnmcckjgaaDoor.Pure
end

section
namespace Go.Proofs.YtlhiacnmcckjgaaDoor.P
open Go.RowKit Go.Proofs.YtlhiacnmcckjgaaDoorW.PrintWords Go.Proofs.YtlhiacnmcckjgaaDoorW.PrintLast Go.Proofs.YtlhiacnmcckjgaaDoorW.PrintMore
attribute [local go_sem] max2_int min2_int max_two min_two max_three min_three max_four min_four   -- for this text's walks alone
set_option linter.unusedVariables false
set_option linter.unusedSimpArgs false

/-! ### spec_FormatType: function 5 -/
def spec_FormatType.l0 : Nat → List Int → ByteArray → Int → Option (ByteArray)
 | 0, _, _, _ => none
 | k + 1, x0, x3, x4 => if x4 < (x0.length : Int) then (if 0 ≤ x4 then (if (rd x0 x4) = 0 then (if x3.size + 1 ≤ 9223372036854775807 then (spec_FormatType.l0 k x0 (x3 ++ (⟨#[110]⟩ : ByteArray)) (wrap64 (x4 + 1))) else (none)) else (if (rd x0 x4) = 1 then (if x3.size + 1 ≤ 9223372036854775807 then (spec_FormatType.l0 k x0 (x3 ++ (⟨#[42]⟩ : ByteArray)) (wrap64 (x4 + 1))) else (none)) else (if (rd x0 x4) = 2 then (if x3.size + 1 ≤ 9223372036854775807 then (spec_FormatType.l0 k x0 (x3 ++ (⟨#[43]⟩ : ByteArray)) (wrap64 (x4 + 1))) else (none)) else ((spec_l2Arrow.f (rd x0 x4)).bind fun t149 => (if t149 = true then (if x3.size + 1 ≤ 9223372036854775807 then ((spec_l2Grade.f (rd x0 x4)).bind fun t150 => ((spec_l2GradeText.f k t150).bind fun t151 => (if (x3 ++ (⟨#[62]⟩ : ByteArray)).size + t151.size ≤ 9223372036854775807 then (if ((x3 ++ (⟨#[62]⟩ : ByteArray)) ++ t151).size + 1 ≤ 9223372036854775807 then (spec_FormatType.l0 k x0 (((x3 ++ (⟨#[62]⟩ : ByteArray)) ++ t151) ++ (⟨#[46]⟩ : ByteArray)) (wrap64 (x4 + 1))) else (none)) else (none)))) else (none)) else (if x3.size + 1 ≤ 9223372036854775807 then ((spec_l2Grade.f (rd x0 x4)).bind fun t152 => ((spec_l2GradeText.f k t152).bind fun t153 => (if (x3 ++ (⟨#[33]⟩ : ByteArray)).size + t153.size ≤ 9223372036854775807 then (if ((x3 ++ (⟨#[33]⟩ : ByteArray)) ++ t153).size + 1 ≤ 9223372036854775807 then (spec_FormatType.l0 k x0 (((x3 ++ (⟨#[33]⟩ : ByteArray)) ++ t153) ++ (⟨#[46]⟩ : ByteArray)) (wrap64 (x4 + 1))) else (none)) else (none)))) else (none))))))) else (none)) else (some x3)
def spec_FormatType.f (k : Nat) (l0 : List Int) : Option (ByteArray) := (spec_l2Type.f k l0).bind fun t147 => (if t147 = true then (spec_FormatType.l0 k l0 (⟨#[]⟩ : ByteArray) 0) else (some (⟨#[]⟩ : ByteArray)))
set_option maxHeartbeats 8000000 in
set_option maxRecDepth 100000 in
theorem spec_FormatType.calls (k : Nat) (A0 : Option Addr) (c0 : Nat) (l0 : List Int) (r : ByteArray) (w : World) (hr0 : Kd.C (Kd.int .i64) w A0 l0.length l0) (hc0 : l0.length ≤ c0) (h : spec_FormatType.f k l0 = some r) :
  Calls Tryd.prog 5 #[.slice A0 l0.length c0] w fun e w' => e = .returned (.string r) ∧ Below w.heap.size w w' := by
 have HR0 := sd_ hr0
 have HC0 := sd_ hc0
 clear hr0 hc0
 have HB := sd_ (Below.refl w.heap.size w)
 have H : ((spec_l2Type.f k l0).bind fun t147 => (if t147 = true then (spec_FormatType.l0 k l0 (⟨#[]⟩ : ByteArray) 0) else (some (⟨#[]⟩ : ByteArray)))) = some r := h
 clear h
 replace H := Option.bind_eq_some_iff.mp H
 obtain ⟨t147, A20, H⟩ := H
 try dsimp only at H
 have A2 := sd_ A20
 clear A20
 by_cases c3 : t147 = true
 ·subst c3
  have H1 : (spec_FormatType.l0 k l0 (⟨#[]⟩ : ByteArray) 0) = some r := by rw [if_pos rfl] at H; exact H
  clear H
  have H := H1
  clear H1
  have H' := sd_ H
  clear H
  go_enter Tryd.func5, Tryd.ntmps5
  go_wp2_with (first | ((with_reducible refine gate_callee (f := 14) rfl ?_); refine goesL_ (some 7) rfl rfl Tryd.func14 (by kernel_rfl) rfl #[.slice A0 l0.length c0] rfl la_ ?_; (with_reducible refine (spec_l2Type.calls k _ _ l0 true _ (kp_ HR0.out) HC0.out A2.out).mono ?_); rintro e w' ⟨rfl, ⟨nd, rfl⟩⟩; refine ⟨_, rfl, ?_⟩))
  go_loopg [3, 4] k (fun kq v3 v4 w' => ∃ (x3_1 : ByteArray) (x4_1 : Int), v3 = .string x3_1 ∧ v4 = .int .i64 x4_1 ∧ Aside0 (spec_FormatType.l0 kq l0 x3_1 x4_1 = some r) ∧ Aside0 (kq ≤ k) ∧ Aside0 (Below w.heap.size w w'))
  case atStart => exact ⟨((⟨#[]⟩ : ByteArray)), (0), sm_, sm_, H', ⟨Nat.le_refl _⟩, ⟨bw0_ HB.out⟩⟩
  case round =>
   clear H'
   try clear c1
   try clear p2
   try clear c3
   obtain ⟨x3_1, x4_1, rfl, rfl, HA, HK1, HB⟩ := hrel
   cases gk with
   | zero => exact absurd HA.out (by simp [spec_FormatType.l0])
   | succ k1 =>
    have H := HA.out
    clear HA
    simp only [spec_FormatType.l0] at H
    by_cases c4 : x4_1 < (l0.length : Int)
    ·rw [if_pos c4] at H
     have c4b0 : decide (x4_1 < (l0.length : Int)) = true := decide_eq_true c4
     clear c4
     by_cases c5 : 0 ≤ x4_1
     ·rw [if_pos c5] at H
      have c5b0 : decide (0 ≤ x4_1) = true := decide_eq_true c5
      clear c5
      by_cases c6 : (rd l0 x4_1) = 0
      ·rw [if_pos c6] at H
       have c6b0 : ((rd l0 x4_1) == 0) = true := beq_iff_eq.mpr c6
       have c6b1 : ((rd l0 x4_1) != 0) = false := bne_eq_false_iff_eq.mpr c6
       clear c6
       by_cases c7 : x3_1.size + 1 ≤ 9223372036854775807
       ·rw [if_pos c7] at H
        have c7b0 := eq_true c7
        have c7b1 : decide (x3_1.size + 1 ≤ 9223372036854775807) = true := decide_eq_true c7
        try have c7b2 : (9223372036854775807 < x3_1.size + 1) = False := eq_false (Nat.not_lt.2 c7)
        have H' := sd_ H
        clear H
        have p148 : 0 ≤ (x4_1 : Int) := dt_
        have q148 : x4_1 < (l0.length : Int) := dt_
        obtain ⟨ad148, e148, hx148_0⟩ := Kd.at_int HR0.out x4_1 p148 q148
        cases e148
        replace hx148_0 := (HB.out.cell (World.block_lt_of_cell? w _ hx148_0)).trans hx148_0
        replace p148 := eq_true p148
        replace q148 := eq_true q148
        go_wp2
        go_roundg k1
        case measure => have := HK1.out; omega
        case rel => exact ⟨(x3_1 ++ (⟨#[110]⟩ : ByteArray)), (wrap64 (x4_1 + 1)), sm_, sm_, H', ⟨by have := HK1.out; omega⟩, ⟨bw0_ HB.out⟩⟩
       rw [if_neg c7] at H
       exact absurd H (by simp)
      rw [if_neg c6] at H
      have c6b0 : ((rd l0 x4_1) == 0) = false := beq_eq_false_iff_ne.mpr c6
      have c6b1 : ((rd l0 x4_1) != 0) = true := bne_iff_ne.mpr c6
      by_cases c8 : (rd l0 x4_1) = 1
      ·rw [if_pos c8] at H
       have c8b0 : ((rd l0 x4_1) == 1) = true := beq_iff_eq.mpr c8
       have c8b1 : ((rd l0 x4_1) != 1) = false := bne_eq_false_iff_eq.mpr c8
       clear c8
       by_cases c9 : x3_1.size + 1 ≤ 9223372036854775807
       ·rw [if_pos c9] at H
        have c9b0 := eq_true c9
        have c9b1 : decide (x3_1.size + 1 ≤ 9223372036854775807) = true := decide_eq_true c9
        try have c9b2 : (9223372036854775807 < x3_1.size + 1) = False := eq_false (Nat.not_lt.2 c9)
        have H' := sd_ H
        clear H
        have p148 : 0 ≤ (x4_1 : Int) := dt_
        have q148 : x4_1 < (l0.length : Int) := dt_
        obtain ⟨ad148, e148, hx148_0⟩ := Kd.at_int HR0.out x4_1 p148 q148
        cases e148
        replace hx148_0 := (HB.out.cell (World.block_lt_of_cell? w _ hx148_0)).trans hx148_0
        replace p148 := eq_true p148
        replace q148 := eq_true q148
        go_wp2
        go_roundg k1
        case measure => have := HK1.out; omega
        case rel => exact ⟨(x3_1 ++ (⟨#[42]⟩ : ByteArray)), (wrap64 (x4_1 + 1)), sm_, sm_, H', ⟨by have := HK1.out; omega⟩, ⟨bw0_ HB.out⟩⟩
       rw [if_neg c9] at H
       exact absurd H (by simp)
      rw [if_neg c8] at H
      have c8b0 : ((rd l0 x4_1) == 1) = false := beq_eq_false_iff_ne.mpr c8
      have c8b1 : ((rd l0 x4_1) != 1) = true := bne_iff_ne.mpr c8
      by_cases c10 : (rd l0 x4_1) = 2
      ·rw [if_pos c10] at H
       have c10b0 : ((rd l0 x4_1) == 2) = true := beq_iff_eq.mpr c10
       have c10b1 : ((rd l0 x4_1) != 2) = false := bne_eq_false_iff_eq.mpr c10
       clear c10
       by_cases c11 : x3_1.size + 1 ≤ 9223372036854775807
       ·rw [if_pos c11] at H
        have c11b0 := eq_true c11
        have c11b1 : decide (x3_1.size + 1 ≤ 9223372036854775807) = true := decide_eq_true c11
        try have c11b2 : (9223372036854775807 < x3_1.size + 1) = False := eq_false (Nat.not_lt.2 c11)
        have H' := sd_ H
        clear H
        have p148 : 0 ≤ (x4_1 : Int) := dt_
        have q148 : x4_1 < (l0.length : Int) := dt_
        obtain ⟨ad148, e148, hx148_0⟩ := Kd.at_int HR0.out x4_1 p148 q148
        cases e148
        replace hx148_0 := (HB.out.cell (World.block_lt_of_cell? w _ hx148_0)).trans hx148_0
        replace p148 := eq_true p148
        replace q148 := eq_true q148
        go_wp2
        go_roundg k1
        case measure => have := HK1.out; omega
        case rel => exact ⟨(x3_1 ++ (⟨#[43]⟩ : ByteArray)), (wrap64 (x4_1 + 1)), sm_, sm_, H', ⟨by have := HK1.out; omega⟩, ⟨bw0_ HB.out⟩⟩
       rw [if_neg c11] at H
       exact absurd H (by simp)
      rw [if_neg c10] at H
      have c10b0 : ((rd l0 x4_1) == 2) = false := beq_eq_false_iff_ne.mpr c10
      have c10b1 : ((rd l0 x4_1) != 2) = true := bne_iff_ne.mpr c10
      replace H := Option.bind_eq_some_iff.mp H
      obtain ⟨t149, A120, H⟩ := H
      try dsimp only at H
      have A12 := sd_ A120
      clear A120
      by_cases c13 : t149 = true
      ·subst c13
       have H1 : (if x3_1.size + 1 ≤ 9223372036854775807 then ((spec_l2Grade.f (rd l0 x4_1)).bind fun t150 => ((spec_l2GradeText.f k1 t150).bind fun t151 => (if (x3_1 ++ (⟨#[62]⟩ : ByteArray)).size + t151.size ≤ 9223372036854775807 then (if ((x3_1 ++ (⟨#[62]⟩ : ByteArray)) ++ t151).size + 1 ≤ 9223372036854775807 then (spec_FormatType.l0 k1 l0 (((x3_1 ++ (⟨#[62]⟩ : ByteArray)) ++ t151) ++ (⟨#[46]⟩ : ByteArray)) (wrap64 (x4_1 + 1))) else (none)) else (none)))) else (none)) = some r := by rw [if_pos rfl] at H; exact H
       clear H
       have H := H1
       clear H1
       by_cases c14 : x3_1.size + 1 ≤ 9223372036854775807
       ·rw [if_pos c14] at H
        have c14b0 := eq_true c14
        have c14b1 : decide (x3_1.size + 1 ≤ 9223372036854775807) = true := decide_eq_true c14
        try have c14b2 : (9223372036854775807 < x3_1.size + 1) = False := eq_false (Nat.not_lt.2 c14)
        replace H := Option.bind_eq_some_iff.mp H
        obtain ⟨t150, A150, H⟩ := H
        try dsimp only at H
        have A15 := sd_ A150
        clear A150
        replace H := Option.bind_eq_some_iff.mp H
        obtain ⟨t151, A160, H⟩ := H
        try dsimp only at H
        have A16 := sd_ A160
        clear A160
        by_cases c17 : (x3_1 ++ (⟨#[62]⟩ : ByteArray)).size + t151.size ≤ 9223372036854775807
        ·rw [if_pos c17] at H
         have c17b0 := eq_true c17
         have c17b1 : decide ((x3_1 ++ (⟨#[62]⟩ : ByteArray)).size + t151.size ≤ 9223372036854775807) = true := decide_eq_true c17
         try have c17b2 : (9223372036854775807 < (x3_1 ++ (⟨#[62]⟩ : ByteArray)).size + t151.size) = False := eq_false (Nat.not_lt.2 c17)
         have c17b3 := eq_false (Nat.not_lt.2 c17)
         simp only [ByteArray.size_append, show (⟨#[62]⟩ : ByteArray).size = 1 from rfl] at c17b3
         by_cases c18 : ((x3_1 ++ (⟨#[62]⟩ : ByteArray)) ++ t151).size + 1 ≤ 9223372036854775807
         ·rw [if_pos c18] at H
          have c18b0 := eq_true c18
          have c18b1 : decide (((x3_1 ++ (⟨#[62]⟩ : ByteArray)) ++ t151).size + 1 ≤ 9223372036854775807) = true := decide_eq_true c18
          try have c18b2 : (9223372036854775807 < ((x3_1 ++ (⟨#[62]⟩ : ByteArray)) ++ t151).size + 1) = False := eq_false (Nat.not_lt.2 c18)
          have c18b3 := eq_false (Nat.not_lt.2 c18)
          simp only [ByteArray.size_append, show (⟨#[62]⟩ : ByteArray).size = 1 from rfl] at c18b3
          have H' := sd_ H
          clear H
          have p148 : 0 ≤ (x4_1 : Int) := dt_
          have q148 : x4_1 < (l0.length : Int) := dt_
          obtain ⟨ad148, e148, hx148_0⟩ := Kd.at_int HR0.out x4_1 p148 q148
          cases e148
          replace hx148_0 := (HB.out.cell (World.block_lt_of_cell? w _ hx148_0)).trans hx148_0
          replace p148 := eq_true p148
          replace q148 := eq_true q148
          go_wp2_with (first | ((with_reducible refine gate_callee (f := 15) rfl ?_); refine goesL_ (some 43) rfl rfl Tryd.func15 (by kernel_rfl) rfl #[.int .i64 (rd l0 x4_1)] rfl la_ ?_; (with_reducible refine (spec_l2Arrow.calls (rd l0 x4_1) true _ A12.out).mono ?_); rintro e w' ⟨rfl, ⟨nd, rfl⟩⟩; refine ⟨_, rfl, ?_⟩) | ((with_reducible refine gate_callee (f := 17) rfl ?_); refine goesL_ (some 47) rfl rfl Tryd.func17 (by kernel_rfl) rfl #[.int .i64 (rd l0 x4_1)] rfl la_ ?_; (with_reducible refine (spec_l2Grade.calls (rd l0 x4_1) t150 _ A15.out).mono ?_); rintro e w' ⟨rfl, ⟨nd, rfl⟩⟩; refine ⟨_, rfl, ?_⟩) | ((with_reducible refine gate_callee (f := 16) rfl ?_); refine goesL_ (some 48) rfl rfl Tryd.func16 (by kernel_rfl) rfl #[.int .i64 t150] rfl la_ ?_; (with_reducible refine (spec_l2GradeText.calls k1 t150 t151 _ A16.out).mono ?_); rintro e w19 ⟨rfl, hb⟩; refine ⟨_, rfl, ?_⟩; have n0_ := sd_ (below_step (bw0_ HB.out) hb); clear HB; have HB := n0_; clear n0_))
          go_roundg k1
          case measure => have := HK1.out; omega
          case rel => exact ⟨(((x3_1 ++ (⟨#[62]⟩ : ByteArray)) ++ t151) ++ (⟨#[46]⟩ : ByteArray)), (wrap64 (x4_1 + 1)), sm_, sm_, H', ⟨by have := HK1.out; omega⟩, ⟨bw0_ HB.out⟩⟩
         rw [if_neg c18] at H
         exact absurd H (by simp)
        rw [if_neg c17] at H
        exact absurd H (by simp)
       rw [if_neg c14] at H
       exact absurd H (by simp)
      replace c13 := Bool.eq_false_iff.mpr c13
      subst c13
      have H1 : (if x3_1.size + 1 ≤ 9223372036854775807 then ((spec_l2Grade.f (rd l0 x4_1)).bind fun t152 => ((spec_l2GradeText.f k1 t152).bind fun t153 => (if (x3_1 ++ (⟨#[33]⟩ : ByteArray)).size + t153.size ≤ 9223372036854775807 then (if ((x3_1 ++ (⟨#[33]⟩ : ByteArray)) ++ t153).size + 1 ≤ 9223372036854775807 then (spec_FormatType.l0 k1 l0 (((x3_1 ++ (⟨#[33]⟩ : ByteArray)) ++ t153) ++ (⟨#[46]⟩ : ByteArray)) (wrap64 (x4_1 + 1))) else (none)) else (none)))) else (none)) = some r := by rw [if_neg (show ¬ (false = true) by decide)] at H; exact H
      clear H
      have H := H1
      clear H1
      by_cases c20 : x3_1.size + 1 ≤ 9223372036854775807
      ·rw [if_pos c20] at H
       have c20b0 := eq_true c20
       have c20b1 : decide (x3_1.size + 1 ≤ 9223372036854775807) = true := decide_eq_true c20
       try have c20b2 : (9223372036854775807 < x3_1.size + 1) = False := eq_false (Nat.not_lt.2 c20)
       replace H := Option.bind_eq_some_iff.mp H
       obtain ⟨t152, A210, H⟩ := H
       try dsimp only at H
       have A21 := sd_ A210
       clear A210
       replace H := Option.bind_eq_some_iff.mp H
       obtain ⟨t153, A220, H⟩ := H
       try dsimp only at H
       have A22 := sd_ A220
       clear A220
       by_cases c23 : (x3_1 ++ (⟨#[33]⟩ : ByteArray)).size + t153.size ≤ 9223372036854775807
       ·rw [if_pos c23] at H
        have c23b0 := eq_true c23
        have c23b1 : decide ((x3_1 ++ (⟨#[33]⟩ : ByteArray)).size + t153.size ≤ 9223372036854775807) = true := decide_eq_true c23
        try have c23b2 : (9223372036854775807 < (x3_1 ++ (⟨#[33]⟩ : ByteArray)).size + t153.size) = False := eq_false (Nat.not_lt.2 c23)
        have c23b3 := eq_false (Nat.not_lt.2 c23)
        simp only [ByteArray.size_append, show (⟨#[33]⟩ : ByteArray).size = 1 from rfl] at c23b3
        by_cases c24 : ((x3_1 ++ (⟨#[33]⟩ : ByteArray)) ++ t153).size + 1 ≤ 9223372036854775807
        ·rw [if_pos c24] at H
         have c24b0 := eq_true c24
         have c24b1 : decide (((x3_1 ++ (⟨#[33]⟩ : ByteArray)) ++ t153).size + 1 ≤ 9223372036854775807) = true := decide_eq_true c24
         try have c24b2 : (9223372036854775807 < ((x3_1 ++ (⟨#[33]⟩ : ByteArray)) ++ t153).size + 1) = False := eq_false (Nat.not_lt.2 c24)
         have c24b3 := eq_false (Nat.not_lt.2 c24)
         simp only [ByteArray.size_append, show (⟨#[33]⟩ : ByteArray).size = 1 from rfl] at c24b3
         have H' := sd_ H
         clear H
         have p148 : 0 ≤ (x4_1 : Int) := dt_
         have q148 : x4_1 < (l0.length : Int) := dt_
         obtain ⟨ad148, e148, hx148_0⟩ := Kd.at_int HR0.out x4_1 p148 q148
         cases e148
         replace hx148_0 := (HB.out.cell (World.block_lt_of_cell? w _ hx148_0)).trans hx148_0
         replace p148 := eq_true p148
         replace q148 := eq_true q148
         go_wp2_with (first | ((with_reducible refine gate_callee (f := 15) rfl ?_); refine goesL_ (some 43) rfl rfl Tryd.func15 (by kernel_rfl) rfl #[.int .i64 (rd l0 x4_1)] rfl la_ ?_; (with_reducible refine (spec_l2Arrow.calls (rd l0 x4_1) false _ A12.out).mono ?_); rintro e w' ⟨rfl, ⟨nd, rfl⟩⟩; refine ⟨_, rfl, ?_⟩) | ((with_reducible refine gate_callee (f := 17) rfl ?_); refine goesL_ (some 22) rfl rfl Tryd.func17 (by kernel_rfl) rfl #[.int .i64 (rd l0 x4_1)] rfl la_ ?_; (with_reducible refine (spec_l2Grade.calls (rd l0 x4_1) t152 _ A21.out).mono ?_); rintro e w' ⟨rfl, ⟨nd, rfl⟩⟩; refine ⟨_, rfl, ?_⟩) | ((with_reducible refine gate_callee (f := 16) rfl ?_); refine goesL_ (some 23) rfl rfl Tryd.func16 (by kernel_rfl) rfl #[.int .i64 t152] rfl la_ ?_; (with_reducible refine (spec_l2GradeText.calls k1 t152 t153 _ A22.out).mono ?_); rintro e w25 ⟨rfl, hb⟩; refine ⟨_, rfl, ?_⟩; have n0_ := sd_ (below_step (bw0_ HB.out) hb); clear HB; have HB := n0_; clear n0_))
         go_roundg k1
         case measure => have := HK1.out; omega
         case rel => exact ⟨(((x3_1 ++ (⟨#[33]⟩ : ByteArray)) ++ t153) ++ (⟨#[46]⟩ : ByteArray)), (wrap64 (x4_1 + 1)), sm_, sm_, H', ⟨by have := HK1.out; omega⟩, ⟨bw0_ HB.out⟩⟩
        rw [if_neg c24] at H
        exact absurd H (by simp)
       rw [if_neg c23] at H
       exact absurd H (by simp)
      rw [if_neg c20] at H
      exact absurd H (by simp)
     rw [if_neg c5] at H
     exact absurd H (by simp)
    rw [if_neg c4] at H
    have c4b0 : decide (x4_1 < (l0.length : Int)) = false := decide_eq_false c4
    clear c4
    obtain rfl := Option.some.inj H
    go_wp2
    go_ret
    exact ⟨an_, bw0_ HB.out⟩
 replace c3 := Bool.eq_false_iff.mpr c3
 subst c3
 have H1 : (some (⟨#[]⟩ : ByteArray)) = some r := by rw [if_neg (show ¬ (false = true) by decide)] at H; exact H
 clear H
 have H := H1
 clear H1
 obtain rfl := Option.some.inj H
 go_enter Tryd.func5, Tryd.ntmps5
 go_wp2_with (first | ((with_reducible refine gate_callee (f := 14) rfl ?_); refine goesL_ (some 7) rfl rfl Tryd.func14 (by kernel_rfl) rfl #[.slice A0 l0.length c0] rfl la_ ?_; (with_reducible refine (spec_l2Type.calls k _ _ l0 false _ (kp_ HR0.out) HC0.out A2.out).mono ?_); rintro e w' ⟨rfl, ⟨nd, rfl⟩⟩; refine ⟨_, rfl, ?_⟩))
 go_ret
 exact ⟨an_, bw0_ HB.out⟩

end Go.Proofs.YtlhiacnmcckjgaaDoor.P
end

section
/- Texts of grades and of types. -/
set_option linter.unusedSimpArgs false
set_option linter.unusedVariables false
namespace Go.Proofs.YtlhiacnmcckjgaaDoor.Pure
open Go.RowKit Go.Proofs.YtlhiacnmcckjgaaDoor.P Go.Proofs.YtlhiacnmcckjgaaDoorW.PrintWords Go.Proofs.YtlhiacnmcckjgaaDoorW.PrintLast
theorem str_one (n : Nat) (h : n < 10) : strOfNums [(wrap64 (48 + Int.tmod (n : Int) 10)) % 256] = (⟨[UInt8.ofNat (48 + n)].toArray⟩ : ByteArray) := by
  have e : (wrap64 (48 + Int.tmod (n : Int) 10)) % 256 = (((UInt8.ofNat (48 + n)).toNat : Nat) : Int) := by
    have h1 : Int.tmod (n : Int) 10 = (n : Int) := by rw [Int.tmod_eq_emod_of_nonneg (by omega)]; omega
    rw [h1, w64 (by omega) (by omega)]
    have : (UInt8.ofNat (48 + n)).toNat = 48 + n := by rw [UInt8.toNat_ofNat']; omega
    rw [this]; omega
  rw [e]
  exact Go.Lib.Lz.strOfNums_map [UInt8.ofNat (48 + n)]
theorem decimalE : ∀ (n : Nat), n ≤ 1048576 → Ev (fun k => spec_l1Decimal.f k (n : Int)) (⟨(Go.Lib.decDigits n).toArray⟩ : ByteArray) ∧ (Go.Lib.decDigits n).length ≤ n + 1 := by
  intro n
  induction n using Nat.strongRecOn with
  | _ n ih =>
  intro hn
  by_cases c : n < 10
  · have e : Go.Lib.decDigits n = [UInt8.ofNat (48 + n)] := by rw [Go.Lib.decDigits, dif_pos c]
    rw [e]
    refine ⟨Ev.step (f := fun _ => some (⟨[UInt8.ofNat (48 + n)].toArray⟩ : ByteArray)) (fun k => ?_) (Ev.now _), by simp⟩
    simp only [spec_l1Decimal.f, Option.bind_some]
    rw [if_neg (by omega), str_one n c]
  · obtain ⟨E, hs⟩ := ih (n / 10) (by omega) (by omega)
    have e : Go.Lib.decDigits n = Go.Lib.decDigits (n / 10) ++ [UInt8.ofNat (48 + n % 10)] := by rw [Go.Lib.decDigits, dif_neg c]
    rw [e]
    refine ⟨Ev.step (f := fun k => (spec_l1Decimal.f k ((n / 10 : Nat) : Int)).bind fun t => some (t ++ (⟨[UInt8.ofNat (48 + n % 10)].toArray⟩ : ByteArray))) (fun k => ?_) ?_, by rw [List.length_append, List.length_singleton]; omega⟩
    · simp only [spec_l1Decimal.f, Option.bind_some]
      have hm : Int.tmod (n : Int) 10 = Int.tmod ((n % 10 : Nat) : Int) 10 := by rw [Int.tmod_eq_emod_of_nonneg (by omega), Int.tmod_eq_emod_of_nonneg (by omega)]; omega
      have hd : wrap64 (Int.tdiv (n : Int) 10) = ((n / 10 : Nat) : Int) := by rw [Int.tdiv_eq_ediv_of_nonneg (by omega), w64 (by omega) (by omega)]; omega
      rw [if_pos (by omega), hm, str_one (n % 10) (by omega), hd]
      cases c2 : spec_l1Decimal.f k ((n / 10 : Nat) : Int) with
      | none => rfl
      | some t =>
        simp only [Option.bind_some]
        have ht : t = (⟨(Go.Lib.decDigits (n / 10)).toArray⟩ : ByteArray) := by
          obtain ⟨K, hK⟩ := E
          have mono : ∀ (k : Nat) (a : Int) (r : ByteArray), spec_l1Decimal.f k a = some r → spec_l1Decimal.f (k + 1) a = some r := by
            intro k
            induction k with
            | zero => intro a r h; cases h
            | succ k ih2 =>
              intro a r h
              simp only [spec_l1Decimal.f, Option.bind_some] at h ⊢
              by_cases q : a ≥ 10
              · rw [if_pos q] at h ⊢
                obtain ⟨t1, h1, h2⟩ := Option.bind_eq_some_iff.mp h
                have h3 := ih2 _ _ h1
                simp only [spec_l1Decimal.f, Option.bind_some] at h3
                rw [h3, Option.bind_some]
                exact h2
              · rw [if_neg q] at h ⊢; exact h
          have up : ∀ j, spec_l1Decimal.f (k + j) ((n / 10 : Nat) : Int) = some t := by
            intro j
            induction j with
            | zero => exact c2
            | succ j ihj => exact mono _ _ _ ihj
          have := up K
          have h2 : spec_l1Decimal.f (k + K) ((n / 10 : Nat) : Int) = some _ := hK (k + K) (by omega)
          rw [h2] at this
          exact (Option.some.inj this).symm
        have sz : t.size ≤ 1048577 := by rw [ht]; show (Go.Lib.decDigits (n / 10)).toArray.size ≤ _; rw [List.size_toArray]; omega
        have s1 : (⟨[UInt8.ofNat (48 + n % 10)].toArray⟩ : ByteArray).size = 1 := rfl
        rw [if_pos (by rw [s1]; omega)]
    · refine Ev.bind E ?_
      have app : (⟨(Go.Lib.decDigits (n / 10)).toArray⟩ : ByteArray) ++ (⟨[UInt8.ofNat (48 + n % 10)].toArray⟩ : ByteArray) = (⟨(Go.Lib.decDigits (n / 10) ++ [UInt8.ofNat (48 + n % 10)]).toArray⟩ : ByteArray) := by
        apply ByteArray.ext; simp [ByteArray.data_append]
      rw [app]
      exact Ev.now _
def gtext (g : Int) : ByteArray := if g < 0 then (⟨#[63]⟩ : ByteArray) else (⟨(Go.Lib.decDigits g.toNat).toArray⟩ : ByteArray)
theorem gtext_size {g : Int} (h1 : -1 ≤ g) (h2 : g ≤ 15) : (gtext g).size ≤ 17 := by
  unfold gtext
  split
  · decide
  · have := (decimalE g.toNat (by omega)).2
    show (Go.Lib.decDigits g.toNat).toArray.size ≤ _
    rw [List.size_toArray]; omega
theorem specGrade {g : Int} (h1 : -1 ≤ g) (h2 : g ≤ 15) : Ev (fun k => spec_l2GradeText.f k g) (gtext g) := by
  unfold spec_l2GradeText.f gtext
  by_cases c : g < 0
  · simp only [if_pos c]; exact Ev.now _
  · simp only [if_neg c, Option.bind_fun_some]
    obtain ⟨n, rfl⟩ := Int.eq_ofNat_of_zero_le (show 0 ≤ g by omega)
    exact (decimalE n (by omega)).1
theorem implGrade {g : Int} (h1 : -1 ≤ g) (h2 : g ≤ 15) : impl_gradeText.f g = some (gtext g) := by
  unfold impl_gradeText.f gtext
  by_cases c : g < 0
  · simp only [if_pos c]
  · have : ∀ x, strconv_Itoa_43.f x = if 0 ≤ x then (if x < 100 then some (⟨(Go.Lib.decDigits x.toNat).toArray⟩ : ByteArray) else none) else none := fun _ => rfl
    rw [if_neg c, if_neg c, this, if_pos (by omega), if_pos (by omega), Option.bind_some]
/-- The text of a code. -/
def ctext (c : Int) : ByteArray := if c = 0 then (⟨#[110]⟩ : ByteArray) else if c = 1 then (⟨#[42]⟩ : ByteArray) else if c = 2 then (⟨#[43]⟩ : ByteArray) else if (3 ≤ c ∧ c ≤ 18) ∨ c = 35 then ((⟨#[62]⟩ : ByteArray) ++ gtext (shapeV c).2) ++ (⟨#[46]⟩ : ByteArray) else ((⟨#[33]⟩ : ByteArray) ++ gtext (shapeV c).2) ++ (⟨#[46]⟩ : ByteArray)
theorem kids_code {c : Int} (h : 0 ≤ kidsV c) : 0 ≤ c ∧ c ≤ 36 := by unfold kidsV at h; repeat' split at h <;> omega
theorem shape_grade {c : Int} (h : 0 ≤ kidsV c) : -1 ≤ (shapeV c).2 ∧ (shapeV c).2 ≤ 15 := by
  have := kids_code h
  unfold shapeV; repeat' split
  all_goals (simp; try omega)
theorem ctext_size {c : Int} (h : 0 ≤ kidsV c) : (ctext c).size ≤ 19 := by
  have g := gtext_size (shape_grade h).1 (shape_grade h).2
  unfold ctext
  repeat' split
  all_goals first | decide | (rw [ByteArray.size_append, ByteArray.size_append]; have e1 : (⟨#[62]⟩ : ByteArray).size = 1 := rfl; have e2 : (⟨#[46]⟩ : ByteArray).size = 1 := rfl; have e3 : (⟨#[33]⟩ : ByteArray).size = 1 := rfl; omega)
theorem implCode {c : Int} (h : 0 ≤ kidsV c) : impl_codeText.f c = some (ctext c) := by
  have hc := kids_code h
  have hg := shape_grade h
  have g := gtext_size hg.1 hg.2
  have e1 : (⟨#[62]⟩ : ByteArray).size = 1 := rfl
  have e2 : (⟨#[33]⟩ : ByteArray).size = 1 := rfl
  have b1 : 1 + (gtext (shapeV c).2).size ≤ 9223372036854775807 := by omega
  have b2 : ((⟨#[62]⟩ : ByteArray) ++ gtext (shapeV c).2).size + 1 ≤ 9223372036854775807 := by rw [ByteArray.size_append, e1]; omega
  have b3 : ((⟨#[33]⟩ : ByteArray) ++ gtext (shapeV c).2).size + 1 ≤ 9223372036854775807 := by rw [ByteArray.size_append, e2]; omega
  unfold impl_codeText.f
  rw [shape_eq, Option.bind_some, implGrade hg.1 hg.2]
  simp only [Option.bind_some, if_pos b1, if_pos b2, if_pos b3]
  unfold ctext
  by_cases c0 : c = 0
  · subst c0; rfl
  by_cases c1 : c = 1
  · subst c1; rfl
  by_cases c2 : c = 2
  · subst c2; rfl
  rw [if_neg c0, if_neg c1, if_neg c2]
  by_cases c3 : (3 ≤ c ∧ c ≤ 18) ∨ c = 35
  · have s : (shapeV c).1 = 3 := by
      unfold shapeV
      rw [if_neg (by omega)]
      by_cases q : 3 ≤ c ∧ c ≤ 18
      · rw [if_pos q]
      · rw [if_neg q, if_neg (by omega), if_pos (by omega)]
    rw [if_pos c3, s]; rfl
  · have s : (shapeV c).1 = 4 := by
      unfold shapeV; rw [if_neg (by omega), if_neg (by omega)]
      by_cases c4 : 19 ≤ c ∧ c ≤ 34
      · rw [if_pos c4]
      · rw [if_neg c4, if_neg (by omega), if_pos (by omega)]
    rw [if_neg c3, s]; rfl
/-- The text of m codes from place i on. -/
def ttext (xs : List Int) : Nat → Int → ByteArray
  | 0, _ => (⟨#[]⟩ : ByteArray)
  | m + 1, i => ctext (rd xs i) ++ ttext xs m (i + 1)
theorem nil_app (a : ByteArray) : a ++ (⟨#[]⟩ : ByteArray) = a := ByteArray.append_empty
theorem app_nil (a : ByteArray) : (⟨#[]⟩ : ByteArray) ++ a = a := ByteArray.empty_append
theorem eat_kids (xs : List Int) : ∀ (m : Nat) (d i : Int), 0 ≤ i → eat xs m d i ≠ -1 → ∀ j, i ≤ j → j < eat xs m d i → 0 ≤ kidsV (rd xs j)
  | 0, d, i, h, he, j, h1, h2 => absurd rfl he
  | m + 1, d, i, h, he, j, h1, h2 => by
    unfold eat at he h2
    by_cases c : kidsV (rd xs i) < 0
    · rw [if_pos c] at he; exact absurd rfl he
    · rw [if_neg c] at he h2
      by_cases q : j = i
      · rw [q]; omega
      · by_cases c1 : d - 1 + kidsV (rd xs i) = 0
        · rw [if_pos c1] at h2; omega
        · rw [if_neg c1] at he h2
          exact eat_kids xs m _ (i + 1) (by omega) he j (by omega) h2
theorem written_kids {xs : List Int} (h : writtenV xs = true) : 1 ≤ xs.length ∧ xs.length ≤ 40 ∧ ∀ j : Int, 0 ≤ j → j < xs.length → 0 ≤ kidsV (rd xs j) := by
  unfold writtenV at h
  rw [Bool.and_eq_true, decide_eq_true_eq, inV_iff] at h
  refine ⟨by omega, by omega, fun j h1 h2 => eat_kids xs xs.length 1 0 (by omega) (by rw [h.2]; omega) j h1 (by rw [h.2]; exact h2)⟩
theorem ttext_size (xs : List Int) : ∀ (m : Nat) (i : Int), 0 ≤ i → i + m ≤ xs.length → (∀ j : Int, 0 ≤ j → j < xs.length → 0 ≤ kidsV (rd xs j)) → (ttext xs m i).size ≤ 19 * m
  | 0, i, _, _, _ => Nat.le_refl _
  | m + 1, i, h0, h1, h => by
    have a := ctext_size (h i h0 (by omega))
    have b := ttext_size xs m (i + 1) (by omega) (by omega) h
    unfold ttext; rw [ByteArray.size_append]; omega
theorem specText {xs : List Int} (hl : xs.length ≤ 40) (hk : ∀ j : Int, 0 ≤ j → j < xs.length → 0 ≤ kidsV (rd xs j)) : ∀ (m : Nat) (acc : ByteArray) (i : Int), 0 ≤ i → i + m = xs.length → (acc.size : Int) ≤ 19 * i → Ev (fun k => spec_FormatType.l0 k xs acc i) (acc ++ ttext xs m i)
  | 0, acc, i, h0, h1, ha => by
    rw [show ttext xs 0 i = (⟨#[]⟩ : ByteArray) from rfl, nil_app]
    refine Ev.step (f := fun _ => some acc) (fun k => ?_) (Ev.now _)
    simp only [spec_FormatType.l0]; rw [if_neg (by omega)]
  | m + 1, acc, i, h0, h1, ha => by
    have i1 : i < (xs.length : Int) := by omega
    have hc := hk i h0 i1
    have cc := kids_code hc
    have hg := shape_grade hc
    have gs := gtext_size hg.1 hg.2
    have cs := ctext_size hc
    have ih := specText hl hk m (acc ++ ctext (rd xs i)) (i + 1) (by omega) (by omega) (by rw [ByteArray.size_append]; omega)
    have sg := specGrade hg.1 hg.2
    have up : wrap64 (i + 1) = i + 1 := w64 (by omega) (by omega)
    rw [show acc ++ ttext xs (m + 1) i = (acc ++ ctext (rd xs i)) ++ ttext xs m (i + 1) from by rw [show ttext xs (m + 1) i = ctext (rd xs i) ++ ttext xs m (i + 1) from rfl, ByteArray.append_assoc]]
    obtain ⟨K, hK⟩ := ih
    obtain ⟨G, hG⟩ := sg
    have e62 : (⟨#[62]⟩ : ByteArray).size = 1 := rfl
    have e33 : (⟨#[33]⟩ : ByteArray).size = 1 := rfl
    refine ⟨K + G + 1, fun k hk2 => ?_⟩
    obtain ⟨k, rfl⟩ : ∃ q, k = q + 1 := ⟨k - 1, by omega⟩
    have hK' : spec_FormatType.l0 k xs (acc ++ ctext (rd xs i)) (i + 1) = some ((acc ++ ctext (rd xs i)) ++ ttext xs m (i + 1)) := hK k (by omega)
    have hG' : spec_l2GradeText.f k (shapeV (rd xs i)).2 = some (gtext (shapeV (rd xs i)).2) := hG k (by omega)
    rw [← hK']
    show spec_FormatType.l0 (k + 1) xs acc i = _
    simp only [spec_FormatType.l0]
    have b0 : acc.size + 1 ≤ 9223372036854775807 := by omega
    simp only [if_pos i1, if_pos h0, up, if_pos b0]
    generalize hx : rd xs i = c at *
    unfold ctext
    by_cases c0 : c = 0
    · rw [if_pos c0, if_pos c0]
    rw [if_neg c0, if_neg c0]
    by_cases c1 : c = 1
    · rw [if_pos c1, if_pos c1]
    rw [if_neg c1, if_neg c1]
    by_cases c2 : c = 2
    · rw [if_pos c2, if_pos c2]
    rw [if_neg c2, if_neg c2]
    have lg : spec_l2Grade.f c = some (shapeV c).2 := by
      unfold spec_l2Grade.f shapeV
      rw [if_neg (show ¬ (0 ≤ c ∧ c ≤ 2) by omega)]
      by_cases q : c ≥ 35
      · rw [if_pos q, if_neg (by omega), if_neg (by omega)]
        by_cases q1 : c = 35
        · rw [if_pos q1]
        · rw [if_neg q1, if_pos (by omega)]
      · rw [if_neg q]
        by_cases q1 : c ≥ 19
        · rw [if_pos q1, if_neg (by omega), if_pos (by omega), w64 (by omega) (by omega)]
        · rw [if_neg q1, if_pos (by omega), w64 (by omega) (by omega)]
    have la : spec_l2Arrow.f c = some (decide ((3 ≤ c ∧ c ≤ 18) ∨ c = 35)) := by
      unfold spec_l2Arrow.f
      rw [in_eq, Option.bind_some]
      by_cases q : 3 ≤ c ∧ c ≤ 18
      · rw [(inV_iff _ _ _).mpr q, if_pos rfl, decide_eq_true (Or.inl q)]
      · have e : inV c 3 18 = false := by rw [Bool.eq_false_iff]; exact fun hh => q ((inV_iff _ _ _).mp hh)
        rw [e, if_neg (by decide)]
        by_cases q1 : c = 35
        · rw [decide_eq_true (Or.inr q1), beq_iff_eq.mpr q1]
        · rw [decide_eq_false (by rintro (h | h); exact q h; exact q1 h), beq_eq_false_iff_ne.mpr q1]
    have z1 : ∀ a : ByteArray, a.size = 1 → (acc ++ a).size = acc.size + 1 := fun a h => by rw [ByteArray.size_append, h]
    have b4 : (acc ++ (⟨#[62]⟩ : ByteArray)).size + (gtext (shapeV c).2).size ≤ 9223372036854775807 := by rw [z1 _ e62]; omega
    have b5 : ((acc ++ (⟨#[62]⟩ : ByteArray)) ++ gtext (shapeV c).2).size + 1 ≤ 9223372036854775807 := by rw [ByteArray.size_append, z1 _ e62]; omega
    have b6 : (acc ++ (⟨#[33]⟩ : ByteArray)).size + (gtext (shapeV c).2).size ≤ 9223372036854775807 := by rw [z1 _ e33]; omega
    have b7 : ((acc ++ (⟨#[33]⟩ : ByteArray)) ++ gtext (shapeV c).2).size + 1 ≤ 9223372036854775807 := by rw [ByteArray.size_append, z1 _ e33]; omega
    simp only [la, lg, hG', Option.bind_some, if_pos b4, if_pos b5, if_pos b6, if_pos b7]
    by_cases c3 : (3 ≤ c ∧ c ≤ 18) ∨ c = 35
    · rw [if_pos (decide_eq_true c3), if_pos c3]
      simp only [ByteArray.append_assoc]
    · rw [if_neg (by rw [decide_eq_false c3]; decide), if_neg c3]
      simp only [ByteArray.append_assoc]
theorem implText {xs : List Int} (hl : xs.length ≤ 40) (hk : ∀ j : Int, 0 ≤ j → j < xs.length → 0 ≤ kidsV (rd xs j)) : ∀ (m : Nat) (acc : ByteArray) (i : Int), 0 ≤ i → i + m = xs.length → (acc.size : Int) ≤ 19 * i → Ev (fun k => impl_typeText.l0 k xs acc i) (acc ++ ttext xs m i)
  | 0, acc, i, h0, h1, ha => by
    rw [show ttext xs 0 i = (⟨#[]⟩ : ByteArray) from rfl, nil_app]
    refine Ev.step (f := fun _ => some acc) (fun k => ?_) (Ev.now _)
    simp only [impl_typeText.l0]; rw [if_neg (by omega)]
  | m + 1, acc, i, h0, h1, ha => by
    have i1 : i < (xs.length : Int) := by omega
    have hc := hk i h0 i1
    have cs := ctext_size hc
    have ih := implText hl hk m (acc ++ ctext (rd xs i)) (i + 1) (by omega) (by omega) (by rw [ByteArray.size_append]; omega)
    rw [show acc ++ ttext xs (m + 1) i = (acc ++ ctext (rd xs i)) ++ ttext xs m (i + 1) from by rw [show ttext xs (m + 1) i = ctext (rd xs i) ++ ttext xs m (i + 1) from rfl, ByteArray.append_assoc]]
    refine Ev.step (fun k => ?_) ih
    simp only [impl_typeText.l0]
    rw [if_pos i1, if_pos h0, implCode hc, Option.bind_some, if_pos (by omega), w64 (x := i + 1) (by omega) (by omega)]
/-- The text of a written type. -/
def typeV (xs : List Int) : ByteArray := ttext xs xs.length 0
theorem typeTextE {xs : List Int} (h : writtenV xs = true) : Ev (fun k => impl_typeText.f k xs) (typeV xs) := by
  obtain ⟨h1, h2, h3⟩ := written_kids h
  have := implText h2 h3 xs.length (⟨#[]⟩ : ByteArray) 0 (by omega) (by omega) (by decide)
  rw [app_nil] at this
  exact this
theorem specTypeE (xs : List Int) (hl : xs.length ≤ 1048576) : Ev (fun k => spec_FormatType.f k xs) (if writtenV xs = true then typeV xs else (⟨#[]⟩ : ByteArray)) := by
  unfold spec_FormatType.f
  refine Ev.bind (specWritten xs hl) ?_
  cases c : writtenV xs
  · simpa using Ev.now (⟨#[]⟩ : ByteArray)
  · simp only [if_true]
    obtain ⟨h1, h2, h3⟩ := written_kids c
    have := specText h2 h3 xs.length (⟨#[]⟩ : ByteArray) 0 (by omega) (by omega) (by decide)
    rw [app_nil] at this
    exact this
theorem typeV_size {xs : List Int} (h : writtenV xs = true) : (typeV xs).size ≤ 760 := by
  obtain ⟨h1, h2, h3⟩ := written_kids h
  have := ttext_size xs xs.length 0 (by omega) (by omega) h3
  unfold typeV; omega
end Go.Proofs.YtlhiacnmcckjgaaDoor.Pure
end
