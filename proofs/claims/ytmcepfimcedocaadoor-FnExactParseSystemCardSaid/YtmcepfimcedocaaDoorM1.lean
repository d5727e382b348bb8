-- Several texts in one (wip/tools/merge.py).
import Derived.Test.YtmcepfimcedocaaDoorP0
import Derived.ProofKit
import Derived.ChangeArms
import Derived.Deep.Slices
import Derived.Lib.SmallJoins
import Derived.Test.YtmcepfimcedocaaDoorS0
section
/- How what a law is handed reads as a value of the printed kinds: whole numbers, bools, strings, slices, structs. -/
end

section
namespace Go.Proofs.YtmcepfimcedocaaDoor.P
open Go.RowKit Go.Proofs.YtmcepfimcedocaaDoorW.PrintWords Go.Proofs.YtmcepfimcedocaaDoorW.PrintLast Go.Proofs.YtmcepfimcedocaaDoorW.PrintMore
attribute [local go_sem] max2_int min2_int max_two min_two max_three min_three max_four min_four   -- for this text's walks alone
set_option linter.unusedVariables false
set_option linter.unusedSimpArgs false

theorem eqA64 (d : Nat) (w : World) (x0 y0 : Int) (x1 y1 : Int) :
    (Op.equalIn (d + 2) 64 (.agg #[.int .i64 x0, .int .i64 x1]) (.agg #[.int .i64 y0, .int .i64 y1])).run Tryd.prog w = .ok (x0 == y0 && (x1 == y1)) w := by
  have u3 := Tryd.underlying3
  have a3 := Tryd.isAgg3
  have z3 := Tryd.sizeOf3
  rw [Op.equalIn]
  simp only [Sem.run_bind, run_underlying Tryd.underlying64, Result.andThen_ok]
  simp only [Std.Legacy.Range.forIn_eq_forIn_range', Std.Legacy.Range.size, Nat.sub_zero, Nat.add_sub_cancel, Nat.div_one, List.range'_succ, List.range'_zero, List.forIn_cons, List.forIn_nil]
  go_simp
  by_cases h1 : x0 = y0 <;> by_cases h2 : x1 = y1 <;> simp [h1, h2]
/-! ### laws_eqIntS: function 26 -/
def laws_eqIntS.l0 : Nat → List Int → List Int → Int → Option (Bool)
 | 0, _, _, _ => none
 | k + 1, x0, x1, x5 => if x5 < (x0.length : Int) then (if 0 ≤ x5 then (if x5 < (x1.length : Int) then (if (rd x0 x5) = (rd x1 x5) then (laws_eqIntS.l0 k x0 x1 (wrap64 (x5 + 1))) else (some false)) else (none)) else (none)) else (some true)
def laws_eqIntS.f (k : Nat) (l0 : List Int) (l1 : List Int) : Option (Bool) := if (l0.length : Int) = (l1.length : Int) then (laws_eqIntS.l0 k l0 l1 0) else (some false)
set_option maxHeartbeats 8000000 in
set_option maxRecDepth 100000 in
theorem laws_eqIntS.calls (k : Nat) (A0 : Option Addr) (c0 : Nat) (l0 : List Int) (A1 : Option Addr) (c1 : Nat) (l1 : List Int) (r : Bool) (w : World) (hr0 : Kd.C (Kd.int .i64) w A0 l0.length l0) (hc0 : l0.length ≤ c0) (hr1 : Kd.C (Kd.int .i64) w A1 l1.length l1) (hc1 : l1.length ≤ c1) (h : laws_eqIntS.f k l0 l1 = some r) :
  Calls Tryd.prog 26 #[.slice A0 l0.length c0, .slice A1 l1.length c1] w fun e w' => e = .returned (.bool r) ∧ Drawn0 w w' := by
 have HR0 := sd_ hr0; have HC0 := sd_ hc0; clear hr0 hc0; have HR1 := sd_ hr1; have HC1 := sd_ hc1; clear hr1 hc1; have H : (if (l0.length : Int) = (l1.length : Int) then (laws_eqIntS.l0 k l0 l1 0) else (some false)) = some r := h; clear h; by_cases c3 : (l0.length : Int) = (l1.length : Int)
 ·rw [if_pos c3] at H; have c3b0 : ((l0.length : Int) == (l1.length : Int)) = true := beq_iff_eq.mpr c3; have c3b1 : ((l0.length : Int) != (l1.length : Int)) = false := bne_eq_false_iff_eq.mpr c3
  have c3b2 : (l0.length == l1.length) = true := by first | simpa using c3 | (simp at c3 ⊢; omega)
  clear c3; have H' := sd_ H; clear H; go_enter Tryd.func26, Tryd.ntmps26; go_wp2
  repeat (go_quiet (fail); try go_wp2)
  go_loopg [5] k (fun kq v5 w' => ∃ (x5_1 : Int), v5 = .int .i64 x5_1 ∧ Aside0 (laws_eqIntS.l0 kq l0 l1 x5_1 = some r) ∧ Aside0 (kq ≤ k) ∧ Drawn0 w w')
  case atStart => exact ⟨(0), sm_, H', ⟨Nat.le_refl _⟩, by repeat (first | exact Drawn0.refl _ | apply Drawn0.step)⟩
  case round =>
   clear H'; (try clear c1); (try clear c2); (try clear p2); (try clear c3); (try clear c3b0); (try clear c3b1); (try clear c3b2); obtain ⟨x5_1, rfl, HA, HK1, ⟨m1, rfl⟩⟩ := hrel
   cases gk with
   | zero => exact absurd HA.out (by simp [laws_eqIntS.l0])
   | succ k1 =>
    have H := HA.out; clear HA; simp only [laws_eqIntS.l0] at H; revert H; refine ic_ (fun c4b0 H => ?_) (fun c4b0 H => ?_)
    ·revert H; refine ih_ fun c5b0 H => ?_
     revert H; refine ih_ fun c6b0 H => ?_
     by_cases c7 : (rd l0 x5_1) = (rd l1 x5_1)
     ·rw [if_pos c7] at H; have c7b0 : ((rd l0 x5_1) == (rd l1 x5_1)) = true := beq_iff_eq.mpr c7; have c7b1 : ((rd l0 x5_1) != (rd l1 x5_1)) = false := bne_eq_false_iff_eq.mpr c7; clear c7; have H' := sd_ H; clear H; have p101 : 0 ≤ (x5_1 : Int) := dt_; have q101 : x5_1 < (l0.length : Int) := dt_; obtain ⟨ad101, e101, hx101_0⟩ := Kd.at_int HR0.out x5_1 p101 q101
      cases e101
      replace p101 := eq_true p101; replace q101 := eq_true q101; have p102 : 0 ≤ (x5_1 : Int) := dt_; have q102 : x5_1 < (l1.length : Int) := dt_; obtain ⟨ad102, e102, hx102_0⟩ := Kd.at_int HR1.out x5_1 p102 q102
      cases e102
      replace p102 := eq_true p102; replace q102 := eq_true q102; go_wp2
      repeat (go_quiet (fail); try go_wp2)
      go_roundg k1
      case measure => have := HK1.out; omega
      case rel => exact ⟨(wrap64 (x5_1 + 1)), sm_, H', ⟨by have := HK1.out; omega⟩, by repeat (first | exact Drawn0.refl _ | apply Drawn0.step)⟩
     rw [if_neg c7] at H; have c7b0 : ((rd l0 x5_1) == (rd l1 x5_1)) = false := beq_eq_false_iff_ne.mpr c7; have c7b1 : ((rd l0 x5_1) != (rd l1 x5_1)) = true := bne_iff_ne.mpr c7; obtain rfl := Option.some.inj H; have p101 : 0 ≤ (x5_1 : Int) := dt_; have q101 : x5_1 < (l0.length : Int) := dt_; obtain ⟨ad101, e101, hx101_0⟩ := Kd.at_int HR0.out x5_1 p101 q101
     cases e101
     replace p101 := eq_true p101; replace q101 := eq_true q101; have p102 : 0 ≤ (x5_1 : Int) := dt_; have q102 : x5_1 < (l1.length : Int) := dt_; obtain ⟨ad102, e102, hx102_0⟩ := Kd.at_int HR1.out x5_1 p102 q102
     cases e102
     replace p102 := eq_true p102; replace q102 := eq_true q102; go_wp2
     repeat (go_quiet (fail); try go_wp2)
     go_ret; exact ⟨by first | rfl | (simp; done) | (simp [*]; done), by repeat (first | exact Drawn0.refl _ | apply Drawn0.step)⟩
    obtain rfl := Option.some.inj H; go_wp2
    repeat (go_quiet (fail); try go_wp2)
    go_ret; exact ⟨by first | rfl | (simp; done) | (simp [*]; done), by repeat (first | exact Drawn0.refl _ | apply Drawn0.step)⟩
 rw [if_neg c3] at H; have c3b0 : ((l0.length : Int) == (l1.length : Int)) = false := beq_eq_false_iff_ne.mpr c3; have c3b1 : ((l0.length : Int) != (l1.length : Int)) = true := bne_iff_ne.mpr c3
 have c3b2 : (l0.length == l1.length) = false := by first | simpa using c3 | (simp at c3 ⊢; omega)
 obtain rfl := Option.some.inj H; go_enter Tryd.func26, Tryd.ntmps26; go_wp2
 repeat (go_quiet (fail); try go_wp2)
 go_ret; exact ⟨by first | rfl | (simp; done) | (simp [*]; done), by repeat (first | exact Drawn0.refl _ | apply Drawn0.step)⟩

/-! ### laws_eqBoolS: function 27 -/
def laws_eqBoolS.l0 : Nat → List Bool → List Bool → Int → Option (Bool)
 | 0, _, _, _ => none
 | k + 1, x0, x1, x5 => if x5 < (x0.length : Int) then (if 0 ≤ x5 then (if x5 < (x1.length : Int) then (if ((rdOf false x0 x5) != (rdOf false x1 x5)) = true then (some false) else (laws_eqBoolS.l0 k x0 x1 (wrap64 (x5 + 1)))) else (none)) else (none)) else (some true)
def laws_eqBoolS.f (k : Nat) (l0 : List Bool) (l1 : List Bool) : Option (Bool) := if (l0.length : Int) = (l1.length : Int) then (laws_eqBoolS.l0 k l0 l1 0) else (some false)
set_option maxHeartbeats 8000000 in
set_option maxRecDepth 100000 in
theorem laws_eqBoolS.calls (k : Nat) (A0 : Option Addr) (c0 : Nat) (l0 : List Bool) (A1 : Option Addr) (c1 : Nat) (l1 : List Bool) (r : Bool) (w : World) (hr0 : Kd.C Kd.bool w A0 l0.length l0) (hc0 : l0.length ≤ c0) (hr1 : Kd.C Kd.bool w A1 l1.length l1) (hc1 : l1.length ≤ c1) (h : laws_eqBoolS.f k l0 l1 = some r) :
  Calls Tryd.prog 27 #[.slice A0 l0.length c0, .slice A1 l1.length c1] w fun e w' => e = .returned (.bool r) ∧ Drawn0 w w' := by
 have HR0 := sd_ hr0; have HC0 := sd_ hc0; clear hr0 hc0; have HR1 := sd_ hr1; have HC1 := sd_ hc1; clear hr1 hc1; have H : (if (l0.length : Int) = (l1.length : Int) then (laws_eqBoolS.l0 k l0 l1 0) else (some false)) = some r := h; clear h; by_cases c3 : (l0.length : Int) = (l1.length : Int)
 ·rw [if_pos c3] at H; have c3b0 : ((l0.length : Int) == (l1.length : Int)) = true := beq_iff_eq.mpr c3; have c3b1 : ((l0.length : Int) != (l1.length : Int)) = false := bne_eq_false_iff_eq.mpr c3
  have c3b2 : (l0.length == l1.length) = true := by first | simpa using c3 | (simp at c3 ⊢; omega)
  clear c3; have H' := sd_ H; clear H; go_enter Tryd.func27, Tryd.ntmps27; go_wp2
  repeat (go_quiet (fail); try go_wp2)
  go_loopg [5] k (fun kq v5 w' => ∃ (x5_1 : Int), v5 = .int .i64 x5_1 ∧ Aside0 (laws_eqBoolS.l0 kq l0 l1 x5_1 = some r) ∧ Aside0 (kq ≤ k) ∧ Drawn0 w w')
  case atStart => exact ⟨(0), sm_, H', ⟨Nat.le_refl _⟩, by repeat (first | exact Drawn0.refl _ | apply Drawn0.step)⟩
  case round =>
   clear H'; (try clear c1); (try clear c2); (try clear p2); (try clear c3); (try clear c3b0); (try clear c3b1); (try clear c3b2); obtain ⟨x5_1, rfl, HA, HK1, ⟨m1, rfl⟩⟩ := hrel
   cases gk with
   | zero => exact absurd HA.out (by simp [laws_eqBoolS.l0])
   | succ k1 =>
    have H := HA.out; clear HA; simp only [laws_eqBoolS.l0] at H; revert H; refine ic_ (fun c4b0 H => ?_) (fun c4b0 H => ?_)
    ·revert H; refine ih_ fun c5b0 H => ?_
     revert H; refine ih_ fun c6b0 H => ?_
     by_cases c7 : ((rdOf false l0 x5_1) != (rdOf false l1 x5_1)) = true
     ·rw [if_pos c7] at H; have c7b0 : ((rdOf false l0 x5_1) != (rdOf false l1 x5_1)) = true := c7; (try (have c7b1 : decide ((rdOf false l0 x5_1) = (rdOf false l1 x5_1)) = false := by simpa using c7)); (try (have c7b2 : ((rdOf false l0 x5_1) == (rdOf false l1 x5_1)) = false := by simpa using c7)); (try (have c7b3 : ¬ ((rdOf false l0 x5_1) = (rdOf false l1 x5_1)) := by simpa using c7)); clear c7; obtain rfl := Option.some.inj H; have p103 : 0 ≤ (x5_1 : Int) := dt_; have q103 : x5_1 < (l0.length : Int) := dt_; obtain ⟨ad103, e103, hx103_0⟩ := Kd.at_bool HR0.out x5_1 p103 q103
      cases e103
      replace p103 := eq_true p103; replace q103 := eq_true q103; have p104 : 0 ≤ (x5_1 : Int) := dt_; have q104 : x5_1 < (l1.length : Int) := dt_; obtain ⟨ad104, e104, hx104_0⟩ := Kd.at_bool HR1.out x5_1 p104 q104
      cases e104
      replace p104 := eq_true p104; replace q104 := eq_true q104; go_wp2
      repeat (go_quiet (fail); try go_wp2)
      go_ret; exact ⟨by first | rfl | (simp; done) | (simp [*]; done), by repeat (first | exact Drawn0.refl _ | apply Drawn0.step)⟩
     rw [if_neg c7] at H
     have c7b0 : ((rdOf false l0 x5_1) != (rdOf false l1 x5_1)) = false := by simpa using c7
     (try (have c7b1 : decide ((rdOf false l0 x5_1) = (rdOf false l1 x5_1)) = true := by simpa using c7)); (try (have c7b2 : ((rdOf false l0 x5_1) == (rdOf false l1 x5_1)) = true := by simpa using c7)); clear c7; have H' := sd_ H; clear H; have p103 : 0 ≤ (x5_1 : Int) := dt_; have q103 : x5_1 < (l0.length : Int) := dt_; obtain ⟨ad103, e103, hx103_0⟩ := Kd.at_bool HR0.out x5_1 p103 q103
     cases e103
     replace p103 := eq_true p103; replace q103 := eq_true q103; have p104 : 0 ≤ (x5_1 : Int) := dt_; have q104 : x5_1 < (l1.length : Int) := dt_; obtain ⟨ad104, e104, hx104_0⟩ := Kd.at_bool HR1.out x5_1 p104 q104
     cases e104
     replace p104 := eq_true p104; replace q104 := eq_true q104; go_wp2
     repeat (go_quiet (fail); try go_wp2)
     go_roundg k1
     case measure => have := HK1.out; omega
     case rel => exact ⟨(wrap64 (x5_1 + 1)), sm_, H', ⟨by have := HK1.out; omega⟩, by repeat (first | exact Drawn0.refl _ | apply Drawn0.step)⟩
    obtain rfl := Option.some.inj H; go_wp2
    repeat (go_quiet (fail); try go_wp2)
    go_ret; exact ⟨by first | rfl | (simp; done) | (simp [*]; done), by repeat (first | exact Drawn0.refl _ | apply Drawn0.step)⟩
 rw [if_neg c3] at H; have c3b0 : ((l0.length : Int) == (l1.length : Int)) = false := beq_eq_false_iff_ne.mpr c3; have c3b1 : ((l0.length : Int) != (l1.length : Int)) = true := bne_iff_ne.mpr c3
 have c3b2 : (l0.length == l1.length) = false := by first | simpa using c3 | (simp at c3 ⊢; omega)
 obtain rfl := Option.some.inj H; go_enter Tryd.func27, Tryd.ntmps27; go_wp2
 repeat (go_quiet (fail); try go_wp2)
 go_ret; exact ⟨by first | rfl | (simp; done) | (simp [*]; done), by repeat (first | exact Drawn0.refl _ | apply Drawn0.step)⟩

/-! ### laws_eqSystem: function 9 -/
def laws_eqSystem.f (k : Nat) (a0_0 : Int) (l0_1 : List Int) (l0_2 : List Int) (l0_3 : List Bool) (a1_0 : Int) (l1_1 : List Int) (l1_2 : List Int) (l1_3 : List Bool) : Option (Bool) := if a0_0 = a1_0 then ((laws_eqIntS.f k l0_1 l1_1).bind fun t107 => (if t107 = true then ((laws_eqIntS.f k l0_2 l1_2).bind fun t108 => (if t108 = true then ((laws_eqBoolS.f k l0_3 l1_3).bind fun t109 => (if t109 = true then (some true) else (some false))) else (some false))) else (some false))) else (some false)
set_option maxHeartbeats 8000000 in
set_option maxRecDepth 100000 in
theorem laws_eqSystem.calls (k : Nat) (a0_0 : Int) (A0_1 : Option Addr) (c0_1 : Nat) (l0_1 : List Int) (A0_2 : Option Addr) (c0_2 : Nat) (l0_2 : List Int) (A0_3 : Option Addr) (c0_3 : Nat) (l0_3 : List Bool) (a1_0 : Int) (A1_1 : Option Addr) (c1_1 : Nat) (l1_1 : List Int) (A1_2 : Option Addr) (c1_2 : Nat) (l1_2 : List Int) (A1_3 : Option Addr) (c1_3 : Nat) (l1_3 : List Bool) (r : Bool) (w : World) (hr0_1 : Kd.C (Kd.int .i64) w A0_1 l0_1.length l0_1) (hc0_1 : l0_1.length ≤ c0_1) (hr0_2 : Kd.C (Kd.int .i64) w A0_2 l0_2.length l0_2) (hc0_2 : l0_2.length ≤ c0_2) (hr0_3 : Kd.C Kd.bool w A0_3 l0_3.length l0_3) (hc0_3 : l0_3.length ≤ c0_3) (hr1_1 : Kd.C (Kd.int .i64) w A1_1 l1_1.length l1_1) (hc1_1 : l1_1.length ≤ c1_1) (hr1_2 : Kd.C (Kd.int .i64) w A1_2 l1_2.length l1_2) (hc1_2 : l1_2.length ≤ c1_2) (hr1_3 : Kd.C Kd.bool w A1_3 l1_3.length l1_3) (hc1_3 : l1_3.length ≤ c1_3) (h : laws_eqSystem.f k a0_0 l0_1 l0_2 l0_3 a1_0 l1_1 l1_2 l1_3 = some r) :
  Calls Tryd.prog 9 #[.agg #[.int .i64 a0_0, .slice A0_1 l0_1.length c0_1, .slice A0_2 l0_2.length c0_2, .slice A0_3 l0_3.length c0_3], .agg #[.int .i64 a1_0, .slice A1_1 l1_1.length c1_1, .slice A1_2 l1_2.length c1_2, .slice A1_3 l1_3.length c1_3]] w fun e w' => e = .returned (.bool r) ∧ Below w.heap.size w w' := by
 have hu28 := Tryd.underlying28; have HR0_1 := sd_ hr0_1; have HC0_1 := sd_ hc0_1; clear hr0_1 hc0_1; have HR0_2 := sd_ hr0_2; have HC0_2 := sd_ hc0_2; clear hr0_2 hc0_2; have HR0_3 := sd_ hr0_3; have HC0_3 := sd_ hc0_3; clear hr0_3 hc0_3; have HR1_1 := sd_ hr1_1; have HC1_1 := sd_ hc1_1; clear hr1_1 hc1_1; have HR1_2 := sd_ hr1_2; have HC1_2 := sd_ hc1_2; clear hr1_2 hc1_2; have HR1_3 := sd_ hr1_3; have HC1_3 := sd_ hc1_3; clear hr1_3 hc1_3; have HB := sd_ (Below.refl w.heap.size w); have H : (if a0_0 = a1_0 then ((laws_eqIntS.f k l0_1 l1_1).bind fun t107 => (if t107 = true then ((laws_eqIntS.f k l0_2 l1_2).bind fun t108 => (if t108 = true then ((laws_eqBoolS.f k l0_3 l1_3).bind fun t109 => (if t109 = true then (some true) else (some false))) else (some false))) else (some false))) else (some false)) = some r := h; clear h; have HP3 := sd_ H; clear H; go_enter Tryd.func9, Tryd.ntmps9; go_upto_if 9 with (first | ((with_reducible refine gate_dst (N := 2) rfl ?_); refine bx_ (N := 2) (cs := #[.int .i64 a0_0, .slice A0_1 l0_1.length c0_1, .slice A0_2 l0_2.length c0_2, .slice A0_3 l0_3.length c0_3]) (t := 28) ?_; intro gb105 hg w4 hbox hb; have BK105 := sd_ (hbox); have GW105 := sd_ (gs_ hg (bw0_ HB.out)); have GE105 := sd_ (gs_ hg (bw0_ HB.out)); replace HB := sd_ (below_step (bw0_ HB.out) hb); clear hb hbox hg) | ((with_reducible refine gate_dst (N := 3) rfl ?_); refine bx_ (N := 3) (cs := #[.int .i64 a1_0, .slice A1_1 l1_1.length c1_1, .slice A1_2 l1_2.length c1_2, .slice A1_3 l1_3.length c1_3]) (t := 28) ?_; intro gb106 hg w5 hbox hb; have BK106 := sd_ (hbox); have GW106 := sd_ (gs_ hg (bw1_ HB.out GE105.out)); have GE106 := sd_ (gs_ hg (bw1_ HB.out GE105.out)); replace HB := sd_ (below_step (bw1_ HB.out GE105.out) hb); have NB105_106 := sd_ (nl_ hg (bl_ BK105.out)); have NB106_105 := sd_ (ng_ hg (bl_ BK105.out)); replace BK105 := sd_ (bb_ BK105.out hb); clear hb hbox hg; have hnb6 := NB105_106.out; have hnc6 := NB106_105.out; obtain ⟨z7_0, z7_1, z7_2, z7_3, f7_0, f7_1, f7_2, f7_3⟩ := bf4_ BK105.out; obtain ⟨z8_0, z8_1, z8_2, z8_3, f8_0, f8_1, f8_2, f8_3⟩ := bf4_ BK106.out)); have H := HP3.out; clear HP3; by_cases c9 : a0_0 = a1_0
 ·rw [if_pos c9] at H; have c9b0 : (a0_0 == a1_0) = true := beq_iff_eq.mpr c9; have c9b1 : (a0_0 != a1_0) = false := bne_eq_false_iff_eq.mpr c9; clear c9; (first | rw [c9b0] | (simp only [i64_w, i32_w]; rw [c9b0]) | skip)
  revert H; refine ob_ fun t107 A10 H => ?_
  obtain rfl | rfl := bt_ t107
  ·replace H := it_ H
   revert H; refine ob_ fun t108 A12 H => ?_
   obtain rfl | rfl := bt_ t108
   ·replace H := it_ H
    revert H; refine ob_ fun t109 A14 H => ?_
    obtain rfl | rfl := bt_ t109
    ·replace H := it_ H; obtain rfl := Option.some.inj H; have hnb16 := NB105_106.out; have hnc16 := NB106_105.out; obtain ⟨z17_0, z17_1, z17_2, z17_3, f17_0, f17_1, f17_2, f17_3⟩ := bf4_ BK105.out; obtain ⟨z18_0, z18_1, z18_2, z18_3, f18_0, f18_1, f18_2, f18_3⟩ := bf4_ BK106.out; go_wp2_with (first | ((with_reducible refine gate_callee (f := 26) rfl ?_); refine goesL_ (some 14) rfl rfl Tryd.func26 (by kernel_rfl) rfl #[.slice A0_1 l0_1.length c0_1, .slice A1_1 l1_1.length c1_1] rfl la_ ?_; (with_reducible refine (laws_eqIntS.calls k _ _ l0_1 _ _ l1_1 true _ (kc_ HR0_1.out HB.out) HC0_1.out (kc_ HR1_1.out HB.out) HC1_1.out A10.out).mono ?_); rintro e w' ⟨rfl, ⟨nd, rfl⟩⟩; refine ⟨_, rfl, ?_⟩) | ((with_reducible refine gate_callee (f := 26) rfl ?_); refine goesL_ (some 20) rfl rfl Tryd.func26 (by kernel_rfl) rfl #[.slice A0_2 l0_2.length c0_2, .slice A1_2 l1_2.length c1_2] rfl la_ ?_; (with_reducible refine (laws_eqIntS.calls k _ _ l0_2 _ _ l1_2 true _ ?side1 ?side2 ?side3 ?side4 A12.out).mono ?_); (case side1 => repeat (first | exact (Kd.C_below HR0_2.out (bw2_ HB.out GE105.out GE106.out)) | (with_reducible refine Kd.C_alloc ?_ _) | (with_reducible refine Kd.C_drewN ?_ _) | (with_reducible refine Kd.C_drew ?_))); (case side2 => exact HC0_2.out); (case side3 => repeat (first | exact (Kd.C_below HR1_2.out (bw2_ HB.out GE105.out GE106.out)) | (with_reducible refine Kd.C_alloc ?_ _) | (with_reducible refine Kd.C_drewN ?_ _) | (with_reducible refine Kd.C_drew ?_))); (case side4 => exact HC1_2.out); rintro e w' ⟨rfl, ⟨nd, rfl⟩⟩; refine ⟨_, rfl, ?_⟩) | ((with_reducible refine gate_callee (f := 27) rfl ?_); refine goesL_ (some 26) rfl rfl Tryd.func27 (by kernel_rfl) rfl #[.slice A0_3 l0_3.length c0_3, .slice A1_3 l1_3.length c1_3] rfl la_ ?_; (with_reducible refine (laws_eqBoolS.calls k _ _ l0_3 _ _ l1_3 true _ ?side1 ?side2 ?side3 ?side4 A14.out).mono ?_); (case side1 => repeat (first | exact (Kd.C_below HR0_3.out (bw2_ HB.out GE105.out GE106.out)) | (with_reducible refine Kd.C_alloc ?_ _) | (with_reducible refine Kd.C_drewN ?_ _) | (with_reducible refine Kd.C_drew ?_))); (case side2 => exact HC0_3.out); (case side3 => repeat (first | exact (Kd.C_below HR1_3.out (bw2_ HB.out GE105.out GE106.out)) | (with_reducible refine Kd.C_alloc ?_ _) | (with_reducible refine Kd.C_drewN ?_ _) | (with_reducible refine Kd.C_drew ?_))); (case side4 => exact HC1_3.out); rintro e w' ⟨rfl, ⟨nd, rfl⟩⟩; refine ⟨_, rfl, ?_⟩)); go_ret; exact ⟨an_, bw2_ HB.out GE105.out GE106.out⟩
    replace H := if_ H; obtain rfl := Option.some.inj H; have hnb19 := NB105_106.out; have hnc19 := NB106_105.out; obtain ⟨z20_0, z20_1, z20_2, z20_3, f20_0, f20_1, f20_2, f20_3⟩ := bf4_ BK105.out; obtain ⟨z21_0, z21_1, z21_2, z21_3, f21_0, f21_1, f21_2, f21_3⟩ := bf4_ BK106.out; go_wp2_with (first | ((with_reducible refine gate_callee (f := 26) rfl ?_); refine goesL_ (some 14) rfl rfl Tryd.func26 (by kernel_rfl) rfl #[.slice A0_1 l0_1.length c0_1, .slice A1_1 l1_1.length c1_1] rfl la_ ?_; (with_reducible refine (laws_eqIntS.calls k _ _ l0_1 _ _ l1_1 true _ (kc_ HR0_1.out HB.out) HC0_1.out (kc_ HR1_1.out HB.out) HC1_1.out A10.out).mono ?_); rintro e w' ⟨rfl, ⟨nd, rfl⟩⟩; refine ⟨_, rfl, ?_⟩) | ((with_reducible refine gate_callee (f := 26) rfl ?_); refine goesL_ (some 20) rfl rfl Tryd.func26 (by kernel_rfl) rfl #[.slice A0_2 l0_2.length c0_2, .slice A1_2 l1_2.length c1_2] rfl la_ ?_; (with_reducible refine (laws_eqIntS.calls k _ _ l0_2 _ _ l1_2 true _ ?side1 ?side2 ?side3 ?side4 A12.out).mono ?_); (case side1 => repeat (first | exact (Kd.C_below HR0_2.out (bw2_ HB.out GE105.out GE106.out)) | (with_reducible refine Kd.C_alloc ?_ _) | (with_reducible refine Kd.C_drewN ?_ _) | (with_reducible refine Kd.C_drew ?_))); (case side2 => exact HC0_2.out); (case side3 => repeat (first | exact (Kd.C_below HR1_2.out (bw2_ HB.out GE105.out GE106.out)) | (with_reducible refine Kd.C_alloc ?_ _) | (with_reducible refine Kd.C_drewN ?_ _) | (with_reducible refine Kd.C_drew ?_))); (case side4 => exact HC1_2.out); rintro e w' ⟨rfl, ⟨nd, rfl⟩⟩; refine ⟨_, rfl, ?_⟩) | ((with_reducible refine gate_callee (f := 27) rfl ?_); refine goesL_ (some 26) rfl rfl Tryd.func27 (by kernel_rfl) rfl #[.slice A0_3 l0_3.length c0_3, .slice A1_3 l1_3.length c1_3] rfl la_ ?_; (with_reducible refine (laws_eqBoolS.calls k _ _ l0_3 _ _ l1_3 false _ ?side1 ?side2 ?side3 ?side4 A14.out).mono ?_); (case side1 => repeat (first | exact (Kd.C_below HR0_3.out (bw2_ HB.out GE105.out GE106.out)) | (with_reducible refine Kd.C_alloc ?_ _) | (with_reducible refine Kd.C_drewN ?_ _) | (with_reducible refine Kd.C_drew ?_))); (case side2 => exact HC0_3.out); (case side3 => repeat (first | exact (Kd.C_below HR1_3.out (bw2_ HB.out GE105.out GE106.out)) | (with_reducible refine Kd.C_alloc ?_ _) | (with_reducible refine Kd.C_drewN ?_ _) | (with_reducible refine Kd.C_drew ?_))); (case side4 => exact HC1_3.out); rintro e w' ⟨rfl, ⟨nd, rfl⟩⟩; refine ⟨_, rfl, ?_⟩)); go_ret; exact ⟨an_, bw2_ HB.out GE105.out GE106.out⟩
   replace H := if_ H; obtain rfl := Option.some.inj H; have hnb22 := NB105_106.out; have hnc22 := NB106_105.out; obtain ⟨z23_0, z23_1, z23_2, z23_3, f23_0, f23_1, f23_2, f23_3⟩ := bf4_ BK105.out; obtain ⟨z24_0, z24_1, z24_2, z24_3, f24_0, f24_1, f24_2, f24_3⟩ := bf4_ BK106.out; go_wp2_with (first | ((with_reducible refine gate_callee (f := 26) rfl ?_); refine goesL_ (some 14) rfl rfl Tryd.func26 (by kernel_rfl) rfl #[.slice A0_1 l0_1.length c0_1, .slice A1_1 l1_1.length c1_1] rfl la_ ?_; (with_reducible refine (laws_eqIntS.calls k _ _ l0_1 _ _ l1_1 true _ (kc_ HR0_1.out HB.out) HC0_1.out (kc_ HR1_1.out HB.out) HC1_1.out A10.out).mono ?_); rintro e w' ⟨rfl, ⟨nd, rfl⟩⟩; refine ⟨_, rfl, ?_⟩) | ((with_reducible refine gate_callee (f := 26) rfl ?_); refine goesL_ (some 20) rfl rfl Tryd.func26 (by kernel_rfl) rfl #[.slice A0_2 l0_2.length c0_2, .slice A1_2 l1_2.length c1_2] rfl la_ ?_; (with_reducible refine (laws_eqIntS.calls k _ _ l0_2 _ _ l1_2 false _ ?side1 ?side2 ?side3 ?side4 A12.out).mono ?_); (case side1 => repeat (first | exact (Kd.C_below HR0_2.out (bw2_ HB.out GE105.out GE106.out)) | (with_reducible refine Kd.C_alloc ?_ _) | (with_reducible refine Kd.C_drewN ?_ _) | (with_reducible refine Kd.C_drew ?_))); (case side2 => exact HC0_2.out); (case side3 => repeat (first | exact (Kd.C_below HR1_2.out (bw2_ HB.out GE105.out GE106.out)) | (with_reducible refine Kd.C_alloc ?_ _) | (with_reducible refine Kd.C_drewN ?_ _) | (with_reducible refine Kd.C_drew ?_))); (case side4 => exact HC1_2.out); rintro e w' ⟨rfl, ⟨nd, rfl⟩⟩; refine ⟨_, rfl, ?_⟩)); go_ret; exact ⟨an_, bw2_ HB.out GE105.out GE106.out⟩
  replace H := if_ H; obtain rfl := Option.some.inj H; have hnb25 := NB105_106.out; have hnc25 := NB106_105.out; obtain ⟨z26_0, z26_1, z26_2, z26_3, f26_0, f26_1, f26_2, f26_3⟩ := bf4_ BK105.out; obtain ⟨z27_0, z27_1, z27_2, z27_3, f27_0, f27_1, f27_2, f27_3⟩ := bf4_ BK106.out; go_wp2_with (first | ((with_reducible refine gate_callee (f := 26) rfl ?_); refine goesL_ (some 14) rfl rfl Tryd.func26 (by kernel_rfl) rfl #[.slice A0_1 l0_1.length c0_1, .slice A1_1 l1_1.length c1_1] rfl la_ ?_; (with_reducible refine (laws_eqIntS.calls k _ _ l0_1 _ _ l1_1 false _ (kc_ HR0_1.out HB.out) HC0_1.out (kc_ HR1_1.out HB.out) HC1_1.out A10.out).mono ?_); rintro e w' ⟨rfl, ⟨nd, rfl⟩⟩; refine ⟨_, rfl, ?_⟩)); go_ret; exact ⟨an_, bw2_ HB.out GE105.out GE106.out⟩
 rw [if_neg c9] at H; have c9b0 : (a0_0 == a1_0) = false := beq_eq_false_iff_ne.mpr c9; have c9b1 : (a0_0 != a1_0) = true := bne_iff_ne.mpr c9; (first | rw [c9b0] | (simp only [i64_w, i32_w]; rw [c9b0]) | skip); obtain rfl := Option.some.inj H; go_wp2; go_ret; exact ⟨an_, bw2_ HB.out GE105.out GE106.out⟩

end Go.Proofs.YtmcepfimcedocaaDoor.P
end

section
/-! shorter words -/
namespace Go.Proofs.YtmcepfimcedocaaDoor.P
open Go.RowKit Go.Proofs.YtmcepfimcedocaaDoorW.PrintWords Go.Proofs.YtmcepfimcedocaaDoorW.PrintLast Go.Proofs.YtmcepfimcedocaaDoorW.PrintMore
/-! ### strings_Cut: function 28 (by hand) -/
def strings_Cut.f (a0 a1 : ByteArray) : Option (ByteArray × ByteArray × Bool) := if a0.size < 4294967281 then some ((⟨(Go.Lib.cut a0.data.toList a1.data.toList).1.toArray⟩ : ByteArray), (⟨(Go.Lib.cut a0.data.toList a1.data.toList).2.1.toArray⟩ : ByteArray), (Go.Lib.cut a0.data.toList a1.data.toList).2.2) else none
theorem strings_Cut.calls (a0 a1 : ByteArray) (r1 r2 : ByteArray) (r3 : Bool) (w : World) (hTab : Mx w) (h : strings_Cut.f a0 a1 = some (r1, r2, r3)) :
  Calls Tryd.prog 28 #[.string a0, .string a1] w fun e w' => e = .returned (.tuple #[.string r1, .string r2, .bool r3]) ∧ Drawn0 w w' := by
 unfold strings_Cut.f at h
 by_cases c : a0.size < 4294967281
 ·rw [if_pos c] at h; simp only [Option.some.injEq, Prod.mk.injEq] at h; obtain ⟨rfl, rfl, rfl⟩ := h
  refine (cut_small a0 a1 w c hTab).mono fun e w' ⟨he, hw⟩ => ?_
  exact ⟨he, ⟨hw⟩⟩
 rw [if_neg c] at h; cases h
end Go.Proofs.YtmcepfimcedocaaDoor.P
end

section
/-! shorter words -/
namespace Go.Proofs.YtmcepfimcedocaaDoor.P
open Go.RowKit Go.Proofs.YtmcepfimcedocaaDoorW.PrintWords Go.Proofs.YtmcepfimcedocaaDoorW.PrintLast Go.Proofs.YtmcepfimcedocaaDoorW.PrintMore
attribute [local go_sem] max2_int min2_int max_two min_two max_three min_three max_four min_four   -- for this text's walks alone
set_option linter.unusedVariables false
set_option linter.unusedSimpArgs false

/-! ### spec_l1Second: function 45 -/
def spec_l1Second.f (a0 : Int) (a1 : Int) : Option (Int) := if a1 < 2 then (some a1) else (if a1 ≤ (wrap64 (a0 + 1)) then (if a0 = 0 then (none) else (some (Int.tmod (wrap64 (a1 - 1)) a0))) else (if a0 = 0 then (none) else (some (Int.tmod a1 a0))))
set_option maxHeartbeats 8000000 in
set_option maxRecDepth 100000 in
theorem spec_l1Second.calls (a0 : Int) (a1 : Int) (r : Int) (w : World) (h : spec_l1Second.f a0 a1 = some r) :
  Calls Tryd.prog 45 #[.int .i64 a0, .int .i64 a1] w fun e w' => e = .returned (.int .i64 r) ∧ Drawn0 w w' := by
 have H : (if a1 < 2 then (some a1) else (if a1 ≤ (wrap64 (a0 + 1)) then (if a0 = 0 then (none) else (some (Int.tmod (wrap64 (a1 - 1)) a0))) else (if a0 = 0 then (none) else (some (Int.tmod a1 a0))))) = some r := h; clear h; revert H; refine ic_ (fun c3b0 H => ?_) (fun c3b0 H => ?_)
 ·obtain rfl := Option.some.inj H; go_enter Tryd.func45, Tryd.ntmps45; go_wp2; go_ret; exact ⟨by first | rfl | (simp; done) | (simp [*]; done), by repeat (first | exact Drawn0.refl _ | apply Drawn0.step)⟩
 revert H; refine ic_ (fun c4b0 H => ?_) (fun c4b0 H => ?_)
 ·by_cases c5 : a0 = 0
  ·rw [if_pos c5] at H; exact absurd H (by simp)
  rw [if_neg c5] at H; have c5b0 : (a0 == 0) = false := beq_eq_false_iff_ne.mpr c5; have c5b1 : (a0 != 0) = true := bne_iff_ne.mpr c5; obtain rfl := Option.some.inj H; go_enter Tryd.func45, Tryd.ntmps45; go_wp2; go_ret; exact ⟨by first | rfl | (simp; done) | (simp [*]; done), by repeat (first | exact Drawn0.refl _ | apply Drawn0.step)⟩
 by_cases c6 : a0 = 0
 ·rw [if_pos c6] at H; exact absurd H (by simp)
 rw [if_neg c6] at H; have c6b0 : (a0 == 0) = false := beq_eq_false_iff_ne.mpr c6; have c6b1 : (a0 != 0) = true := bne_iff_ne.mpr c6; obtain rfl := Option.some.inj H; go_enter Tryd.func45, Tryd.ntmps45; go_wp2; go_ret; exact ⟨by first | rfl | (simp; done) | (simp [*]; done), by repeat (first | exact Drawn0.refl _ | apply Drawn0.step)⟩

end Go.Proofs.YtmcepfimcedocaaDoor.P
end
