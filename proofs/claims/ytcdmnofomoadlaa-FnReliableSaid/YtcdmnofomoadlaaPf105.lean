-- Printed by this session's own program (wip/tools/mkprint.py) out of the translation. Not trusted: Lean checks it.
import Derived.Test.YtcdmnofomoadlaaM1
/-! short words -/
namespace Go.Proofs.Ytcdmnofomoadlaa.P
open Go.RowKit Go.Proofs.YtcdmnofomoadlaaW.PrintWords Go.Proofs.YtcdmnofomoadlaaW.PrintLast Go.Proofs.YtcdmnofomoadlaaW.PrintMore
attribute [local go_sem] max2_int min2_int max_two min_two max_three min_three max_four min_four   -- for this text's walks alone
set_option linter.unusedVariables false
set_option linter.unusedSimpArgs false

/-! ### impl_isView: function 105 -/
mutual
def impl_isView.j0 : Nat → List Bool → Bool → Int → List Int → List Int → List Bool → Option (Bool)
 | 0, _, _, _, _, _, _ => none
 | k + 1, x1, x15, x546000, x546001, x546002, x546003 => if x15 = true then (some false) else (impl_isView.l0 k x1 0 x546000 x546001 x546002 x546003)
def impl_isView.l0 : Nat → List Bool → Int → Int → List Int → List Int → List Bool → Option (Bool)
 | 0, _, _, _, _, _, _ => none
 | k + 1, x1, x5, x546000, x546001, x546002, x546003 => if x5 < x546000 then (impl_isView.l1 k x1 x5 0 x546000 x546001 x546002 x546003) else (some true)
def impl_isView.l1 : Nat → List Bool → Int → Int → Int → List Int → List Int → List Bool → Option (Bool)
 | 0, _, _, _, _, _, _, _ => none
 | k + 1, x1, x5, x6, x546000, x546001, x546002, x546003 => if x6 < x546000 then ((impl_System_plus.f x546000 x546001 x546002 x546003 x5 x6).bind fun t548 => (if 0 ≤ t548 then (if t548 < (x1.length : Int) then (if 0 ≤ x5 then (if x5 < (x1.length : Int) then (if rdOf false x1 x5 = true then (if ((rdOf false x1 t548) != true) = true then (some false) else ((impl_System_times.f x546000 x546001 x546002 x546003 x5 x6).bind fun t551 => (if 0 ≤ t551 then (if t551 < (x1.length : Int) then (if 0 ≤ x6 then (if x6 < (x1.length : Int) then (if ((rdOf false x1 t551) != (rdOf false x1 x6)) = true then (some false) else ((impl_System_below.f x546000 x546001 x546002 x546003 x5 x6).bind fun t556 => (if t556 = true then (if rdOf false x1 x6 = true then (impl_isView.l1 k x1 x5 (wrap64 (x6 + 1)) x546000 x546001 x546002 x546003) else (some false)) else (impl_isView.l1 k x1 x5 (wrap64 (x6 + 1)) x546000 x546001 x546002 x546003)))) else (none)) else (none)) else (none)) else (none)))) else (if 0 ≤ x6 then (if x6 < (x1.length : Int) then (if ((rdOf false x1 t548) != (rdOf false x1 x6)) = true then (some false) else ((impl_System_times.f x546000 x546001 x546002 x546003 x5 x6).bind fun t559 => (if 0 ≤ t559 then (if t559 < (x1.length : Int) then (if ((rdOf false x1 t559) != false) = true then (some false) else (impl_isView.l1 k x1 x5 (wrap64 (x6 + 1)) x546000 x546001 x546002 x546003)) else (none)) else (none)))) else (none)) else (none))) else (none)) else (none)) else (none)) else (none))) else (impl_isView.l0 k x1 (wrap64 (x5 + 1)) x546000 x546001 x546002 x546003)
end
def impl_isView.f (k : Nat) (a0_0 : Int) (l0_1 : List Int) (l0_2 : List Int) (l0_3 : List Bool) (l1 : List Bool) : Option (Bool) := if 1 < (l1.length : Int) then (if rdOf false l1 1 = true then (if 0 < (l1.length : Int) then (impl_isView.j0 k l1 (rdOf false l1 0) a0_0 l0_1 l0_2 l0_3) else (none)) else (impl_isView.j0 k l1 true a0_0 l0_1 l0_2 l0_3)) else (none)
set_option maxHeartbeats 8000000 in
set_option maxRecDepth 100000 in
theorem impl_isView.calls (k : Nat) (a0_0 : Int) (A0_1 : Option Addr) (c0_1 : Nat) (l0_1 : List Int) (A0_2 : Option Addr) (c0_2 : Nat) (l0_2 : List Int) (A0_3 : Option Addr) (c0_3 : Nat) (l0_3 : List Bool) (A1 : Option Addr) (c1 : Nat) (l1 : List Bool) (r : Bool) (w : World) (hr0_1 : Kd.C (Kd.int .i64) w A0_1 l0_1.length l0_1) (hc0_1 : l0_1.length ≤ c0_1) (hr0_2 : Kd.C (Kd.int .i64) w A0_2 l0_2.length l0_2) (hc0_2 : l0_2.length ≤ c0_2) (hr0_3 : Kd.C Kd.bool w A0_3 l0_3.length l0_3) (hc0_3 : l0_3.length ≤ c0_3) (hr1 : Kd.C Kd.bool w A1 l1.length l1) (hc1 : l1.length ≤ c1) (h : impl_isView.f k a0_0 l0_1 l0_2 l0_3 l1 = some r) :
  Calls Try.prog 105 #[.agg #[.int .i64 a0_0, .slice A0_1 l0_1.length c0_1, .slice A0_2 l0_2.length c0_2, .slice A0_3 l0_3.length c0_3], .slice A1 l1.length c1] w fun e w' => e = .returned (.bool r) ∧ Below w.heap.size w w' := by
 have hu27 := Try.underlying27
 have HR0_1 := sd_ hr0_1
 have HC0_1 := sd_ hc0_1
 clear hr0_1 hc0_1
 have HR0_2 := sd_ hr0_2
 have HC0_2 := sd_ hc0_2
 clear hr0_2 hc0_2
 have HR0_3 := sd_ hr0_3
 have HC0_3 := sd_ hc0_3
 clear hr0_3 hc0_3
 have HR1 := sd_ hr1
 have HC1 := sd_ hc1
 clear hr1 hc1
 have HB := sd_ (Below.refl w.heap.size w)
 have H : (if 1 < (l1.length : Int) then (if rdOf false l1 1 = true then (if 0 < (l1.length : Int) then (impl_isView.j0 k l1 (rdOf false l1 0) a0_0 l0_1 l0_2 l0_3) else (none)) else (impl_isView.j0 k l1 true a0_0 l0_1 l0_2 l0_3)) else (none)) = some r := h
 clear h
 have HC3 := sd_ H
 clear H
 go_enter Try.func105, Try.ntmps105
 go_upto_region 1 with (first | ((with_reducible refine gate_dst (N := 2) rfl ?_); refine bx_ (N := 2) (cs := #[.int .i64 a0_0, .slice A0_1 l0_1.length c0_1, .slice A0_2 l0_2.length c0_2, .slice A0_3 l0_3.length c0_3]) (t := 27) ?_; intro gb545 hg w4 hbox hb; have BK545 := sd_ (hbox); have GW545 := sd_ (gs_ hg (bw0_ HB.out)); have GE545 := sd_ (gs_ hg (bw0_ HB.out)); replace HB := sd_ (below_step (bw0_ HB.out) hb); clear hb hbox hg))
 (try simp only [Act.put, List.setIfInBounds_toArray, List.set_cons_zero, List.set_cons_succ])
 go_cut [15] (fun v15 wc => ∃ (kq : Nat) (x15_2 : Bool), v15 = .bool x15_2 ∧ Aside0 (impl_isView.j0 kq l1 x15_2 a0_0 l0_1 l0_2 l0_3 = some r) ∧ Aside0 (kq ≤ k) ∧ Aside0 (wc.heap[gb545]? = some (.cells #[.int .i64 a0_0, (.slice A0_1 l0_1.length c0_1), (.slice A0_2 l0_2.length c0_2), (.slice A0_3 l0_3.length c0_3)] 27 (0, 0))) ∧ Aside0 (Below w.heap.size w wc))
 case first =>
  have H := HC3.out
  clear HC3
  by_cases c5 : 1 < (l1.length : Int)
  ·rw [if_pos c5] at H
   have c5b0 : decide (1 < (l1.length : Int)) = true := decide_eq_true c5
   have c5b1 : decide (1 < l1.length) = true := decide_eq_true (by omega)
   clear c5
   (first | rw [c5b0] | (simp only [i64_w, i32_w]; rw [c5b0]) | skip)
   obtain ⟨bq6, hbq6⟩ : ∃ b_ : Bool, b_ = (rdOf false l1 1) := ⟨_, rfl⟩
   replace H : (if bq6 = true then (if 0 < (l1.length : Int) then (impl_isView.j0 k l1 (rdOf false l1 0) a0_0 l0_1 l0_2 l0_3) else (none)) else (impl_isView.j0 k l1 true a0_0 l0_1 l0_2 l0_3)) = some r := by rw [← hbq6] at H; exact H
   have Nbq6 := sd_ hbq6
   clear hbq6
   by_cases c7 : bq6 = true
   ·subst c7
    have H1 : (if 0 < (l1.length : Int) then (impl_isView.j0 k l1 (rdOf false l1 0) a0_0 l0_1 l0_2 l0_3) else (none)) = some r := by rw [if_pos rfl] at H; exact H
    clear H
    have H := H1
    clear H1
    by_cases c8 : 0 < (l1.length : Int)
    ·rw [if_pos c8] at H
     have c8b0 : decide (0 < (l1.length : Int)) = true := decide_eq_true c8
     have c8b1 : decide (0 < l1.length) = true := decide_eq_true (by omega)
     clear c8
     have H' := sd_ H
     clear H
     have p546 : 0 ≤ (1 : Int) := (by omega)
     have q546 : 1 < (l1.length : Int) := dt_
     obtain ⟨ad546, e546, hx546_0⟩ := Kd.at_bool HR1.out 1 p546 q546
     (try rw [← Nbq6.out] at hx546_0)
     cases e546
     (try simp only [show (1 : Int).toNat = 1 from rfl, Nat.reduceMul, Nat.reduceEqDiff, Go.Addr.add, ↓reduceIte] at hx546_0)
     have qi546 : (1 < l1.length) = True := eq_true (by omega)
     (try rw [show ((1 : Int)).toNat = 1 from rfl] at hx546_0)
     replace hx546_0 := (HB.out.cell (World.block_lt_of_cell? w _ hx546_0)).trans hx546_0
     replace p546 := eq_true p546
     replace q546 := eq_true q546
     have p547 : 0 ≤ (0 : Int) := (by omega)
     have q547 : 0 < (l1.length : Int) := dt_
     obtain ⟨ad547, e547, hx547_0⟩ := Kd.at_bool HR1.out 0 p547 q547
     (try rw [← Nbq6.out] at hx547_0)
     obtain rfl : ad546 = ad547 := (by injection e547)
     have qi547 : (0 < l1.length) = True := eq_true (by omega)
     (try rw [show ((0 : Int)).toNat = 0 from rfl] at hx547_0)
     (try rw [Addr.add_zero'] at hx547_0)
     replace hx547_0 := (HB.out.cell (World.block_lt_of_cell? w _ hx547_0)).trans hx547_0
     replace p547 := eq_true p547
     replace q547 := eq_true q547
     go_wp2
     go_meet
     case rel => exact ⟨_, (rdOf false l1 0), sm_, H', ⟨by first | omega | exact Nat.le_refl _⟩, ⟨by exact bz_ BK545.out⟩, ⟨bw1_ HB.out GE545.out⟩⟩
    rw [if_neg c8] at H
    exact absurd H (by simp)
   replace c7 := Bool.eq_false_iff.mpr c7
   subst c7
   have H1 : (impl_isView.j0 k l1 true a0_0 l0_1 l0_2 l0_3) = some r := by rw [if_neg (show ¬ (false = true) by decide)] at H; exact H
   clear H
   have H := H1
   clear H1
   have H' := sd_ H
   clear H
   have p546 : 0 ≤ (1 : Int) := (by omega)
   have q546 : 1 < (l1.length : Int) := dt_
   obtain ⟨ad546, e546, hx546_0⟩ := Kd.at_bool HR1.out 1 p546 q546
   (try rw [← Nbq6.out] at hx546_0)
   cases e546
   (try simp only [show (1 : Int).toNat = 1 from rfl, Nat.reduceMul, Nat.reduceEqDiff, Go.Addr.add, ↓reduceIte] at hx546_0)
   have qi546 : (1 < l1.length) = True := eq_true (by omega)
   (try rw [show ((1 : Int)).toNat = 1 from rfl] at hx546_0)
   replace hx546_0 := (HB.out.cell (World.block_lt_of_cell? w _ hx546_0)).trans hx546_0
   replace p546 := eq_true p546
   replace q546 := eq_true q546
   go_wp2
   go_meet
   case rel => exact ⟨_, (true), sm_, H', ⟨by first | omega | exact Nat.le_refl _⟩, ⟨by exact bz_ BK545.out⟩, ⟨bw1_ HB.out GE545.out⟩⟩
  rw [if_neg c5] at H
  exact absurd H (by simp)
 case rest =>
  clear HC3
  try clear c1
  obtain ⟨kq, x15_2, rfl, HA, HJ2, BK545, HB⟩ := hcut
  cases kq with
  | zero => exact absurd HA.out (by simp [impl_isView.j0])
  | succ kj2 =>
   have H := HA.out
   clear HA
   simp only [impl_isView.j0] at H
   by_cases c9 : x15_2 = true
   ·subst c9
    have H1 : (some false) = some r := by rw [if_pos rfl] at H; exact H
    clear H
    have H := H1
    clear H1
    obtain rfl := Option.some.inj H
    go_wp2
    go_ret
    exact ⟨an_, bw1_ HB.out GE545.out⟩
   replace c9 := Bool.eq_false_iff.mpr c9
   subst c9
   have H1 : (impl_isView.l0 kj2 l1 0 a0_0 l0_1 l0_2 l0_3) = some r := by rw [if_neg (show ¬ (false = true) by decide)] at H; exact H
   clear H
   have H := H1
   clear H1
   have H' := sd_ H
   clear H
   go_wp2
   go_loopg [5] kj2 (fun kq v5 w' => ∃ (x5_2 : Int), v5 = .int .i64 x5_2 ∧ Aside0 (impl_isView.l0 kq l1 x5_2 a0_0 l0_1 l0_2 l0_3 = some r) ∧ Aside0 (kq ≤ kj2) ∧ Aside0 (w'.heap[gb545]? = some (.cells #[.int .i64 a0_0, (.slice A0_1 l0_1.length c0_1), (.slice A0_2 l0_2.length c0_2), (.slice A0_3 l0_3.length c0_3)] 27 (0, 0))) ∧ Aside0 (Below w.heap.size w w'))
   case atStart => exact ⟨(0), sm_, H', ⟨Nat.le_refl _⟩, ⟨by exact bz_ BK545.out⟩, ⟨bw1_ HB.out GE545.out⟩⟩
   case round =>
    clear H'
    try clear c1
    try clear p2
    try clear c9
    obtain ⟨x5_2, rfl, HA, HK2, BK545, HB⟩ := hrel
    cases gk with
    | zero => exact absurd HA.out (by simp [impl_isView.l0])
    | succ k2 =>
     have H := HA.out
     clear HA
     simp only [impl_isView.l0] at H
     by_cases c10 : x5_2 < a0_0
     ·rw [if_pos c10] at H
      have c10b0 : decide (x5_2 < a0_0) = true := decide_eq_true c10
      clear c10
      have H' := sd_ H
      clear H
      obtain ⟨hcz11_0, hcz11_1, hcz11_2, hcz11_3, hfz11_0, hfz11_1, hfz11_2, hfz11_3⟩ := bf4_ BK545.out
      go_wp2
      go_loopg [6] k2 (fun kq v6 w' => ∃ (x6_3 : Int), v6 = .int .i64 x6_3 ∧ Aside0 (impl_isView.l1 kq l1 x5_2 x6_3 a0_0 l0_1 l0_2 l0_3 = some r) ∧ Aside0 (kq ≤ k2) ∧ Aside0 (w'.heap[gb545]? = some (.cells #[.int .i64 a0_0, (.slice A0_1 l0_1.length c0_1), (.slice A0_2 l0_2.length c0_2), (.slice A0_3 l0_3.length c0_3)] 27 (0, 0))) ∧ Aside0 (Below w.heap.size w w'))
      case atStart => exact ⟨(0), sm_, H', ⟨Nat.le_refl _⟩, ⟨by exact bz_ BK545.out⟩, ⟨bw1_ HB.out GE545.out⟩⟩
      case round =>
       clear H'
       try clear c1
       try clear p2
       try clear c9
       try clear c10
       try clear c10b0
       try clear hcz11_0
       try clear hcz11_1
       try clear hcz11_2
       try clear hcz11_3
       try clear hfz11_0
       try clear hfz11_1
       try clear hfz11_2
       try clear hfz11_3
       try clear p2
       obtain ⟨x6_3, rfl, HA, HK3, BK545, HB⟩ := hrel
       cases gk with
       | zero => exact absurd HA.out (by simp [impl_isView.l1])
       | succ k3 =>
        have H := HA.out
        clear HA
        simp only [impl_isView.l1] at H
        by_cases c12 : x6_3 < a0_0
        ·rw [if_pos c12] at H
         have c12b0 : decide (x6_3 < a0_0) = true := decide_eq_true c12
         clear c12
         replace H := Option.bind_eq_some_iff.mp H
         obtain ⟨t548, A130, H⟩ := H
         try dsimp only at H
         have A13 := sd_ A130
         clear A130
         by_cases c14 : 0 ≤ t548
         ·rw [if_pos c14] at H
          have c14b0 : decide (0 ≤ t548) = true := decide_eq_true c14
          clear c14
          by_cases c15 : t548 < (l1.length : Int)
          ·rw [if_pos c15] at H
           have c15b0 : decide (t548 < (l1.length : Int)) = true := decide_eq_true c15
           clear c15
           by_cases c16 : 0 ≤ x5_2
           ·rw [if_pos c16] at H
            have c16b0 : decide (0 ≤ x5_2) = true := decide_eq_true c16
            clear c16
            by_cases c17 : x5_2 < (l1.length : Int)
            ·rw [if_pos c17] at H
             have c17b0 : decide (x5_2 < (l1.length : Int)) = true := decide_eq_true c17
             clear c17
             obtain ⟨bq18, hbq18⟩ : ∃ b_ : Bool, b_ = (rdOf false l1 x5_2) := ⟨_, rfl⟩
             replace H : (if bq18 = true then (if ((rdOf false l1 t548) != true) = true then (some false) else ((impl_System_times.f a0_0 l0_1 l0_2 l0_3 x5_2 x6_3).bind fun t551 => (if 0 ≤ t551 then (if t551 < (l1.length : Int) then (if 0 ≤ x6_3 then (if x6_3 < (l1.length : Int) then (if ((rdOf false l1 t551) != (rdOf false l1 x6_3)) = true then (some false) else ((impl_System_below.f a0_0 l0_1 l0_2 l0_3 x5_2 x6_3).bind fun t556 => (if t556 = true then (if rdOf false l1 x6_3 = true then (impl_isView.l1 k3 l1 x5_2 (wrap64 (x6_3 + 1)) a0_0 l0_1 l0_2 l0_3) else (some false)) else (impl_isView.l1 k3 l1 x5_2 (wrap64 (x6_3 + 1)) a0_0 l0_1 l0_2 l0_3)))) else (none)) else (none)) else (none)) else (none)))) else (if 0 ≤ x6_3 then (if x6_3 < (l1.length : Int) then (if ((rdOf false l1 t548) != (rdOf false l1 x6_3)) = true then (some false) else ((impl_System_times.f a0_0 l0_1 l0_2 l0_3 x5_2 x6_3).bind fun t559 => (if 0 ≤ t559 then (if t559 < (l1.length : Int) then (if ((rdOf false l1 t559) != false) = true then (some false) else (impl_isView.l1 k3 l1 x5_2 (wrap64 (x6_3 + 1)) a0_0 l0_1 l0_2 l0_3)) else (none)) else (none)))) else (none)) else (none))) = some r := by rw [← hbq18] at H; exact H
             have Nbq18 := sd_ hbq18
             clear hbq18
             by_cases c19 : bq18 = true
             ·subst c19
              have H1 : (if ((rdOf false l1 t548) != true) = true then (some false) else ((impl_System_times.f a0_0 l0_1 l0_2 l0_3 x5_2 x6_3).bind fun t551 => (if 0 ≤ t551 then (if t551 < (l1.length : Int) then (if 0 ≤ x6_3 then (if x6_3 < (l1.length : Int) then (if ((rdOf false l1 t551) != (rdOf false l1 x6_3)) = true then (some false) else ((impl_System_below.f a0_0 l0_1 l0_2 l0_3 x5_2 x6_3).bind fun t556 => (if t556 = true then (if rdOf false l1 x6_3 = true then (impl_isView.l1 k3 l1 x5_2 (wrap64 (x6_3 + 1)) a0_0 l0_1 l0_2 l0_3) else (some false)) else (impl_isView.l1 k3 l1 x5_2 (wrap64 (x6_3 + 1)) a0_0 l0_1 l0_2 l0_3)))) else (none)) else (none)) else (none)) else (none)))) = some r := by rw [if_pos rfl] at H; exact H
              clear H
              have H := H1
              clear H1
              by_cases c20 : ((rdOf false l1 t548) != true) = true
              ·rw [if_pos c20] at H
               have c20b0 : ((rdOf false l1 t548) != true) = true := c20
               (try (have c20b1 : decide ((rdOf false l1 t548) = true) = false := by simpa using c20))
               (try (have c20b2 : ((rdOf false l1 t548) == true) = false := by simpa using c20))
               (try (have c20b3 : ¬ ((rdOf false l1 t548) = true) := by simpa using c20))
               clear c20
               obtain rfl := Option.some.inj H
               obtain ⟨hcz21_0, hcz21_1, hcz21_2, hcz21_3, hfz21_0, hfz21_1, hfz21_2, hfz21_3⟩ := bf4_ BK545.out
               try go_wp2
               (try (have c20s := c20b0; (try simp only [← Nbq18.out] at c20s); (try simp at c20s)))
               have p549 : 0 ≤ (t548 : Int) := dt_
               have q549 : t548 < (l1.length : Int) := dt_
               obtain ⟨ad549, e549, hx549_0⟩ := Kd.at_bool HR1.out t548 p549 q549
               (try rw [← Nbq18.out] at hx549_0)
               cases e549
               replace hx549_0 := (HB.out.cell (World.block_lt_of_cell? w _ hx549_0)).trans hx549_0
               replace p549 := eq_true p549
               replace q549 := eq_true q549
               have p550 : 0 ≤ (x5_2 : Int) := dt_
               have q550 : x5_2 < (l1.length : Int) := dt_
               obtain ⟨ad550, e550, hx550_0⟩ := Kd.at_bool HR1.out x5_2 p550 q550
               (try rw [← Nbq18.out] at hx550_0)
               obtain rfl : ad549 = ad550 := (by injection e550)
               replace hx550_0 := (HB.out.cell (World.block_lt_of_cell? w _ hx550_0)).trans hx550_0
               replace p550 := eq_true p550
               replace q550 := eq_true q550
               refine qb_region (by kernel_rfl) (by kernel_rfl) ?_
               have HQ := fun (wq : World) (hq : Below wr.heap.size wr wq) => below_step HB.out hq
               repeat ((first | (apply qb_skip; (focus rfl)) | (refine qb_callN 32 rfl ?_; apply qb_call 32 rfl Try.func67 (by kernel_rfl) rfl rfl; (focus rfl); (focus (exact fun wq9 hb9 => qb_b hb9 (impl_System_plus.calls a0_0 _ _ l0_1 _ _ l0_2 _ _ l0_3 x5_2 x6_3 t548 _ (Kd.C_below HR0_1.out (HQ _ hb9)) HC0_1.out (Kd.C_below HR0_2.out (HQ _ hb9)) HC0_2.out (Kd.C_below HR0_3.out (HQ _ hb9)) HC0_3.out A13.out))); (focus (rfl))) | (apply qb_val; (focus rfl); (focus (intro wq9 _; go_simp; with_reducible rfl))) | (apply qb_val; (focus rfl); (focus (intro wq9 hb9_; have hb9 : Below wr.heap.size wr wq9 := hb9_; have BK545 := sd_ (blk_below BK545.out hb9); have hc9_545_0 : wq9.cell? ⟨gb545, 0, none⟩ = some (.int .i64 a0_0) := (blk_cell BK545.out 0).trans rfl; have hc9_545_1 : wq9.cell? ⟨gb545, 1, none⟩ = some (.slice A0_1 l0_1.length c0_1) := (blk_cell BK545.out 1).trans rfl; have hc9_545_2 : wq9.cell? ⟨gb545, 2, none⟩ = some (.slice A0_2 l0_2.length c0_2) := (blk_cell BK545.out 2).trans rfl; have hc9_545_3 : wq9.cell? ⟨gb545, 3, none⟩ = some (.slice A0_3 l0_3.length c0_3) := (blk_cell BK545.out 3).trans rfl; have hx549_0 := (hb9.cell (World.block_lt_of_cell? _ _ hx549_0)).trans hx549_0; have hx550_0 := (hb9.cell (World.block_lt_of_cell? _ _ hx550_0)).trans hx550_0; go_simp; with_reducible rfl)))); (focus (simp only [Act.put, List.setIfInBounds_toArray, List.set_cons_zero, List.set_cons_succ, i64_w, i32_w]; rfl)))
               refine qb_nil ?_
               intro w23 hb
               replace BK545 := sd_ (blk_below BK545.out hb)
               replace HB := sd_ (below_step HB.out hb)
               clear hb
               (try clear HQ)
               try go_wp2
               go_ret
               exact ⟨an_, bw1_ HB.out GE545.out⟩
              rw [if_neg c20] at H
              have c20b0 : ((rdOf false l1 t548) != true) = false := by simpa using c20
              (try (have c20b1 : decide ((rdOf false l1 t548) = true) = true := by simpa using c20))
              (try (have c20b2 : ((rdOf false l1 t548) == true) = true := by simpa using c20))
              clear c20
              replace H := Option.bind_eq_some_iff.mp H
              obtain ⟨t551, A240, H⟩ := H
              try dsimp only at H
              have A24 := sd_ A240
              clear A240
              by_cases c25 : 0 ≤ t551
              ·rw [if_pos c25] at H
               have c25b0 : decide (0 ≤ t551) = true := decide_eq_true c25
               clear c25
               by_cases c26 : t551 < (l1.length : Int)
               ·rw [if_pos c26] at H
                have c26b0 : decide (t551 < (l1.length : Int)) = true := decide_eq_true c26
                clear c26
                by_cases c27 : 0 ≤ x6_3
                ·rw [if_pos c27] at H
                 have c27b0 : decide (0 ≤ x6_3) = true := decide_eq_true c27
                 clear c27
                 by_cases c28 : x6_3 < (l1.length : Int)
                 ·rw [if_pos c28] at H
                  have c28b0 : decide (x6_3 < (l1.length : Int)) = true := decide_eq_true c28
                  clear c28
                  by_cases c29 : ((rdOf false l1 t551) != (rdOf false l1 x6_3)) = true
                  ·rw [if_pos c29] at H
                   have c29b0 : ((rdOf false l1 t551) != (rdOf false l1 x6_3)) = true := c29
                   (try (have c29b1 : decide ((rdOf false l1 t551) = (rdOf false l1 x6_3)) = false := by simpa using c29))
                   (try (have c29b2 : ((rdOf false l1 t551) == (rdOf false l1 x6_3)) = false := by simpa using c29))
                   (try (have c29b3 : ¬ ((rdOf false l1 t551) = (rdOf false l1 x6_3)) := by simpa using c29))
                   clear c29
                   obtain rfl := Option.some.inj H
                   obtain ⟨hcz30_0, hcz30_1, hcz30_2, hcz30_3, hfz30_0, hfz30_1, hfz30_2, hfz30_3⟩ := bf4_ BK545.out
                   try go_wp2
                   (try (have c20s := c20b0; (try simp only [← Nbq18.out] at c20s); (try simp at c20s)))
                   (try (have c29s := c29b0; (try simp only [← Nbq18.out] at c29s); (try simp at c29s)))
                   have p549 : 0 ≤ (t548 : Int) := dt_
                   have q549 : t548 < (l1.length : Int) := dt_
                   obtain ⟨ad549, e549, hx549_0⟩ := Kd.at_bool HR1.out t548 p549 q549
                   (try rw [← Nbq18.out] at hx549_0)
                   cases e549
                   replace hx549_0 := (HB.out.cell (World.block_lt_of_cell? w _ hx549_0)).trans hx549_0
                   replace p549 := eq_true p549
                   replace q549 := eq_true q549
                   have p550 : 0 ≤ (x5_2 : Int) := dt_
                   have q550 : x5_2 < (l1.length : Int) := dt_
                   obtain ⟨ad550, e550, hx550_0⟩ := Kd.at_bool HR1.out x5_2 p550 q550
                   (try rw [← Nbq18.out] at hx550_0)
                   obtain rfl : ad549 = ad550 := (by injection e550)
                   replace hx550_0 := (HB.out.cell (World.block_lt_of_cell? w _ hx550_0)).trans hx550_0
                   replace p550 := eq_true p550
                   replace q550 := eq_true q550
                   have p552 : 0 ≤ (t551 : Int) := dt_
                   have q552 : t551 < (l1.length : Int) := dt_
                   obtain ⟨ad552, e552, hx552_0⟩ := Kd.at_bool HR1.out t551 p552 q552
                   (try rw [← Nbq18.out] at hx552_0)
                   obtain rfl : ad549 = ad552 := (by injection e552)
                   replace hx552_0 := (HB.out.cell (World.block_lt_of_cell? w _ hx552_0)).trans hx552_0
                   replace p552 := eq_true p552
                   replace q552 := eq_true q552
                   have p553 : 0 ≤ (x5_2 : Int) := dt_
                   have q553 : x5_2 < (l1.length : Int) := dt_
                   obtain ⟨ad553, e553, hx553_0⟩ := Kd.at_bool HR1.out x5_2 p553 q553
                   (try rw [← Nbq18.out] at hx553_0)
                   obtain rfl : ad549 = ad553 := (by injection e553)
                   replace hx553_0 := (HB.out.cell (World.block_lt_of_cell? w _ hx553_0)).trans hx553_0
                   replace p553 := eq_true p553
                   replace q553 := eq_true q553
                   have p554 : 0 ≤ (x6_3 : Int) := dt_
                   have q554 : x6_3 < (l1.length : Int) := dt_
                   obtain ⟨ad554, e554, hx554_0⟩ := Kd.at_bool HR1.out x6_3 p554 q554
                   (try rw [← Nbq18.out] at hx554_0)
                   obtain rfl : ad549 = ad554 := (by injection e554)
                   replace hx554_0 := (HB.out.cell (World.block_lt_of_cell? w _ hx554_0)).trans hx554_0
                   replace p554 := eq_true p554
                   replace q554 := eq_true q554
                   refine qb_region (by kernel_rfl) (by kernel_rfl) ?_
                   have HQ := fun (wq : World) (hq : Below wr.heap.size wr wq) => below_step HB.out hq
                   repeat ((first | (apply qb_skip; (focus rfl)) | (refine qb_callN 32 rfl ?_; apply qb_call 32 rfl Try.func67 (by kernel_rfl) rfl rfl; (focus rfl); (focus (exact fun wq9 hb9 => qb_b hb9 (impl_System_plus.calls a0_0 _ _ l0_1 _ _ l0_2 _ _ l0_3 x5_2 x6_3 t548 _ (Kd.C_below HR0_1.out (HQ _ hb9)) HC0_1.out (Kd.C_below HR0_2.out (HQ _ hb9)) HC0_2.out (Kd.C_below HR0_3.out (HQ _ hb9)) HC0_3.out A13.out))); (focus (rfl))) | (refine qb_callN 51 rfl ?_; apply qb_call 51 rfl Try.func69 (by kernel_rfl) rfl rfl; (focus rfl); (focus (exact fun wq9 hb9 => qb_b hb9 (impl_System_times.calls a0_0 _ _ l0_1 _ _ l0_2 _ _ l0_3 x5_2 x6_3 t551 _ (Kd.C_below HR0_1.out (HQ _ hb9)) HC0_1.out (Kd.C_below HR0_2.out (HQ _ hb9)) HC0_2.out (Kd.C_below HR0_3.out (HQ _ hb9)) HC0_3.out A24.out))); (focus (rfl))) | (apply qb_val; (focus rfl); (focus (intro wq9 _; go_simp; with_reducible rfl))) | (apply qb_val; (focus rfl); (focus (intro wq9 hb9_; have hb9 : Below wr.heap.size wr wq9 := hb9_; have BK545 := sd_ (blk_below BK545.out hb9); have hc9_545_0 : wq9.cell? ⟨gb545, 0, none⟩ = some (.int .i64 a0_0) := (blk_cell BK545.out 0).trans rfl; have hc9_545_1 : wq9.cell? ⟨gb545, 1, none⟩ = some (.slice A0_1 l0_1.length c0_1) := (blk_cell BK545.out 1).trans rfl; have hc9_545_2 : wq9.cell? ⟨gb545, 2, none⟩ = some (.slice A0_2 l0_2.length c0_2) := (blk_cell BK545.out 2).trans rfl; have hc9_545_3 : wq9.cell? ⟨gb545, 3, none⟩ = some (.slice A0_3 l0_3.length c0_3) := (blk_cell BK545.out 3).trans rfl; have hx549_0 := (hb9.cell (World.block_lt_of_cell? _ _ hx549_0)).trans hx549_0; have hx550_0 := (hb9.cell (World.block_lt_of_cell? _ _ hx550_0)).trans hx550_0; have hx552_0 := (hb9.cell (World.block_lt_of_cell? _ _ hx552_0)).trans hx552_0; have hx553_0 := (hb9.cell (World.block_lt_of_cell? _ _ hx553_0)).trans hx553_0; have hx554_0 := (hb9.cell (World.block_lt_of_cell? _ _ hx554_0)).trans hx554_0; go_simp; with_reducible rfl)))); (focus (simp only [Act.put, List.setIfInBounds_toArray, List.set_cons_zero, List.set_cons_succ, i64_w, i32_w]; rfl)))
                   refine qb_nil ?_
                   intro w33 hb
                   replace BK545 := sd_ (blk_below BK545.out hb)
                   replace HB := sd_ (below_step HB.out hb)
                   clear hb
                   (try clear HQ)
                   try go_wp2
                   go_ret
                   exact ⟨an_, bw1_ HB.out GE545.out⟩
                  rw [if_neg c29] at H
                  have c29b0 : ((rdOf false l1 t551) != (rdOf false l1 x6_3)) = false := by simpa using c29
                  (try (have c29b1 : decide ((rdOf false l1 t551) = (rdOf false l1 x6_3)) = true := by simpa using c29))
                  (try (have c29b2 : ((rdOf false l1 t551) == (rdOf false l1 x6_3)) = true := by simpa using c29))
                  clear c29
                  replace H := Option.bind_eq_some_iff.mp H
                  obtain ⟨t556, A340, H⟩ := H
                  try dsimp only at H
                  have A34 := sd_ A340
                  clear A340
                  by_cases c35 : t556 = true
                  ·subst c35
                   have H1 : (if rdOf false l1 x6_3 = true then (impl_isView.l1 k3 l1 x5_2 (wrap64 (x6_3 + 1)) a0_0 l0_1 l0_2 l0_3) else (some false)) = some r := by rw [if_pos rfl] at H; exact H
                   clear H
                   have H := H1
                   clear H1
                   obtain ⟨bq36, hbq36⟩ : ∃ b_ : Bool, b_ = (rdOf false l1 x6_3) := ⟨_, rfl⟩
                   replace H : (if bq36 = true then (impl_isView.l1 k3 l1 x5_2 (wrap64 (x6_3 + 1)) a0_0 l0_1 l0_2 l0_3) else (some false)) = some r := by rw [← hbq36] at H; exact H
                   have Nbq36 := sd_ hbq36
                   clear hbq36
                   by_cases c37 : bq36 = true
                   ·subst c37
                    have H1 : (impl_isView.l1 k3 l1 x5_2 (wrap64 (x6_3 + 1)) a0_0 l0_1 l0_2 l0_3) = some r := by rw [if_pos rfl] at H; exact H
                    clear H
                    have H := H1
                    clear H1
                    have H' := sd_ H
                    clear H
                    obtain ⟨hcz38_0, hcz38_1, hcz38_2, hcz38_3, hfz38_0, hfz38_1, hfz38_2, hfz38_3⟩ := bf4_ BK545.out
                    try go_wp2
                    (try (have c20s := c20b0; (try simp only [← Nbq18.out, ← Nbq36.out] at c20s); (try simp at c20s)))
                    (try (have c29s := c29b0; (try simp only [← Nbq18.out, ← Nbq36.out] at c29s); (try simp at c29s)))
                    have p549 : 0 ≤ (t548 : Int) := dt_
                    have q549 : t548 < (l1.length : Int) := dt_
                    obtain ⟨ad549, e549, hx549_0⟩ := Kd.at_bool HR1.out t548 p549 q549
                    (try rw [← Nbq18.out] at hx549_0)
                    (try rw [← Nbq36.out] at hx549_0)
                    cases e549
                    replace hx549_0 := (HB.out.cell (World.block_lt_of_cell? w _ hx549_0)).trans hx549_0
                    replace p549 := eq_true p549
                    replace q549 := eq_true q549
                    have p550 : 0 ≤ (x5_2 : Int) := dt_
                    have q550 : x5_2 < (l1.length : Int) := dt_
                    obtain ⟨ad550, e550, hx550_0⟩ := Kd.at_bool HR1.out x5_2 p550 q550
                    (try rw [← Nbq18.out] at hx550_0)
                    (try rw [← Nbq36.out] at hx550_0)
                    obtain rfl : ad549 = ad550 := (by injection e550)
                    replace hx550_0 := (HB.out.cell (World.block_lt_of_cell? w _ hx550_0)).trans hx550_0
                    replace p550 := eq_true p550
                    replace q550 := eq_true q550
                    have p552 : 0 ≤ (t551 : Int) := dt_
                    have q552 : t551 < (l1.length : Int) := dt_
                    obtain ⟨ad552, e552, hx552_0⟩ := Kd.at_bool HR1.out t551 p552 q552
                    (try rw [← Nbq18.out] at hx552_0)
                    (try rw [← Nbq36.out] at hx552_0)
                    obtain rfl : ad549 = ad552 := (by injection e552)
                    replace hx552_0 := (HB.out.cell (World.block_lt_of_cell? w _ hx552_0)).trans hx552_0
                    replace p552 := eq_true p552
                    replace q552 := eq_true q552
                    have p553 : 0 ≤ (x5_2 : Int) := dt_
                    have q553 : x5_2 < (l1.length : Int) := dt_
                    obtain ⟨ad553, e553, hx553_0⟩ := Kd.at_bool HR1.out x5_2 p553 q553
                    (try rw [← Nbq18.out] at hx553_0)
                    (try rw [← Nbq36.out] at hx553_0)
                    obtain rfl : ad549 = ad553 := (by injection e553)
                    replace hx553_0 := (HB.out.cell (World.block_lt_of_cell? w _ hx553_0)).trans hx553_0
                    replace p553 := eq_true p553
                    replace q553 := eq_true q553
                    have p554 : 0 ≤ (x6_3 : Int) := dt_
                    have q554 : x6_3 < (l1.length : Int) := dt_
                    obtain ⟨ad554, e554, hx554_0⟩ := Kd.at_bool HR1.out x6_3 p554 q554
                    (try rw [← Nbq18.out] at hx554_0)
                    (try rw [← Nbq36.out] at hx554_0)
                    obtain rfl : ad549 = ad554 := (by injection e554)
                    replace hx554_0 := (HB.out.cell (World.block_lt_of_cell? w _ hx554_0)).trans hx554_0
                    replace p554 := eq_true p554
                    replace q554 := eq_true q554
                    have p555 : 0 ≤ (x5_2 : Int) := dt_
                    have q555 : x5_2 < (l1.length : Int) := dt_
                    obtain ⟨ad555, e555, hx555_0⟩ := Kd.at_bool HR1.out x5_2 p555 q555
                    (try rw [← Nbq18.out] at hx555_0)
                    (try rw [← Nbq36.out] at hx555_0)
                    obtain rfl : ad549 = ad555 := (by injection e555)
                    replace hx555_0 := (HB.out.cell (World.block_lt_of_cell? w _ hx555_0)).trans hx555_0
                    replace p555 := eq_true p555
                    replace q555 := eq_true q555
                    have p557 : 0 ≤ (x6_3 : Int) := dt_
                    have q557 : x6_3 < (l1.length : Int) := dt_
                    obtain ⟨ad557, e557, hx557_0⟩ := Kd.at_bool HR1.out x6_3 p557 q557
                    (try rw [← Nbq18.out] at hx557_0)
                    (try rw [← Nbq36.out] at hx557_0)
                    obtain rfl : ad549 = ad557 := (by injection e557)
                    replace hx557_0 := (HB.out.cell (World.block_lt_of_cell? w _ hx557_0)).trans hx557_0
                    replace p557 := eq_true p557
                    replace q557 := eq_true q557
                    refine qb_region (by kernel_rfl) (by kernel_rfl) ?_
                    have HQ := fun (wq : World) (hq : Below wr.heap.size wr wq) => below_step HB.out hq
                    repeat ((first | (apply qb_skip; (focus rfl)) | (refine qb_callN 32 rfl ?_; apply qb_call 32 rfl Try.func67 (by kernel_rfl) rfl rfl; (focus rfl); (focus (exact fun wq9 hb9 => qb_b hb9 (impl_System_plus.calls a0_0 _ _ l0_1 _ _ l0_2 _ _ l0_3 x5_2 x6_3 t548 _ (Kd.C_below HR0_1.out (HQ _ hb9)) HC0_1.out (Kd.C_below HR0_2.out (HQ _ hb9)) HC0_2.out (Kd.C_below HR0_3.out (HQ _ hb9)) HC0_3.out A13.out))); (focus (rfl))) | (refine qb_callN 51 rfl ?_; apply qb_call 51 rfl Try.func69 (by kernel_rfl) rfl rfl; (focus rfl); (focus (exact fun wq9 hb9 => qb_b hb9 (impl_System_times.calls a0_0 _ _ l0_1 _ _ l0_2 _ _ l0_3 x5_2 x6_3 t551 _ (Kd.C_below HR0_1.out (HQ _ hb9)) HC0_1.out (Kd.C_below HR0_2.out (HQ _ hb9)) HC0_2.out (Kd.C_below HR0_3.out (HQ _ hb9)) HC0_3.out A24.out))); (focus (rfl))) | (refine qb_callN 75 rfl ?_; apply qb_call 75 rfl Try.func71 (by kernel_rfl) rfl rfl; (focus rfl); (focus (exact fun wq9 hb9 => qb_b hb9 (impl_System_below.calls a0_0 _ _ l0_1 _ _ l0_2 _ _ l0_3 x5_2 x6_3 true _ (Kd.C_below HR0_1.out (HQ _ hb9)) HC0_1.out (Kd.C_below HR0_2.out (HQ _ hb9)) HC0_2.out (Kd.C_below HR0_3.out (HQ _ hb9)) HC0_3.out A34.out))); (focus (rfl))) | (apply qb_val; (focus rfl); (focus (intro wq9 _; go_simp; with_reducible rfl))) | (apply qb_val; (focus rfl); (focus (intro wq9 hb9_; have hb9 : Below wr.heap.size wr wq9 := hb9_; have BK545 := sd_ (blk_below BK545.out hb9); have hc9_545_0 : wq9.cell? ⟨gb545, 0, none⟩ = some (.int .i64 a0_0) := (blk_cell BK545.out 0).trans rfl; have hc9_545_1 : wq9.cell? ⟨gb545, 1, none⟩ = some (.slice A0_1 l0_1.length c0_1) := (blk_cell BK545.out 1).trans rfl; have hc9_545_2 : wq9.cell? ⟨gb545, 2, none⟩ = some (.slice A0_2 l0_2.length c0_2) := (blk_cell BK545.out 2).trans rfl; have hc9_545_3 : wq9.cell? ⟨gb545, 3, none⟩ = some (.slice A0_3 l0_3.length c0_3) := (blk_cell BK545.out 3).trans rfl; have hx549_0 := (hb9.cell (World.block_lt_of_cell? _ _ hx549_0)).trans hx549_0; have hx550_0 := (hb9.cell (World.block_lt_of_cell? _ _ hx550_0)).trans hx550_0; have hx552_0 := (hb9.cell (World.block_lt_of_cell? _ _ hx552_0)).trans hx552_0; have hx553_0 := (hb9.cell (World.block_lt_of_cell? _ _ hx553_0)).trans hx553_0; have hx554_0 := (hb9.cell (World.block_lt_of_cell? _ _ hx554_0)).trans hx554_0; have hx555_0 := (hb9.cell (World.block_lt_of_cell? _ _ hx555_0)).trans hx555_0; have hx557_0 := (hb9.cell (World.block_lt_of_cell? _ _ hx557_0)).trans hx557_0; go_simp; with_reducible rfl)))); (focus (simp only [Act.put, List.setIfInBounds_toArray, List.set_cons_zero, List.set_cons_succ, i64_w, i32_w]; rfl)))
                    refine qb_nil ?_
                    intro w42 hb
                    replace BK545 := sd_ (blk_below BK545.out hb)
                    replace HB := sd_ (below_step HB.out hb)
                    clear hb
                    (try clear HQ)
                    try go_wp2
                    go_roundg k3
                    case measure => have := HJ2.out; have := HK2.out; have := HK3.out; omega
                    case rel => exact ⟨(wrap64 (x6_3 + 1)), sm_, H', ⟨by have := HJ2.out; have := HK2.out; have := HK3.out; omega⟩, ⟨by exact bz_ BK545.out⟩, ⟨bw1_ HB.out GE545.out⟩⟩
                   replace c37 := Bool.eq_false_iff.mpr c37
                   subst c37
                   have H1 : (some false) = some r := by rw [if_neg (show ¬ (false = true) by decide)] at H; exact H
                   clear H
                   have H := H1
                   clear H1
                   obtain rfl := Option.some.inj H
                   obtain ⟨hcz43_0, hcz43_1, hcz43_2, hcz43_3, hfz43_0, hfz43_1, hfz43_2, hfz43_3⟩ := bf4_ BK545.out
                   try go_wp2
                   (try (have c20s := c20b0; (try simp only [← Nbq18.out, ← Nbq36.out] at c20s); (try simp at c20s)))
                   (try (have c29s := c29b0; (try simp only [← Nbq18.out, ← Nbq36.out] at c29s); (try simp at c29s)))
                   have p549 : 0 ≤ (t548 : Int) := dt_
                   have q549 : t548 < (l1.length : Int) := dt_
                   obtain ⟨ad549, e549, hx549_0⟩ := Kd.at_bool HR1.out t548 p549 q549
                   (try rw [← Nbq18.out] at hx549_0)
                   (try rw [← Nbq36.out] at hx549_0)
                   cases e549
                   replace hx549_0 := (HB.out.cell (World.block_lt_of_cell? w _ hx549_0)).trans hx549_0
                   replace p549 := eq_true p549
                   replace q549 := eq_true q549
                   have p550 : 0 ≤ (x5_2 : Int) := dt_
                   have q550 : x5_2 < (l1.length : Int) := dt_
                   obtain ⟨ad550, e550, hx550_0⟩ := Kd.at_bool HR1.out x5_2 p550 q550
                   (try rw [← Nbq18.out] at hx550_0)
                   (try rw [← Nbq36.out] at hx550_0)
                   obtain rfl : ad549 = ad550 := (by injection e550)
                   replace hx550_0 := (HB.out.cell (World.block_lt_of_cell? w _ hx550_0)).trans hx550_0
                   replace p550 := eq_true p550
                   replace q550 := eq_true q550
                   have p552 : 0 ≤ (t551 : Int) := dt_
                   have q552 : t551 < (l1.length : Int) := dt_
                   obtain ⟨ad552, e552, hx552_0⟩ := Kd.at_bool HR1.out t551 p552 q552
                   (try rw [← Nbq18.out] at hx552_0)
                   (try rw [← Nbq36.out] at hx552_0)
                   obtain rfl : ad549 = ad552 := (by injection e552)
                   replace hx552_0 := (HB.out.cell (World.block_lt_of_cell? w _ hx552_0)).trans hx552_0
                   replace p552 := eq_true p552
                   replace q552 := eq_true q552
                   have p553 : 0 ≤ (x5_2 : Int) := dt_
                   have q553 : x5_2 < (l1.length : Int) := dt_
                   obtain ⟨ad553, e553, hx553_0⟩ := Kd.at_bool HR1.out x5_2 p553 q553
                   (try rw [← Nbq18.out] at hx553_0)
                   (try rw [← Nbq36.out] at hx553_0)
                   obtain rfl : ad549 = ad553 := (by injection e553)
                   replace hx553_0 := (HB.out.cell (World.block_lt_of_cell? w _ hx553_0)).trans hx553_0
                   replace p553 := eq_true p553
                   replace q553 := eq_true q553
                   have p554 : 0 ≤ (x6_3 : Int) := dt_
                   have q554 : x6_3 < (l1.length : Int) := dt_
                   obtain ⟨ad554, e554, hx554_0⟩ := Kd.at_bool HR1.out x6_3 p554 q554
                   (try rw [← Nbq18.out] at hx554_0)
                   (try rw [← Nbq36.out] at hx554_0)
                   obtain rfl : ad549 = ad554 := (by injection e554)
                   replace hx554_0 := (HB.out.cell (World.block_lt_of_cell? w _ hx554_0)).trans hx554_0
                   replace p554 := eq_true p554
                   replace q554 := eq_true q554
                   have p555 : 0 ≤ (x5_2 : Int) := dt_
                   have q555 : x5_2 < (l1.length : Int) := dt_
                   obtain ⟨ad555, e555, hx555_0⟩ := Kd.at_bool HR1.out x5_2 p555 q555
                   (try rw [← Nbq18.out] at hx555_0)
                   (try rw [← Nbq36.out] at hx555_0)
                   obtain rfl : ad549 = ad555 := (by injection e555)
                   replace hx555_0 := (HB.out.cell (World.block_lt_of_cell? w _ hx555_0)).trans hx555_0
                   replace p555 := eq_true p555
                   replace q555 := eq_true q555
                   have p557 : 0 ≤ (x6_3 : Int) := dt_
                   have q557 : x6_3 < (l1.length : Int) := dt_
                   obtain ⟨ad557, e557, hx557_0⟩ := Kd.at_bool HR1.out x6_3 p557 q557
                   (try rw [← Nbq18.out] at hx557_0)
                   (try rw [← Nbq36.out] at hx557_0)
                   obtain rfl : ad549 = ad557 := (by injection e557)
                   replace hx557_0 := (HB.out.cell (World.block_lt_of_cell? w _ hx557_0)).trans hx557_0
                   replace p557 := eq_true p557
                   replace q557 := eq_true q557
                   refine qb_region (by kernel_rfl) (by kernel_rfl) ?_
                   have HQ := fun (wq : World) (hq : Below wr.heap.size wr wq) => below_step HB.out hq
                   repeat ((first | (apply qb_skip; (focus rfl)) | (refine qb_callN 32 rfl ?_; apply qb_call 32 rfl Try.func67 (by kernel_rfl) rfl rfl; (focus rfl); (focus (exact fun wq9 hb9 => qb_b hb9 (impl_System_plus.calls a0_0 _ _ l0_1 _ _ l0_2 _ _ l0_3 x5_2 x6_3 t548 _ (Kd.C_below HR0_1.out (HQ _ hb9)) HC0_1.out (Kd.C_below HR0_2.out (HQ _ hb9)) HC0_2.out (Kd.C_below HR0_3.out (HQ _ hb9)) HC0_3.out A13.out))); (focus (rfl))) | (refine qb_callN 51 rfl ?_; apply qb_call 51 rfl Try.func69 (by kernel_rfl) rfl rfl; (focus rfl); (focus (exact fun wq9 hb9 => qb_b hb9 (impl_System_times.calls a0_0 _ _ l0_1 _ _ l0_2 _ _ l0_3 x5_2 x6_3 t551 _ (Kd.C_below HR0_1.out (HQ _ hb9)) HC0_1.out (Kd.C_below HR0_2.out (HQ _ hb9)) HC0_2.out (Kd.C_below HR0_3.out (HQ _ hb9)) HC0_3.out A24.out))); (focus (rfl))) | (refine qb_callN 75 rfl ?_; apply qb_call 75 rfl Try.func71 (by kernel_rfl) rfl rfl; (focus rfl); (focus (exact fun wq9 hb9 => qb_b hb9 (impl_System_below.calls a0_0 _ _ l0_1 _ _ l0_2 _ _ l0_3 x5_2 x6_3 true _ (Kd.C_below HR0_1.out (HQ _ hb9)) HC0_1.out (Kd.C_below HR0_2.out (HQ _ hb9)) HC0_2.out (Kd.C_below HR0_3.out (HQ _ hb9)) HC0_3.out A34.out))); (focus (rfl))) | (apply qb_val; (focus rfl); (focus (intro wq9 _; go_simp; with_reducible rfl))) | (apply qb_val; (focus rfl); (focus (intro wq9 hb9_; have hb9 : Below wr.heap.size wr wq9 := hb9_; have BK545 := sd_ (blk_below BK545.out hb9); have hc9_545_0 : wq9.cell? ⟨gb545, 0, none⟩ = some (.int .i64 a0_0) := (blk_cell BK545.out 0).trans rfl; have hc9_545_1 : wq9.cell? ⟨gb545, 1, none⟩ = some (.slice A0_1 l0_1.length c0_1) := (blk_cell BK545.out 1).trans rfl; have hc9_545_2 : wq9.cell? ⟨gb545, 2, none⟩ = some (.slice A0_2 l0_2.length c0_2) := (blk_cell BK545.out 2).trans rfl; have hc9_545_3 : wq9.cell? ⟨gb545, 3, none⟩ = some (.slice A0_3 l0_3.length c0_3) := (blk_cell BK545.out 3).trans rfl; have hx549_0 := (hb9.cell (World.block_lt_of_cell? _ _ hx549_0)).trans hx549_0; have hx550_0 := (hb9.cell (World.block_lt_of_cell? _ _ hx550_0)).trans hx550_0; have hx552_0 := (hb9.cell (World.block_lt_of_cell? _ _ hx552_0)).trans hx552_0; have hx553_0 := (hb9.cell (World.block_lt_of_cell? _ _ hx553_0)).trans hx553_0; have hx554_0 := (hb9.cell (World.block_lt_of_cell? _ _ hx554_0)).trans hx554_0; have hx555_0 := (hb9.cell (World.block_lt_of_cell? _ _ hx555_0)).trans hx555_0; have hx557_0 := (hb9.cell (World.block_lt_of_cell? _ _ hx557_0)).trans hx557_0; go_simp; with_reducible rfl)))); (focus (simp only [Act.put, List.setIfInBounds_toArray, List.set_cons_zero, List.set_cons_succ, i64_w, i32_w]; rfl)))
                   refine qb_nil ?_
                   intro w47 hb
                   replace BK545 := sd_ (blk_below BK545.out hb)
                   replace HB := sd_ (below_step HB.out hb)
                   clear hb
                   (try clear HQ)
                   try go_wp2
                   go_ret
                   exact ⟨an_, bw1_ HB.out GE545.out⟩
                  replace c35 := Bool.eq_false_iff.mpr c35
                  subst c35
                  have H1 : (impl_isView.l1 k3 l1 x5_2 (wrap64 (x6_3 + 1)) a0_0 l0_1 l0_2 l0_3) = some r := by rw [if_neg (show ¬ (false = true) by decide)] at H; exact H
                  clear H
                  have H := H1
                  clear H1
                  have H' := sd_ H
                  clear H
                  obtain ⟨hcz48_0, hcz48_1, hcz48_2, hcz48_3, hfz48_0, hfz48_1, hfz48_2, hfz48_3⟩ := bf4_ BK545.out
                  try go_wp2
                  (try (have c20s := c20b0; (try simp only [← Nbq18.out] at c20s); (try simp at c20s)))
                  (try (have c29s := c29b0; (try simp only [← Nbq18.out] at c29s); (try simp at c29s)))
                  have p549 : 0 ≤ (t548 : Int) := dt_
                  have q549 : t548 < (l1.length : Int) := dt_
                  obtain ⟨ad549, e549, hx549_0⟩ := Kd.at_bool HR1.out t548 p549 q549
                  (try rw [← Nbq18.out] at hx549_0)
                  cases e549
                  replace hx549_0 := (HB.out.cell (World.block_lt_of_cell? w _ hx549_0)).trans hx549_0
                  replace p549 := eq_true p549
                  replace q549 := eq_true q549
                  have p550 : 0 ≤ (x5_2 : Int) := dt_
                  have q550 : x5_2 < (l1.length : Int) := dt_
                  obtain ⟨ad550, e550, hx550_0⟩ := Kd.at_bool HR1.out x5_2 p550 q550
                  (try rw [← Nbq18.out] at hx550_0)
                  obtain rfl : ad549 = ad550 := (by injection e550)
                  replace hx550_0 := (HB.out.cell (World.block_lt_of_cell? w _ hx550_0)).trans hx550_0
                  replace p550 := eq_true p550
                  replace q550 := eq_true q550
                  have p552 : 0 ≤ (t551 : Int) := dt_
                  have q552 : t551 < (l1.length : Int) := dt_
                  obtain ⟨ad552, e552, hx552_0⟩ := Kd.at_bool HR1.out t551 p552 q552
                  (try rw [← Nbq18.out] at hx552_0)
                  obtain rfl : ad549 = ad552 := (by injection e552)
                  replace hx552_0 := (HB.out.cell (World.block_lt_of_cell? w _ hx552_0)).trans hx552_0
                  replace p552 := eq_true p552
                  replace q552 := eq_true q552
                  have p553 : 0 ≤ (x5_2 : Int) := dt_
                  have q553 : x5_2 < (l1.length : Int) := dt_
                  obtain ⟨ad553, e553, hx553_0⟩ := Kd.at_bool HR1.out x5_2 p553 q553
                  (try rw [← Nbq18.out] at hx553_0)
                  obtain rfl : ad549 = ad553 := (by injection e553)
                  replace hx553_0 := (HB.out.cell (World.block_lt_of_cell? w _ hx553_0)).trans hx553_0
                  replace p553 := eq_true p553
                  replace q553 := eq_true q553
                  have p554 : 0 ≤ (x6_3 : Int) := dt_
                  have q554 : x6_3 < (l1.length : Int) := dt_
                  obtain ⟨ad554, e554, hx554_0⟩ := Kd.at_bool HR1.out x6_3 p554 q554
                  (try rw [← Nbq18.out] at hx554_0)
                  obtain rfl : ad549 = ad554 := (by injection e554)
                  replace hx554_0 := (HB.out.cell (World.block_lt_of_cell? w _ hx554_0)).trans hx554_0
                  replace p554 := eq_true p554
                  replace q554 := eq_true q554
                  have p555 : 0 ≤ (x5_2 : Int) := dt_
                  have q555 : x5_2 < (l1.length : Int) := dt_
                  obtain ⟨ad555, e555, hx555_0⟩ := Kd.at_bool HR1.out x5_2 p555 q555
                  (try rw [← Nbq18.out] at hx555_0)
                  obtain rfl : ad549 = ad555 := (by injection e555)
                  replace hx555_0 := (HB.out.cell (World.block_lt_of_cell? w _ hx555_0)).trans hx555_0
                  replace p555 := eq_true p555
                  replace q555 := eq_true q555
                  refine qb_region (by kernel_rfl) (by kernel_rfl) ?_
                  have HQ := fun (wq : World) (hq : Below wr.heap.size wr wq) => below_step HB.out hq
                  repeat ((first | (apply qb_skip; (focus rfl)) | (refine qb_callN 32 rfl ?_; apply qb_call 32 rfl Try.func67 (by kernel_rfl) rfl rfl; (focus rfl); (focus (exact fun wq9 hb9 => qb_b hb9 (impl_System_plus.calls a0_0 _ _ l0_1 _ _ l0_2 _ _ l0_3 x5_2 x6_3 t548 _ (Kd.C_below HR0_1.out (HQ _ hb9)) HC0_1.out (Kd.C_below HR0_2.out (HQ _ hb9)) HC0_2.out (Kd.C_below HR0_3.out (HQ _ hb9)) HC0_3.out A13.out))); (focus (rfl))) | (refine qb_callN 51 rfl ?_; apply qb_call 51 rfl Try.func69 (by kernel_rfl) rfl rfl; (focus rfl); (focus (exact fun wq9 hb9 => qb_b hb9 (impl_System_times.calls a0_0 _ _ l0_1 _ _ l0_2 _ _ l0_3 x5_2 x6_3 t551 _ (Kd.C_below HR0_1.out (HQ _ hb9)) HC0_1.out (Kd.C_below HR0_2.out (HQ _ hb9)) HC0_2.out (Kd.C_below HR0_3.out (HQ _ hb9)) HC0_3.out A24.out))); (focus (rfl))) | (refine qb_callN 75 rfl ?_; apply qb_call 75 rfl Try.func71 (by kernel_rfl) rfl rfl; (focus rfl); (focus (exact fun wq9 hb9 => qb_b hb9 (impl_System_below.calls a0_0 _ _ l0_1 _ _ l0_2 _ _ l0_3 x5_2 x6_3 false _ (Kd.C_below HR0_1.out (HQ _ hb9)) HC0_1.out (Kd.C_below HR0_2.out (HQ _ hb9)) HC0_2.out (Kd.C_below HR0_3.out (HQ _ hb9)) HC0_3.out A34.out))); (focus (rfl))) | (apply qb_val; (focus rfl); (focus (intro wq9 _; go_simp; with_reducible rfl))) | (apply qb_val; (focus rfl); (focus (intro wq9 hb9_; have hb9 : Below wr.heap.size wr wq9 := hb9_; have BK545 := sd_ (blk_below BK545.out hb9); have hc9_545_0 : wq9.cell? ⟨gb545, 0, none⟩ = some (.int .i64 a0_0) := (blk_cell BK545.out 0).trans rfl; have hc9_545_1 : wq9.cell? ⟨gb545, 1, none⟩ = some (.slice A0_1 l0_1.length c0_1) := (blk_cell BK545.out 1).trans rfl; have hc9_545_2 : wq9.cell? ⟨gb545, 2, none⟩ = some (.slice A0_2 l0_2.length c0_2) := (blk_cell BK545.out 2).trans rfl; have hc9_545_3 : wq9.cell? ⟨gb545, 3, none⟩ = some (.slice A0_3 l0_3.length c0_3) := (blk_cell BK545.out 3).trans rfl; have hx549_0 := (hb9.cell (World.block_lt_of_cell? _ _ hx549_0)).trans hx549_0; have hx550_0 := (hb9.cell (World.block_lt_of_cell? _ _ hx550_0)).trans hx550_0; have hx552_0 := (hb9.cell (World.block_lt_of_cell? _ _ hx552_0)).trans hx552_0; have hx553_0 := (hb9.cell (World.block_lt_of_cell? _ _ hx553_0)).trans hx553_0; have hx554_0 := (hb9.cell (World.block_lt_of_cell? _ _ hx554_0)).trans hx554_0; have hx555_0 := (hb9.cell (World.block_lt_of_cell? _ _ hx555_0)).trans hx555_0; go_simp; with_reducible rfl)))); (focus (simp only [Act.put, List.setIfInBounds_toArray, List.set_cons_zero, List.set_cons_succ, i64_w, i32_w]; rfl)))
                  refine qb_nil ?_
                  intro w52 hb
                  replace BK545 := sd_ (blk_below BK545.out hb)
                  replace HB := sd_ (below_step HB.out hb)
                  clear hb
                  (try clear HQ)
                  try go_wp2
                  go_roundg k3
                  case measure => have := HJ2.out; have := HK2.out; have := HK3.out; omega
                  case rel => exact ⟨(wrap64 (x6_3 + 1)), sm_, H', ⟨by have := HJ2.out; have := HK2.out; have := HK3.out; omega⟩, ⟨by exact bz_ BK545.out⟩, ⟨bw1_ HB.out GE545.out⟩⟩
                 rw [if_neg c28] at H
                 exact absurd H (by simp)
                rw [if_neg c27] at H
                exact absurd H (by simp)
               rw [if_neg c26] at H
               exact absurd H (by simp)
              rw [if_neg c25] at H
              exact absurd H (by simp)
             replace c19 := Bool.eq_false_iff.mpr c19
             subst c19
             have H1 : (if 0 ≤ x6_3 then (if x6_3 < (l1.length : Int) then (if ((rdOf false l1 t548) != (rdOf false l1 x6_3)) = true then (some false) else ((impl_System_times.f a0_0 l0_1 l0_2 l0_3 x5_2 x6_3).bind fun t559 => (if 0 ≤ t559 then (if t559 < (l1.length : Int) then (if ((rdOf false l1 t559) != false) = true then (some false) else (impl_isView.l1 k3 l1 x5_2 (wrap64 (x6_3 + 1)) a0_0 l0_1 l0_2 l0_3)) else (none)) else (none)))) else (none)) else (none)) = some r := by rw [if_neg (show ¬ (false = true) by decide)] at H; exact H
             clear H
             have H := H1
             clear H1
             by_cases c53 : 0 ≤ x6_3
             ·rw [if_pos c53] at H
              have c53b0 : decide (0 ≤ x6_3) = true := decide_eq_true c53
              clear c53
              by_cases c54 : x6_3 < (l1.length : Int)
              ·rw [if_pos c54] at H
               have c54b0 : decide (x6_3 < (l1.length : Int)) = true := decide_eq_true c54
               clear c54
               by_cases c55 : ((rdOf false l1 t548) != (rdOf false l1 x6_3)) = true
               ·rw [if_pos c55] at H
                have c55b0 : ((rdOf false l1 t548) != (rdOf false l1 x6_3)) = true := c55
                (try (have c55b1 : decide ((rdOf false l1 t548) = (rdOf false l1 x6_3)) = false := by simpa using c55))
                (try (have c55b2 : ((rdOf false l1 t548) == (rdOf false l1 x6_3)) = false := by simpa using c55))
                (try (have c55b3 : ¬ ((rdOf false l1 t548) = (rdOf false l1 x6_3)) := by simpa using c55))
                clear c55
                obtain rfl := Option.some.inj H
                obtain ⟨hcz56_0, hcz56_1, hcz56_2, hcz56_3, hfz56_0, hfz56_1, hfz56_2, hfz56_3⟩ := bf4_ BK545.out
                try go_wp2
                (try (have c55s := c55b0; (try simp only [← Nbq18.out] at c55s); (try simp at c55s)))
                have p549 : 0 ≤ (t548 : Int) := dt_
                have q549 : t548 < (l1.length : Int) := dt_
                obtain ⟨ad549, e549, hx549_0⟩ := Kd.at_bool HR1.out t548 p549 q549
                (try rw [← Nbq18.out] at hx549_0)
                cases e549
                replace hx549_0 := (HB.out.cell (World.block_lt_of_cell? w _ hx549_0)).trans hx549_0
                replace p549 := eq_true p549
                replace q549 := eq_true q549
                have p550 : 0 ≤ (x5_2 : Int) := dt_
                have q550 : x5_2 < (l1.length : Int) := dt_
                obtain ⟨ad550, e550, hx550_0⟩ := Kd.at_bool HR1.out x5_2 p550 q550
                (try rw [← Nbq18.out] at hx550_0)
                obtain rfl : ad549 = ad550 := (by injection e550)
                replace hx550_0 := (HB.out.cell (World.block_lt_of_cell? w _ hx550_0)).trans hx550_0
                replace p550 := eq_true p550
                replace q550 := eq_true q550
                have p558 : 0 ≤ (x6_3 : Int) := dt_
                have q558 : x6_3 < (l1.length : Int) := dt_
                obtain ⟨ad558, e558, hx558_0⟩ := Kd.at_bool HR1.out x6_3 p558 q558
                (try rw [← Nbq18.out] at hx558_0)
                obtain rfl : ad549 = ad558 := (by injection e558)
                replace hx558_0 := (HB.out.cell (World.block_lt_of_cell? w _ hx558_0)).trans hx558_0
                replace p558 := eq_true p558
                replace q558 := eq_true q558
                refine qb_region (by kernel_rfl) (by kernel_rfl) ?_
                have HQ := fun (wq : World) (hq : Below wr.heap.size wr wq) => below_step HB.out hq
                repeat ((first | (apply qb_skip; (focus rfl)) | (refine qb_callN 32 rfl ?_; apply qb_call 32 rfl Try.func67 (by kernel_rfl) rfl rfl; (focus rfl); (focus (exact fun wq9 hb9 => qb_b hb9 (impl_System_plus.calls a0_0 _ _ l0_1 _ _ l0_2 _ _ l0_3 x5_2 x6_3 t548 _ (Kd.C_below HR0_1.out (HQ _ hb9)) HC0_1.out (Kd.C_below HR0_2.out (HQ _ hb9)) HC0_2.out (Kd.C_below HR0_3.out (HQ _ hb9)) HC0_3.out A13.out))); (focus (rfl))) | (apply qb_val; (focus rfl); (focus (intro wq9 _; go_simp; with_reducible rfl))) | (apply qb_val; (focus rfl); (focus (intro wq9 hb9_; have hb9 : Below wr.heap.size wr wq9 := hb9_; have BK545 := sd_ (blk_below BK545.out hb9); have hc9_545_0 : wq9.cell? ⟨gb545, 0, none⟩ = some (.int .i64 a0_0) := (blk_cell BK545.out 0).trans rfl; have hc9_545_1 : wq9.cell? ⟨gb545, 1, none⟩ = some (.slice A0_1 l0_1.length c0_1) := (blk_cell BK545.out 1).trans rfl; have hc9_545_2 : wq9.cell? ⟨gb545, 2, none⟩ = some (.slice A0_2 l0_2.length c0_2) := (blk_cell BK545.out 2).trans rfl; have hc9_545_3 : wq9.cell? ⟨gb545, 3, none⟩ = some (.slice A0_3 l0_3.length c0_3) := (blk_cell BK545.out 3).trans rfl; have hx549_0 := (hb9.cell (World.block_lt_of_cell? _ _ hx549_0)).trans hx549_0; have hx550_0 := (hb9.cell (World.block_lt_of_cell? _ _ hx550_0)).trans hx550_0; have hx558_0 := (hb9.cell (World.block_lt_of_cell? _ _ hx558_0)).trans hx558_0; go_simp; with_reducible rfl)))); (focus (simp only [Act.put, List.setIfInBounds_toArray, List.set_cons_zero, List.set_cons_succ, i64_w, i32_w]; rfl)))
                refine qb_nil ?_
                intro w58 hb
                replace BK545 := sd_ (blk_below BK545.out hb)
                replace HB := sd_ (below_step HB.out hb)
                clear hb
                (try clear HQ)
                try go_wp2
                go_ret
                exact ⟨an_, bw1_ HB.out GE545.out⟩
               rw [if_neg c55] at H
               have c55b0 : ((rdOf false l1 t548) != (rdOf false l1 x6_3)) = false := by simpa using c55
               (try (have c55b1 : decide ((rdOf false l1 t548) = (rdOf false l1 x6_3)) = true := by simpa using c55))
               (try (have c55b2 : ((rdOf false l1 t548) == (rdOf false l1 x6_3)) = true := by simpa using c55))
               clear c55
               replace H := Option.bind_eq_some_iff.mp H
               obtain ⟨t559, A590, H⟩ := H
               try dsimp only at H
               have A59 := sd_ A590
               clear A590
               by_cases c60 : 0 ≤ t559
               ·rw [if_pos c60] at H
                have c60b0 : decide (0 ≤ t559) = true := decide_eq_true c60
                clear c60
                by_cases c61 : t559 < (l1.length : Int)
                ·rw [if_pos c61] at H
                 have c61b0 : decide (t559 < (l1.length : Int)) = true := decide_eq_true c61
                 clear c61
                 by_cases c62 : ((rdOf false l1 t559) != false) = true
                 ·rw [if_pos c62] at H
                  have c62b0 : ((rdOf false l1 t559) != false) = true := c62
                  (try (have c62b1 : decide ((rdOf false l1 t559) = false) = false := by simpa using c62))
                  (try (have c62b2 : ((rdOf false l1 t559) == false) = false := by simpa using c62))
                  (try (have c62b3 : ¬ ((rdOf false l1 t559) = false) := by simpa using c62))
                  clear c62
                  obtain rfl := Option.some.inj H
                  obtain ⟨hcz63_0, hcz63_1, hcz63_2, hcz63_3, hfz63_0, hfz63_1, hfz63_2, hfz63_3⟩ := bf4_ BK545.out
                  try go_wp2
                  (try (have c55s := c55b0; (try simp only [← Nbq18.out] at c55s); (try simp at c55s)))
                  (try (have c62s := c62b0; (try simp only [← Nbq18.out] at c62s); (try simp at c62s)))
                  have p549 : 0 ≤ (t548 : Int) := dt_
                  have q549 : t548 < (l1.length : Int) := dt_
                  obtain ⟨ad549, e549, hx549_0⟩ := Kd.at_bool HR1.out t548 p549 q549
                  (try rw [← Nbq18.out] at hx549_0)
                  cases e549
                  replace hx549_0 := (HB.out.cell (World.block_lt_of_cell? w _ hx549_0)).trans hx549_0
                  replace p549 := eq_true p549
                  replace q549 := eq_true q549
                  have p550 : 0 ≤ (x5_2 : Int) := dt_
                  have q550 : x5_2 < (l1.length : Int) := dt_
                  obtain ⟨ad550, e550, hx550_0⟩ := Kd.at_bool HR1.out x5_2 p550 q550
                  (try rw [← Nbq18.out] at hx550_0)
                  obtain rfl : ad549 = ad550 := (by injection e550)
                  replace hx550_0 := (HB.out.cell (World.block_lt_of_cell? w _ hx550_0)).trans hx550_0
                  replace p550 := eq_true p550
                  replace q550 := eq_true q550
                  have p558 : 0 ≤ (x6_3 : Int) := dt_
                  have q558 : x6_3 < (l1.length : Int) := dt_
                  obtain ⟨ad558, e558, hx558_0⟩ := Kd.at_bool HR1.out x6_3 p558 q558
                  (try rw [← Nbq18.out] at hx558_0)
                  obtain rfl : ad549 = ad558 := (by injection e558)
                  replace hx558_0 := (HB.out.cell (World.block_lt_of_cell? w _ hx558_0)).trans hx558_0
                  replace p558 := eq_true p558
                  replace q558 := eq_true q558
                  have p560 : 0 ≤ (t559 : Int) := dt_
                  have q560 : t559 < (l1.length : Int) := dt_
                  obtain ⟨ad560, e560, hx560_0⟩ := Kd.at_bool HR1.out t559 p560 q560
                  (try rw [← Nbq18.out] at hx560_0)
                  obtain rfl : ad549 = ad560 := (by injection e560)
                  replace hx560_0 := (HB.out.cell (World.block_lt_of_cell? w _ hx560_0)).trans hx560_0
                  replace p560 := eq_true p560
                  replace q560 := eq_true q560
                  have p561 : 0 ≤ (x5_2 : Int) := dt_
                  have q561 : x5_2 < (l1.length : Int) := dt_
                  obtain ⟨ad561, e561, hx561_0⟩ := Kd.at_bool HR1.out x5_2 p561 q561
                  (try rw [← Nbq18.out] at hx561_0)
                  obtain rfl : ad549 = ad561 := (by injection e561)
                  replace hx561_0 := (HB.out.cell (World.block_lt_of_cell? w _ hx561_0)).trans hx561_0
                  replace p561 := eq_true p561
                  replace q561 := eq_true q561
                  refine qb_region (by kernel_rfl) (by kernel_rfl) ?_
                  have HQ := fun (wq : World) (hq : Below wr.heap.size wr wq) => below_step HB.out hq
                  repeat ((first | (apply qb_skip; (focus rfl)) | (refine qb_callN 32 rfl ?_; apply qb_call 32 rfl Try.func67 (by kernel_rfl) rfl rfl; (focus rfl); (focus (exact fun wq9 hb9 => qb_b hb9 (impl_System_plus.calls a0_0 _ _ l0_1 _ _ l0_2 _ _ l0_3 x5_2 x6_3 t548 _ (Kd.C_below HR0_1.out (HQ _ hb9)) HC0_1.out (Kd.C_below HR0_2.out (HQ _ hb9)) HC0_2.out (Kd.C_below HR0_3.out (HQ _ hb9)) HC0_3.out A13.out))); (focus (rfl))) | (refine qb_callN 51 rfl ?_; apply qb_call 51 rfl Try.func69 (by kernel_rfl) rfl rfl; (focus rfl); (focus (exact fun wq9 hb9 => qb_b hb9 (impl_System_times.calls a0_0 _ _ l0_1 _ _ l0_2 _ _ l0_3 x5_2 x6_3 t559 _ (Kd.C_below HR0_1.out (HQ _ hb9)) HC0_1.out (Kd.C_below HR0_2.out (HQ _ hb9)) HC0_2.out (Kd.C_below HR0_3.out (HQ _ hb9)) HC0_3.out A59.out))); (focus (rfl))) | (apply qb_val; (focus rfl); (focus (intro wq9 _; go_simp; with_reducible rfl))) | (apply qb_val; (focus rfl); (focus (intro wq9 hb9_; have hb9 : Below wr.heap.size wr wq9 := hb9_; have BK545 := sd_ (blk_below BK545.out hb9); have hc9_545_0 : wq9.cell? ⟨gb545, 0, none⟩ = some (.int .i64 a0_0) := (blk_cell BK545.out 0).trans rfl; have hc9_545_1 : wq9.cell? ⟨gb545, 1, none⟩ = some (.slice A0_1 l0_1.length c0_1) := (blk_cell BK545.out 1).trans rfl; have hc9_545_2 : wq9.cell? ⟨gb545, 2, none⟩ = some (.slice A0_2 l0_2.length c0_2) := (blk_cell BK545.out 2).trans rfl; have hc9_545_3 : wq9.cell? ⟨gb545, 3, none⟩ = some (.slice A0_3 l0_3.length c0_3) := (blk_cell BK545.out 3).trans rfl; have hx549_0 := (hb9.cell (World.block_lt_of_cell? _ _ hx549_0)).trans hx549_0; have hx550_0 := (hb9.cell (World.block_lt_of_cell? _ _ hx550_0)).trans hx550_0; have hx558_0 := (hb9.cell (World.block_lt_of_cell? _ _ hx558_0)).trans hx558_0; have hx560_0 := (hb9.cell (World.block_lt_of_cell? _ _ hx560_0)).trans hx560_0; have hx561_0 := (hb9.cell (World.block_lt_of_cell? _ _ hx561_0)).trans hx561_0; go_simp; with_reducible rfl)))); (focus (simp only [Act.put, List.setIfInBounds_toArray, List.set_cons_zero, List.set_cons_succ, i64_w, i32_w]; rfl)))
                  refine qb_nil ?_
                  intro w66 hb
                  replace BK545 := sd_ (blk_below BK545.out hb)
                  replace HB := sd_ (below_step HB.out hb)
                  clear hb
                  (try clear HQ)
                  try go_wp2
                  go_ret
                  exact ⟨an_, bw1_ HB.out GE545.out⟩
                 rw [if_neg c62] at H
                 have c62b0 : ((rdOf false l1 t559) != false) = false := by simpa using c62
                 (try (have c62b1 : decide ((rdOf false l1 t559) = false) = true := by simpa using c62))
                 (try (have c62b2 : ((rdOf false l1 t559) == false) = true := by simpa using c62))
                 clear c62
                 have H' := sd_ H
                 clear H
                 obtain ⟨hcz67_0, hcz67_1, hcz67_2, hcz67_3, hfz67_0, hfz67_1, hfz67_2, hfz67_3⟩ := bf4_ BK545.out
                 try go_wp2
                 (try (have c55s := c55b0; (try simp only [← Nbq18.out] at c55s); (try simp at c55s)))
                 (try (have c62s := c62b0; (try simp only [← Nbq18.out] at c62s); (try simp at c62s)))
                 have p549 : 0 ≤ (t548 : Int) := dt_
                 have q549 : t548 < (l1.length : Int) := dt_
                 obtain ⟨ad549, e549, hx549_0⟩ := Kd.at_bool HR1.out t548 p549 q549
                 (try rw [← Nbq18.out] at hx549_0)
                 cases e549
                 replace hx549_0 := (HB.out.cell (World.block_lt_of_cell? w _ hx549_0)).trans hx549_0
                 replace p549 := eq_true p549
                 replace q549 := eq_true q549
                 have p550 : 0 ≤ (x5_2 : Int) := dt_
                 have q550 : x5_2 < (l1.length : Int) := dt_
                 obtain ⟨ad550, e550, hx550_0⟩ := Kd.at_bool HR1.out x5_2 p550 q550
                 (try rw [← Nbq18.out] at hx550_0)
                 obtain rfl : ad549 = ad550 := (by injection e550)
                 replace hx550_0 := (HB.out.cell (World.block_lt_of_cell? w _ hx550_0)).trans hx550_0
                 replace p550 := eq_true p550
                 replace q550 := eq_true q550
                 have p558 : 0 ≤ (x6_3 : Int) := dt_
                 have q558 : x6_3 < (l1.length : Int) := dt_
                 obtain ⟨ad558, e558, hx558_0⟩ := Kd.at_bool HR1.out x6_3 p558 q558
                 (try rw [← Nbq18.out] at hx558_0)
                 obtain rfl : ad549 = ad558 := (by injection e558)
                 replace hx558_0 := (HB.out.cell (World.block_lt_of_cell? w _ hx558_0)).trans hx558_0
                 replace p558 := eq_true p558
                 replace q558 := eq_true q558
                 have p560 : 0 ≤ (t559 : Int) := dt_
                 have q560 : t559 < (l1.length : Int) := dt_
                 obtain ⟨ad560, e560, hx560_0⟩ := Kd.at_bool HR1.out t559 p560 q560
                 (try rw [← Nbq18.out] at hx560_0)
                 obtain rfl : ad549 = ad560 := (by injection e560)
                 replace hx560_0 := (HB.out.cell (World.block_lt_of_cell? w _ hx560_0)).trans hx560_0
                 replace p560 := eq_true p560
                 replace q560 := eq_true q560
                 have p561 : 0 ≤ (x5_2 : Int) := dt_
                 have q561 : x5_2 < (l1.length : Int) := dt_
                 obtain ⟨ad561, e561, hx561_0⟩ := Kd.at_bool HR1.out x5_2 p561 q561
                 (try rw [← Nbq18.out] at hx561_0)
                 obtain rfl : ad549 = ad561 := (by injection e561)
                 replace hx561_0 := (HB.out.cell (World.block_lt_of_cell? w _ hx561_0)).trans hx561_0
                 replace p561 := eq_true p561
                 replace q561 := eq_true q561
                 have p562 : 0 ≤ (x5_2 : Int) := dt_
                 have q562 : x5_2 < (l1.length : Int) := dt_
                 obtain ⟨ad562, e562, hx562_0⟩ := Kd.at_bool HR1.out x5_2 p562 q562
                 (try rw [← Nbq18.out] at hx562_0)
                 obtain rfl : ad549 = ad562 := (by injection e562)
                 replace hx562_0 := (HB.out.cell (World.block_lt_of_cell? w _ hx562_0)).trans hx562_0
                 replace p562 := eq_true p562
                 replace q562 := eq_true q562
                 refine qb_region (by kernel_rfl) (by kernel_rfl) ?_
                 have HQ := fun (wq : World) (hq : Below wr.heap.size wr wq) => below_step HB.out hq
                 repeat ((first | (apply qb_skip; (focus rfl)) | (refine qb_callN 32 rfl ?_; apply qb_call 32 rfl Try.func67 (by kernel_rfl) rfl rfl; (focus rfl); (focus (exact fun wq9 hb9 => qb_b hb9 (impl_System_plus.calls a0_0 _ _ l0_1 _ _ l0_2 _ _ l0_3 x5_2 x6_3 t548 _ (Kd.C_below HR0_1.out (HQ _ hb9)) HC0_1.out (Kd.C_below HR0_2.out (HQ _ hb9)) HC0_2.out (Kd.C_below HR0_3.out (HQ _ hb9)) HC0_3.out A13.out))); (focus (rfl))) | (refine qb_callN 51 rfl ?_; apply qb_call 51 rfl Try.func69 (by kernel_rfl) rfl rfl; (focus rfl); (focus (exact fun wq9 hb9 => qb_b hb9 (impl_System_times.calls a0_0 _ _ l0_1 _ _ l0_2 _ _ l0_3 x5_2 x6_3 t559 _ (Kd.C_below HR0_1.out (HQ _ hb9)) HC0_1.out (Kd.C_below HR0_2.out (HQ _ hb9)) HC0_2.out (Kd.C_below HR0_3.out (HQ _ hb9)) HC0_3.out A59.out))); (focus (rfl))) | (apply qb_val; (focus rfl); (focus (intro wq9 _; go_simp; with_reducible rfl))) | (apply qb_val; (focus rfl); (focus (intro wq9 hb9_; have hb9 : Below wr.heap.size wr wq9 := hb9_; have BK545 := sd_ (blk_below BK545.out hb9); have hc9_545_0 : wq9.cell? ⟨gb545, 0, none⟩ = some (.int .i64 a0_0) := (blk_cell BK545.out 0).trans rfl; have hc9_545_1 : wq9.cell? ⟨gb545, 1, none⟩ = some (.slice A0_1 l0_1.length c0_1) := (blk_cell BK545.out 1).trans rfl; have hc9_545_2 : wq9.cell? ⟨gb545, 2, none⟩ = some (.slice A0_2 l0_2.length c0_2) := (blk_cell BK545.out 2).trans rfl; have hc9_545_3 : wq9.cell? ⟨gb545, 3, none⟩ = some (.slice A0_3 l0_3.length c0_3) := (blk_cell BK545.out 3).trans rfl; have hx549_0 := (hb9.cell (World.block_lt_of_cell? _ _ hx549_0)).trans hx549_0; have hx550_0 := (hb9.cell (World.block_lt_of_cell? _ _ hx550_0)).trans hx550_0; have hx558_0 := (hb9.cell (World.block_lt_of_cell? _ _ hx558_0)).trans hx558_0; have hx560_0 := (hb9.cell (World.block_lt_of_cell? _ _ hx560_0)).trans hx560_0; have hx561_0 := (hb9.cell (World.block_lt_of_cell? _ _ hx561_0)).trans hx561_0; have hx562_0 := (hb9.cell (World.block_lt_of_cell? _ _ hx562_0)).trans hx562_0; go_simp; with_reducible rfl)))); (focus (simp only [Act.put, List.setIfInBounds_toArray, List.set_cons_zero, List.set_cons_succ, i64_w, i32_w]; rfl)))
                 refine qb_nil ?_
                 intro w70 hb
                 replace BK545 := sd_ (blk_below BK545.out hb)
                 replace HB := sd_ (below_step HB.out hb)
                 clear hb
                 (try clear HQ)
                 try go_wp2
                 go_roundg k3
                 case measure => have := HJ2.out; have := HK2.out; have := HK3.out; omega
                 case rel => exact ⟨(wrap64 (x6_3 + 1)), sm_, H', ⟨by have := HJ2.out; have := HK2.out; have := HK3.out; omega⟩, ⟨by exact bz_ BK545.out⟩, ⟨bw1_ HB.out GE545.out⟩⟩
                rw [if_neg c61] at H
                exact absurd H (by simp)
               rw [if_neg c60] at H
               exact absurd H (by simp)
              rw [if_neg c54] at H
              exact absurd H (by simp)
             rw [if_neg c53] at H
             exact absurd H (by simp)
            rw [if_neg c17] at H
            exact absurd H (by simp)
           rw [if_neg c16] at H
           exact absurd H (by simp)
          rw [if_neg c15] at H
          exact absurd H (by simp)
         rw [if_neg c14] at H
         exact absurd H (by simp)
        rw [if_neg c12] at H
        have c12b0 : decide (x6_3 < a0_0) = false := decide_eq_false c12
        clear c12
        have H' := sd_ H
        clear H
        obtain ⟨hcz71_0, hcz71_1, hcz71_2, hcz71_3, hfz71_0, hfz71_1, hfz71_2, hfz71_3⟩ := bf4_ BK545.out
        go_wp2
        go_roundg k3
        case measure => have := HJ2.out; have := HK2.out; have := HK3.out; omega
        case rel => exact ⟨(wrap64 (x5_2 + 1)), sm_, H', ⟨by have := HJ2.out; have := HK2.out; have := HK3.out; omega⟩, ⟨by exact bz_ BK545.out⟩, ⟨bw1_ HB.out GE545.out⟩⟩
     rw [if_neg c10] at H
     have c10b0 : decide (x5_2 < a0_0) = false := decide_eq_false c10
     clear c10
     obtain rfl := Option.some.inj H
     obtain ⟨hcz72_0, hcz72_1, hcz72_2, hcz72_3, hfz72_0, hfz72_1, hfz72_2, hfz72_3⟩ := bf4_ BK545.out
     go_wp2
     go_ret
     exact ⟨an_, bw1_ HB.out GE545.out⟩

end Go.Proofs.Ytcdmnofomoadlaa.P
