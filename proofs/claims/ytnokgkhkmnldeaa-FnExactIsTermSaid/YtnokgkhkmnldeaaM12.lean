-- Several texts in one (wip/tools/merge.py).
import Derived.Test.YtnokgkhkmnldeaaM1
import Derived.Test.YtnokgkhkmnldeaaM7
import Derived.Test.YtnokgkhkmnldeaaM10
import Derived.Test.YtnokgkhkmnldeaaM11
import Derived.Test.YtnokgkhkmnldeaaPf90
import Derived.Test.YtnokgkhkmnldeaaM6
section
namespace Go.Proofs.Ytnokgkhkmnldeaa.P
open Go.RowKit Go.Proofs.YtnokgkhkmnldeaaW.PrintWords Go.Proofs.YtnokgkhkmnldeaaW.PrintLast Go.Proofs.YtnokgkhkmnldeaaW.PrintMore
attribute [local go_sem] max2_int min2_int max_two min_two max_three min_three max_four min_four   -- for this text's walks alone
set_option linter.unusedVariables false
set_option linter.unusedSimpArgs false

/-! ### spec_IsSystem: function 60 -/
mutual
def spec_IsSystem.l0 : Nat → Int → Int → List Int → List Int → List Bool → Option (Bool)
 | 0, _, _, _, _, _ => none
 | k + 1, x3, x322000, x322001, x322002, x322003 => if x3 < x322000 then ((spec_l1One.f x322000 x322001 x322002 x322003 x3).bind fun t323 => (if t323 = true then (spec_IsSystem.l1 k x3 0 x322000 x322001 x322002 x322003) else (some false))) else (some true)
def spec_IsSystem.l1 : Nat → Int → Int → Int → List Int → List Int → List Bool → Option (Bool)
 | 0, _, _, _, _, _, _ => none
 | k + 1, x3, x4, x322000, x322001, x322002, x322003 => if x4 < x322000 then ((spec_l1Two.f k x322000 x322001 x322002 x322003 x3 x4).bind fun t324 => (if t324 = true then (spec_IsSystem.l2 k x3 x4 0 x322000 x322001 x322002 x322003) else (some false))) else (spec_IsSystem.l0 k (wrap64 (x3 + 1)) x322000 x322001 x322002 x322003)
def spec_IsSystem.l2 : Nat → Int → Int → Int → Int → List Int → List Int → List Bool → Option (Bool)
 | 0, _, _, _, _, _, _, _ => none
 | k + 1, x3, x4, x5, x322000, x322001, x322002, x322003 => if x5 < x322000 then ((spec_l1Three.f k x322000 x322001 x322002 x322003 x3 x4 x5).bind fun t325 => (if t325 = true then (spec_IsSystem.l2 k x3 x4 (wrap64 (x5 + 1)) x322000 x322001 x322002 x322003) else (some false))) else (spec_IsSystem.l1 k x3 (wrap64 (x4 + 1)) x322000 x322001 x322002 x322003)
end
def spec_IsSystem.f (k : Nat) (a0_0 : Int) (l0_1 : List Int) (l0_2 : List Int) (l0_3 : List Bool) : Option (Bool) := (spec_l1Tables.f k a0_0 l0_1 l0_2 l0_3).bind fun t322 => (if t322 = true then (spec_IsSystem.l0 k 0 a0_0 l0_1 l0_2 l0_3) else (some false))
set_option maxHeartbeats 8000000 in
set_option maxRecDepth 100000 in
theorem spec_IsSystem.calls (k : Nat) (a0_0 : Int) (A0_1 : Option Addr) (c0_1 : Nat) (l0_1 : List Int) (A0_2 : Option Addr) (c0_2 : Nat) (l0_2 : List Int) (A0_3 : Option Addr) (c0_3 : Nat) (l0_3 : List Bool) (r : Bool) (w : World) (hr0_1 : Kd.C (Kd.int .i64) w A0_1 l0_1.length l0_1) (hc0_1 : l0_1.length ≤ c0_1) (hr0_2 : Kd.C (Kd.int .i64) w A0_2 l0_2.length l0_2) (hc0_2 : l0_2.length ≤ c0_2) (hr0_3 : Kd.C Kd.bool w A0_3 l0_3.length l0_3) (hc0_3 : l0_3.length ≤ c0_3) (h : spec_IsSystem.f k a0_0 l0_1 l0_2 l0_3 = some r) :
  Calls Try.prog 60 #[.agg #[.int .i64 a0_0, .slice A0_1 l0_1.length c0_1, .slice A0_2 l0_2.length c0_2, .slice A0_3 l0_3.length c0_3]] w fun e w' => e = .returned (.bool r) ∧ Below w.heap.size w w' := by
 have hu37 := Try.underlying37
 have HR0_1 := sd_ hr0_1
 have HC0_1 := sd_ hc0_1
 clear hr0_1 hc0_1
 have HR0_2 := sd_ hr0_2
 have HC0_2 := sd_ hc0_2
 clear hr0_2 hc0_2
 have HR0_3 := sd_ hr0_3
 have HC0_3 := sd_ hc0_3
 clear hr0_3 hc0_3
 have HB := sd_ (Below.refl w.heap.size w)
 have H : ((spec_l1Tables.f k a0_0 l0_1 l0_2 l0_3).bind fun t322 => (if t322 = true then (spec_IsSystem.l0 k 0 a0_0 l0_1 l0_2 l0_3) else (some false))) = some r := h
 clear h
 replace H := Option.bind_eq_some_iff.mp H
 obtain ⟨t322, A20, H⟩ := H
 try dsimp only at H
 have A2 := sd_ A20
 clear A20
 have HP3 := sd_ H
 clear H
 go_enter Try.func60, Try.ntmps60
 go_upto_if 8 with (first | ((with_reducible refine gate_dst (N := 1) rfl ?_); refine box_event ?hg (N := 1) ?hd (cs := #[.int .i64 a0_0, .slice A0_1 l0_1.length c0_1, .slice A0_2 l0_2.length c0_2, .slice A0_3 l0_3.length c0_3]) (t := 37) ?hr ?_; (case hd => rfl); (case hg => rfl); (case hr => first | (go_simp; done) | (go_simp; rfl)); intro gb321 hg w4 hbox hb; have BK321 := sd_ (hbox); have GW321 := sd_ ((by rw [hg]; exact (below_size (bw0_ HB.out)) : w.heap.size ≤ gb321)); have GE321 := sd_ ((by rw [hg]; exact (below_size (bw0_ HB.out)) : w.heap.size ≤ gb321)); replace HB := sd_ (below_step (bw0_ HB.out) hb); clear hb hbox hg; have hcz5_0 : w4.cell? ⟨gb321, 0, none⟩ = some (.int .i64 a0_0) := (blk_cell BK321.out 0).trans rfl; have hcz5_1 : w4.cell? ⟨gb321, 1, none⟩ = some (.slice A0_1 l0_1.length c0_1) := (blk_cell BK321.out 1).trans rfl; have hcz5_2 : w4.cell? ⟨gb321, 2, none⟩ = some (.slice A0_2 l0_2.length c0_2) := (blk_cell BK321.out 2).trans rfl; have hcz5_3 : w4.cell? ⟨gb321, 3, none⟩ = some (.slice A0_3 l0_3.length c0_3) := (blk_cell BK321.out 3).trans rfl; have hfz5_0 := blk_frozen BK321.out 0; have hfz5_1 := blk_frozen BK321.out 1; have hfz5_2 := blk_frozen BK321.out 2; have hfz5_3 := blk_frozen BK321.out 3) | ((with_reducible refine gate_callee (f := 87) rfl ?_); refine goesL_ (some 7) rfl rfl Try.func87 (by kernel_rfl) rfl #[.agg #[.int .i64 a0_0, .slice A0_1 l0_1.length c0_1, .slice A0_2 l0_2.length c0_2, .slice A0_3 l0_3.length c0_3]] rfl (by (try simp only [List.map_toArray, List.map_cons, List.map_nil]); first | done | rfl | (simp only [List.length_drop, List.length_take]; rfl)) ?_; (with_reducible refine (spec_l1Tables.calls k a0_0 _ _ l0_1 _ _ l0_2 _ _ l0_3 t322 _ ?side1 ?side2 ?side3 ?side4 ?side5 ?side6 A2.out).mono ?_); (case side1 => exact kc_ HR0_1.out HB.out); (case side2 => exact HC0_1.out); (case side3 => exact kc_ HR0_2.out HB.out); (case side4 => exact HC0_2.out); (case side5 => exact kc_ HR0_3.out HB.out); (case side6 => exact HC0_3.out); rintro e w6 ⟨rfl, hb⟩; refine ⟨_, rfl, ?_⟩; replace BK321 := sd_ (bb_ BK321.out hb); replace HB := sd_ (below_step (bw1_ HB.out GE321.out) hb); (try clear hb); (try clear hb2); (try clear hk); (try clear hi)))
 have H := HP3.out
 clear HP3
 by_cases c7 : t322 = true
 ·subst c7
  have H1 : (spec_IsSystem.l0 k 0 a0_0 l0_1 l0_2 l0_3) = some r := by rw [if_pos rfl] at H; exact H
  clear H
  have H := H1
  clear H1
  have H' := sd_ H
  clear H
  go_wp2
  go_loopg [3] k (fun kq v3 w' => ∃ (x3_1 : Int), v3 = .int .i64 x3_1 ∧ Aside0 (spec_IsSystem.l0 kq x3_1 a0_0 l0_1 l0_2 l0_3 = some r) ∧ Aside0 (kq ≤ k) ∧ Aside0 (w'.heap[gb321]? = some (.cells #[.int .i64 a0_0, (.slice A0_1 l0_1.length c0_1), (.slice A0_2 l0_2.length c0_2), (.slice A0_3 l0_3.length c0_3)] 37 (0, 0))) ∧ Aside0 (Below w.heap.size w w'))
  case atStart => exact ⟨(0), (by first | rfl | (simp; done) | (simp [*]; done)), H', ⟨Nat.le_refl _⟩, ⟨by (with_reducible repeat (first | refine blk_drewN ?_ _ | refine blk_drew ?_ | refine blk_alloc ?_ _)); exact BK321.out⟩, ⟨bw1_ HB.out GE321.out⟩⟩
  case round =>
   clear H'
   try clear p2
   try clear c6
   try clear c7
   try clear hcz5_0
   try clear hcz5_1
   try clear hcz5_2
   try clear hcz5_3
   try clear hfz5_0
   try clear hfz5_1
   try clear hfz5_2
   try clear hfz5_3
   obtain ⟨x3_1, rfl, HA, HK1, BK321, HB⟩ := hrel
   cases gk with
   | zero => exact absurd HA.out (by simp [spec_IsSystem.l0])
   | succ k1 =>
    have H := HA.out
    clear HA
    simp only [spec_IsSystem.l0] at H
    by_cases c8 : x3_1 < a0_0
    ·rw [if_pos c8] at H
     have c8b0 : decide (x3_1 < a0_0) = true := decide_eq_true c8
     clear c8
     (first | rw [c8b0] | (simp only [i64_w, i32_w]; rw [c8b0]) | skip)
     replace H := Option.bind_eq_some_iff.mp H
     obtain ⟨t323, A90, H⟩ := H
     try dsimp only at H
     have A9 := sd_ A90
     clear A90
     have HP10 := sd_ H
     clear H
     have hcz11_0 : wr.cell? ⟨gb321, 0, none⟩ = some (.int .i64 a0_0) := (blk_cell BK321.out 0).trans rfl
     have hcz11_1 : wr.cell? ⟨gb321, 1, none⟩ = some (.slice A0_1 l0_1.length c0_1) := (blk_cell BK321.out 1).trans rfl
     have hcz11_2 : wr.cell? ⟨gb321, 2, none⟩ = some (.slice A0_2 l0_2.length c0_2) := (blk_cell BK321.out 2).trans rfl
     have hcz11_3 : wr.cell? ⟨gb321, 3, none⟩ = some (.slice A0_3 l0_3.length c0_3) := (blk_cell BK321.out 3).trans rfl
     have hfz11_0 := blk_frozen BK321.out 0
     have hfz11_1 := blk_frozen BK321.out 1
     have hfz11_2 := blk_frozen BK321.out 2
     have hfz11_3 := blk_frozen BK321.out 3
     go_upto_if 18 with (first | ((with_reducible refine gate_callee (f := 88) rfl ?_); refine goesL_ (some 17) rfl rfl Try.func88 (by kernel_rfl) rfl #[.agg #[.int .i64 a0_0, .slice A0_1 l0_1.length c0_1, .slice A0_2 l0_2.length c0_2, .slice A0_3 l0_3.length c0_3], .int .i64 x3_1] rfl (by (try simp only [List.map_toArray, List.map_cons, List.map_nil]); first | done | rfl | (simp only [List.length_drop, List.length_take]; rfl)) ?_; (with_reducible refine (spec_l1One.calls a0_0 _ _ l0_1 _ _ l0_2 _ _ l0_3 x3_1 t323 _ ?side1 ?side2 ?side3 ?side4 ?side5 ?side6 A9.out).mono ?_); (case side1 => exact kc_ HR0_1.out HB.out); (case side2 => exact HC0_1.out); (case side3 => exact kc_ HR0_2.out HB.out); (case side4 => exact HC0_2.out); (case side5 => exact kc_ HR0_3.out HB.out); (case side6 => exact HC0_3.out); rintro e w12 ⟨rfl, hb⟩; refine ⟨_, rfl, ?_⟩; replace BK321 := sd_ (bb_ BK321.out hb); replace HB := sd_ (below_step (bw1_ HB.out GE321.out) hb); (try clear hb); (try clear hb2); (try clear hk); (try clear hi)))
     have H := HP10.out
     clear HP10
     by_cases c13 : t323 = true
     ·subst c13
      have H1 : (spec_IsSystem.l1 k1 x3_1 0 a0_0 l0_1 l0_2 l0_3) = some r := by rw [if_pos rfl] at H; exact H
      clear H
      have H := H1
      clear H1
      have H' := sd_ H
      clear H
      go_wp2
      go_loopg [4] k1 (fun kq v4 w' => ∃ (x4_2 : Int), v4 = .int .i64 x4_2 ∧ Aside0 (spec_IsSystem.l1 kq x3_1 x4_2 a0_0 l0_1 l0_2 l0_3 = some r) ∧ Aside0 (kq ≤ k1) ∧ Aside0 (w'.heap[gb321]? = some (.cells #[.int .i64 a0_0, (.slice A0_1 l0_1.length c0_1), (.slice A0_2 l0_2.length c0_2), (.slice A0_3 l0_3.length c0_3)] 37 (0, 0))) ∧ Aside0 (Below w.heap.size w w'))
      case atStart => exact ⟨(0), (by first | rfl | (simp; done) | (simp [*]; done)), H', ⟨Nat.le_refl _⟩, ⟨by (with_reducible repeat (first | refine blk_drewN ?_ _ | refine blk_drew ?_ | refine blk_alloc ?_ _)); exact BK321.out⟩, ⟨bw1_ HB.out GE321.out⟩⟩
      case round =>
       clear H'
       try clear c1
       try clear p2
       try clear c6
       try clear c7
       try clear c8
       try clear c8b0
       try clear c13
       try clear hcz11_0
       try clear hcz11_1
       try clear hcz11_2
       try clear hcz11_3
       try clear hcz5_0
       try clear hcz5_1
       try clear hcz5_2
       try clear hcz5_3
       try clear hfz11_0
       try clear hfz11_1
       try clear hfz11_2
       try clear hfz11_3
       try clear hfz5_0
       try clear hfz5_1
       try clear hfz5_2
       try clear hfz5_3
       try clear p2
       obtain ⟨x4_2, rfl, HA, HK2, BK321, HB⟩ := hrel
       cases gk with
       | zero => exact absurd HA.out (by simp [spec_IsSystem.l1])
       | succ k2 =>
        have H := HA.out
        clear HA
        simp only [spec_IsSystem.l1] at H
        by_cases c14 : x4_2 < a0_0
        ·rw [if_pos c14] at H
         have c14b0 : decide (x4_2 < a0_0) = true := decide_eq_true c14
         clear c14
         (first | rw [c14b0] | (simp only [i64_w, i32_w]; rw [c14b0]) | skip)
         replace H := Option.bind_eq_some_iff.mp H
         obtain ⟨t324, A150, H⟩ := H
         try dsimp only at H
         have A15 := sd_ A150
         clear A150
         have HP16 := sd_ H
         clear H
         have hcz17_0 : wr.cell? ⟨gb321, 0, none⟩ = some (.int .i64 a0_0) := (blk_cell BK321.out 0).trans rfl
         have hcz17_1 : wr.cell? ⟨gb321, 1, none⟩ = some (.slice A0_1 l0_1.length c0_1) := (blk_cell BK321.out 1).trans rfl
         have hcz17_2 : wr.cell? ⟨gb321, 2, none⟩ = some (.slice A0_2 l0_2.length c0_2) := (blk_cell BK321.out 2).trans rfl
         have hcz17_3 : wr.cell? ⟨gb321, 3, none⟩ = some (.slice A0_3 l0_3.length c0_3) := (blk_cell BK321.out 3).trans rfl
         have hfz17_0 := blk_frozen BK321.out 0
         have hfz17_1 := blk_frozen BK321.out 1
         have hfz17_2 := blk_frozen BK321.out 2
         have hfz17_3 := blk_frozen BK321.out 3
         go_upto_if 29 with (first | ((with_reducible refine gate_callee (f := 89) rfl ?_); refine goesL_ (some 28) rfl rfl Try.func89 (by kernel_rfl) rfl #[.agg #[.int .i64 a0_0, .slice A0_1 l0_1.length c0_1, .slice A0_2 l0_2.length c0_2, .slice A0_3 l0_3.length c0_3], .int .i64 x3_1, .int .i64 x4_2] rfl (by (try simp only [List.map_toArray, List.map_cons, List.map_nil]); first | done | rfl | (simp only [List.length_drop, List.length_take]; rfl)) ?_; (with_reducible refine (spec_l1Two.calls k2 a0_0 _ _ l0_1 _ _ l0_2 _ _ l0_3 x3_1 x4_2 t324 _ ?side1 ?side2 ?side3 ?side4 ?side5 ?side6 A15.out).mono ?_); (case side1 => exact kc_ HR0_1.out HB.out); (case side2 => exact HC0_1.out); (case side3 => exact kc_ HR0_2.out HB.out); (case side4 => exact HC0_2.out); (case side5 => exact kc_ HR0_3.out HB.out); (case side6 => exact HC0_3.out); rintro e w18 ⟨rfl, hb⟩; refine ⟨_, rfl, ?_⟩; replace BK321 := sd_ (bb_ BK321.out hb); replace HB := sd_ (below_step (bw1_ HB.out GE321.out) hb); (try clear hb); (try clear hb2); (try clear hk); (try clear hi)))
         have H := HP16.out
         clear HP16
         by_cases c19 : t324 = true
         ·subst c19
          have H1 : (spec_IsSystem.l2 k2 x3_1 x4_2 0 a0_0 l0_1 l0_2 l0_3) = some r := by rw [if_pos rfl] at H; exact H
          clear H
          have H := H1
          clear H1
          have H' := sd_ H
          clear H
          go_wp2
          go_loopg [5] k2 (fun kq v5 w' => ∃ (x5_3 : Int), v5 = .int .i64 x5_3 ∧ Aside0 (spec_IsSystem.l2 kq x3_1 x4_2 x5_3 a0_0 l0_1 l0_2 l0_3 = some r) ∧ Aside0 (kq ≤ k2) ∧ Aside0 (w'.heap[gb321]? = some (.cells #[.int .i64 a0_0, (.slice A0_1 l0_1.length c0_1), (.slice A0_2 l0_2.length c0_2), (.slice A0_3 l0_3.length c0_3)] 37 (0, 0))) ∧ Aside0 (Below w.heap.size w w'))
          case atStart => exact ⟨(0), (by first | rfl | (simp; done) | (simp [*]; done)), H', ⟨Nat.le_refl _⟩, ⟨by (with_reducible repeat (first | refine blk_drewN ?_ _ | refine blk_drew ?_ | refine blk_alloc ?_ _)); exact BK321.out⟩, ⟨bw1_ HB.out GE321.out⟩⟩
          case round =>
           clear H'
           try clear c1
           try clear p2
           try clear c6
           try clear c7
           try clear c8
           try clear c8b0
           try clear c13
           try clear c14
           try clear c14b0
           try clear c19
           try clear hcz11_0
           try clear hcz11_1
           try clear hcz11_2
           try clear hcz11_3
           try clear hcz17_0
           try clear hcz17_1
           try clear hcz17_2
           try clear hcz17_3
           try clear hcz5_0
           try clear hcz5_1
           try clear hcz5_2
           try clear hcz5_3
           try clear hfz11_0
           try clear hfz11_1
           try clear hfz11_2
           try clear hfz11_3
           try clear hfz17_0
           try clear hfz17_1
           try clear hfz17_2
           try clear hfz17_3
           try clear hfz5_0
           try clear hfz5_1
           try clear hfz5_2
           try clear hfz5_3
           try clear p2
           obtain ⟨x5_3, rfl, HA, HK3, BK321, HB⟩ := hrel
           cases gk with
           | zero => exact absurd HA.out (by simp [spec_IsSystem.l2])
           | succ k3 =>
            have H := HA.out
            clear HA
            simp only [spec_IsSystem.l2] at H
            by_cases c20 : x5_3 < a0_0
            ·rw [if_pos c20] at H
             have c20b0 : decide (x5_3 < a0_0) = true := decide_eq_true c20
             clear c20
             (first | rw [c20b0] | (simp only [i64_w, i32_w]; rw [c20b0]) | skip)
             replace H := Option.bind_eq_some_iff.mp H
             obtain ⟨t325, A210, H⟩ := H
             try dsimp only at H
             have A21 := sd_ A210
             clear A210
             have HP22 := sd_ H
             clear H
             have hcz23_0 : wr.cell? ⟨gb321, 0, none⟩ = some (.int .i64 a0_0) := (blk_cell BK321.out 0).trans rfl
             have hcz23_1 : wr.cell? ⟨gb321, 1, none⟩ = some (.slice A0_1 l0_1.length c0_1) := (blk_cell BK321.out 1).trans rfl
             have hcz23_2 : wr.cell? ⟨gb321, 2, none⟩ = some (.slice A0_2 l0_2.length c0_2) := (blk_cell BK321.out 2).trans rfl
             have hcz23_3 : wr.cell? ⟨gb321, 3, none⟩ = some (.slice A0_3 l0_3.length c0_3) := (blk_cell BK321.out 3).trans rfl
             have hfz23_0 := blk_frozen BK321.out 0
             have hfz23_1 := blk_frozen BK321.out 1
             have hfz23_2 := blk_frozen BK321.out 2
             have hfz23_3 := blk_frozen BK321.out 3
             go_upto_if 41 with (first | ((with_reducible refine gate_callee (f := 90) rfl ?_); refine goesL_ (some 40) rfl rfl Try.func90 (by kernel_rfl) rfl #[.agg #[.int .i64 a0_0, .slice A0_1 l0_1.length c0_1, .slice A0_2 l0_2.length c0_2, .slice A0_3 l0_3.length c0_3], .int .i64 x3_1, .int .i64 x4_2, .int .i64 x5_3] rfl (by (try simp only [List.map_toArray, List.map_cons, List.map_nil]); first | done | rfl | (simp only [List.length_drop, List.length_take]; rfl)) ?_; (with_reducible refine (spec_l1Three.calls k3 a0_0 _ _ l0_1 _ _ l0_2 _ _ l0_3 x3_1 x4_2 x5_3 t325 _ ?side1 ?side2 ?side3 ?side4 ?side5 ?side6 A21.out).mono ?_); (case side1 => exact kc_ HR0_1.out HB.out); (case side2 => exact HC0_1.out); (case side3 => exact kc_ HR0_2.out HB.out); (case side4 => exact HC0_2.out); (case side5 => exact kc_ HR0_3.out HB.out); (case side6 => exact HC0_3.out); rintro e w24 ⟨rfl, hb⟩; refine ⟨_, rfl, ?_⟩; replace BK321 := sd_ (bb_ BK321.out hb); replace HB := sd_ (below_step (bw1_ HB.out GE321.out) hb); (try clear hb); (try clear hb2); (try clear hk); (try clear hi)))
             have H := HP22.out
             clear HP22
             by_cases c25 : t325 = true
             ·subst c25
              have H1 : (spec_IsSystem.l2 k3 x3_1 x4_2 (wrap64 (x5_3 + 1)) a0_0 l0_1 l0_2 l0_3) = some r := by rw [if_pos rfl] at H; exact H
              clear H
              have H := H1
              clear H1
              have H' := sd_ H
              clear H
              go_wp2
              go_roundg k3
              case measure => have := HK1.out; have := HK2.out; have := HK3.out; omega
              case rel => exact ⟨(wrap64 (x5_3 + 1)), (by first | rfl | (simp; done) | (simp [*]; done)), H', ⟨by have := HK1.out; have := HK2.out; have := HK3.out; omega⟩, ⟨by (with_reducible repeat (first | refine blk_drewN ?_ _ | refine blk_drew ?_ | refine blk_alloc ?_ _)); exact BK321.out⟩, ⟨bw1_ HB.out GE321.out⟩⟩
             ·replace c25 := Bool.eq_false_iff.mpr c25
              subst c25
              have H1 : (some false) = some r := by rw [if_neg (show ¬ (false = true) by decide)] at H; exact H
              clear H
              have H := H1
              clear H1
              obtain rfl := Option.some.inj H
              go_wp2
              go_ret
              exact ⟨an_, bw1_ HB.out GE321.out⟩
            ·rw [if_neg c20] at H
             have c20b0 : decide (x5_3 < a0_0) = false := decide_eq_false c20
             clear c20
             (first | rw [c20b0] | (simp only [i64_w, i32_w]; rw [c20b0]) | skip)
             have H' := sd_ H
             clear H
             have hcz26_0 : wr.cell? ⟨gb321, 0, none⟩ = some (.int .i64 a0_0) := (blk_cell BK321.out 0).trans rfl
             have hcz26_1 : wr.cell? ⟨gb321, 1, none⟩ = some (.slice A0_1 l0_1.length c0_1) := (blk_cell BK321.out 1).trans rfl
             have hcz26_2 : wr.cell? ⟨gb321, 2, none⟩ = some (.slice A0_2 l0_2.length c0_2) := (blk_cell BK321.out 2).trans rfl
             have hcz26_3 : wr.cell? ⟨gb321, 3, none⟩ = some (.slice A0_3 l0_3.length c0_3) := (blk_cell BK321.out 3).trans rfl
             have hfz26_0 := blk_frozen BK321.out 0
             have hfz26_1 := blk_frozen BK321.out 1
             have hfz26_2 := blk_frozen BK321.out 2
             have hfz26_3 := blk_frozen BK321.out 3
             go_wp2
             go_roundg k3
             case measure => have := HK1.out; have := HK2.out; have := HK3.out; omega
             case rel => exact ⟨(wrap64 (x4_2 + 1)), (by first | rfl | (simp; done) | (simp [*]; done)), H', ⟨by have := HK1.out; have := HK2.out; have := HK3.out; omega⟩, ⟨by (with_reducible repeat (first | refine blk_drewN ?_ _ | refine blk_drew ?_ | refine blk_alloc ?_ _)); exact BK321.out⟩, ⟨bw1_ HB.out GE321.out⟩⟩
         ·replace c19 := Bool.eq_false_iff.mpr c19
          subst c19
          have H1 : (some false) = some r := by rw [if_neg (show ¬ (false = true) by decide)] at H; exact H
          clear H
          have H := H1
          clear H1
          obtain rfl := Option.some.inj H
          go_wp2
          go_ret
          exact ⟨an_, bw1_ HB.out GE321.out⟩
        ·rw [if_neg c14] at H
         have c14b0 : decide (x4_2 < a0_0) = false := decide_eq_false c14
         clear c14
         (first | rw [c14b0] | (simp only [i64_w, i32_w]; rw [c14b0]) | skip)
         have H' := sd_ H
         clear H
         have hcz27_0 : wr.cell? ⟨gb321, 0, none⟩ = some (.int .i64 a0_0) := (blk_cell BK321.out 0).trans rfl
         have hcz27_1 : wr.cell? ⟨gb321, 1, none⟩ = some (.slice A0_1 l0_1.length c0_1) := (blk_cell BK321.out 1).trans rfl
         have hcz27_2 : wr.cell? ⟨gb321, 2, none⟩ = some (.slice A0_2 l0_2.length c0_2) := (blk_cell BK321.out 2).trans rfl
         have hcz27_3 : wr.cell? ⟨gb321, 3, none⟩ = some (.slice A0_3 l0_3.length c0_3) := (blk_cell BK321.out 3).trans rfl
         have hfz27_0 := blk_frozen BK321.out 0
         have hfz27_1 := blk_frozen BK321.out 1
         have hfz27_2 := blk_frozen BK321.out 2
         have hfz27_3 := blk_frozen BK321.out 3
         go_wp2
         go_roundg k2
         case measure => have := HK1.out; have := HK2.out; omega
         case rel => exact ⟨(wrap64 (x3_1 + 1)), (by first | rfl | (simp; done) | (simp [*]; done)), H', ⟨by have := HK1.out; have := HK2.out; omega⟩, ⟨by (with_reducible repeat (first | refine blk_drewN ?_ _ | refine blk_drew ?_ | refine blk_alloc ?_ _)); exact BK321.out⟩, ⟨bw1_ HB.out GE321.out⟩⟩
     ·replace c13 := Bool.eq_false_iff.mpr c13
      subst c13
      have H1 : (some false) = some r := by rw [if_neg (show ¬ (false = true) by decide)] at H; exact H
      clear H
      have H := H1
      clear H1
      obtain rfl := Option.some.inj H
      go_wp2
      go_ret
      exact ⟨an_, bw1_ HB.out GE321.out⟩
    ·rw [if_neg c8] at H
     have c8b0 : decide (x3_1 < a0_0) = false := decide_eq_false c8
     clear c8
     (first | rw [c8b0] | (simp only [i64_w, i32_w]; rw [c8b0]) | skip)
     obtain rfl := Option.some.inj H
     have hcz28_0 : wr.cell? ⟨gb321, 0, none⟩ = some (.int .i64 a0_0) := (blk_cell BK321.out 0).trans rfl
     have hcz28_1 : wr.cell? ⟨gb321, 1, none⟩ = some (.slice A0_1 l0_1.length c0_1) := (blk_cell BK321.out 1).trans rfl
     have hcz28_2 : wr.cell? ⟨gb321, 2, none⟩ = some (.slice A0_2 l0_2.length c0_2) := (blk_cell BK321.out 2).trans rfl
     have hcz28_3 : wr.cell? ⟨gb321, 3, none⟩ = some (.slice A0_3 l0_3.length c0_3) := (blk_cell BK321.out 3).trans rfl
     have hfz28_0 := blk_frozen BK321.out 0
     have hfz28_1 := blk_frozen BK321.out 1
     have hfz28_2 := blk_frozen BK321.out 2
     have hfz28_3 := blk_frozen BK321.out 3
     go_wp2
     go_ret
     exact ⟨an_, bw1_ HB.out GE321.out⟩
 ·replace c7 := Bool.eq_false_iff.mpr c7
  subst c7
  have H1 : (some false) = some r := by rw [if_neg (show ¬ (false = true) by decide)] at H; exact H
  clear H
  have H := H1
  clear H1
  obtain rfl := Option.some.inj H
  go_wp2
  go_ret
  exact ⟨an_, bw1_ HB.out GE321.out⟩


/-! ### spec_IsType: function 25 -/
def spec_IsType.f (k : Nat) (a0_0 : Int) (l0_1 : List Int) (l0_2 : List Int) (l0_3 : List Bool) (l1 : List Int) : Option (Bool) := (spec_IsSystem.f k a0_0 l0_1 l0_2 l0_3).bind fun t332 => (if t332 = true then ((spec_l2Type.f k l1).bind fun t333 => (if t333 = true then ((spec_l2Graded.f k l1 a0_0 true).bind fun t334 => (some t334)) else (some false))) else (some false))
set_option maxHeartbeats 8000000 in
set_option maxRecDepth 100000 in
theorem spec_IsType.calls (k : Nat) (a0_0 : Int) (A0_1 : Option Addr) (c0_1 : Nat) (l0_1 : List Int) (A0_2 : Option Addr) (c0_2 : Nat) (l0_2 : List Int) (A0_3 : Option Addr) (c0_3 : Nat) (l0_3 : List Bool) (A1 : Option Addr) (c1 : Nat) (l1 : List Int) (r : Bool) (w : World) (hr0_1 : Kd.C (Kd.int .i64) w A0_1 l0_1.length l0_1) (hc0_1 : l0_1.length ≤ c0_1) (hr0_2 : Kd.C (Kd.int .i64) w A0_2 l0_2.length l0_2) (hc0_2 : l0_2.length ≤ c0_2) (hr0_3 : Kd.C Kd.bool w A0_3 l0_3.length l0_3) (hc0_3 : l0_3.length ≤ c0_3) (hr1 : Kd.C (Kd.int .i64) w A1 l1.length l1) (hc1 : l1.length ≤ c1) (h : spec_IsType.f k a0_0 l0_1 l0_2 l0_3 l1 = some r) :
  Calls Try.prog 25 #[.agg #[.int .i64 a0_0, .slice A0_1 l0_1.length c0_1, .slice A0_2 l0_2.length c0_2, .slice A0_3 l0_3.length c0_3], .slice A1 l1.length c1] w fun e w' => e = .returned (.bool r) ∧ Below w.heap.size w w' := by
 have hu37 := Try.underlying37
 have HR0_1 := sd_ hr0_1
 have HC0_1 := sd_ hc0_1
 clear hr0_1 hc0_1
 have HR0_2 := sd_ hr0_2
 have HC0_2 := sd_ hc0_2
 clear hr0_2 hc0_2
 have HR0_3 := sd_ hr0_3
 have HC0_3 := sd_ hc0_3
 clear hr0_3 hc0_3
 have HR1 := sd_ hr1
 have HC1 := sd_ hc1
 clear hr1 hc1
 have HB := sd_ (Below.refl w.heap.size w)
 have H : ((spec_IsSystem.f k a0_0 l0_1 l0_2 l0_3).bind fun t332 => (if t332 = true then ((spec_l2Type.f k l1).bind fun t333 => (if t333 = true then ((spec_l2Graded.f k l1 a0_0 true).bind fun t334 => (some t334)) else (some false))) else (some false))) = some r := h
 clear h
 replace H := Option.bind_eq_some_iff.mp H
 obtain ⟨t332, A30, H⟩ := H
 try dsimp only at H
 have A3 := sd_ A30
 clear A30
 by_cases c4 : t332 = true
 ·subst c4
  have H1 : ((spec_l2Type.f k l1).bind fun t333 => (if t333 = true then ((spec_l2Graded.f k l1 a0_0 true).bind fun t334 => (some t334)) else (some false))) = some r := by rw [if_pos rfl] at H; exact H
  clear H
  have H := H1
  clear H1
  replace H := Option.bind_eq_some_iff.mp H
  obtain ⟨t333, A50, H⟩ := H
  try dsimp only at H
  have A5 := sd_ A50
  clear A50
  by_cases c6 : t333 = true
  ·subst c6
   have H1 : ((spec_l2Graded.f k l1 a0_0 true).bind fun t334 => (some t334)) = some r := by rw [if_pos rfl] at H; exact H
   clear H
   have H := H1
   clear H1
   replace H := Option.bind_eq_some_iff.mp H
   obtain ⟨t334, A70, H⟩ := H
   try dsimp only at H
   have A7 := sd_ A70
   clear A70
   obtain rfl := Option.some.inj H
   go_enter Try.func25, Try.ntmps25
   go_wp2_with (first | ((with_reducible refine gate_dst (N := 2) rfl ?_); refine box_event ?hg (N := 2) ?hd (cs := #[.int .i64 a0_0, .slice A0_1 l0_1.length c0_1, .slice A0_2 l0_2.length c0_2, .slice A0_3 l0_3.length c0_3]) (t := 37) ?hr ?_; (case hd => rfl); (case hg => rfl); (case hr => first | (go_simp; done) | (go_simp; rfl)); intro gb331 hg w8 hbox hb; have BK331 := sd_ (hbox); have GW331 := sd_ ((by rw [hg]; exact (below_size (bw0_ HB.out)) : w.heap.size ≤ gb331)); have GE331 := sd_ ((by rw [hg]; exact (below_size (bw0_ HB.out)) : w.heap.size ≤ gb331)); replace HB := sd_ (below_step (bw0_ HB.out) hb); clear hb hbox hg; have hcz9_0 : w8.cell? ⟨gb331, 0, none⟩ = some (.int .i64 a0_0) := (blk_cell BK331.out 0).trans rfl; have hcz9_1 : w8.cell? ⟨gb331, 1, none⟩ = some (.slice A0_1 l0_1.length c0_1) := (blk_cell BK331.out 1).trans rfl; have hcz9_2 : w8.cell? ⟨gb331, 2, none⟩ = some (.slice A0_2 l0_2.length c0_2) := (blk_cell BK331.out 2).trans rfl; have hcz9_3 : w8.cell? ⟨gb331, 3, none⟩ = some (.slice A0_3 l0_3.length c0_3) := (blk_cell BK331.out 3).trans rfl; have hfz9_0 := blk_frozen BK331.out 0; have hfz9_1 := blk_frozen BK331.out 1; have hfz9_2 := blk_frozen BK331.out 2; have hfz9_3 := blk_frozen BK331.out 3) | ((with_reducible refine gate_callee (f := 60) rfl ?_); refine goesL_ (some 6) rfl rfl Try.func60 (by kernel_rfl) rfl #[.agg #[.int .i64 a0_0, .slice A0_1 l0_1.length c0_1, .slice A0_2 l0_2.length c0_2, .slice A0_3 l0_3.length c0_3]] rfl (by (try simp only [List.map_toArray, List.map_cons, List.map_nil]); first | done | rfl | (simp only [List.length_drop, List.length_take]; rfl)) ?_; (with_reducible refine (spec_IsSystem.calls k a0_0 _ _ l0_1 _ _ l0_2 _ _ l0_3 true _ ?side1 ?side2 ?side3 ?side4 ?side5 ?side6 A3.out).mono ?_); (case side1 => exact kc_ HR0_1.out HB.out); (case side2 => exact HC0_1.out); (case side3 => exact kc_ HR0_2.out HB.out); (case side4 => exact HC0_2.out); (case side5 => exact kc_ HR0_3.out HB.out); (case side6 => exact HC0_3.out); rintro e w10 ⟨rfl, hb⟩; refine ⟨_, rfl, ?_⟩; replace BK331 := sd_ (bb_ BK331.out hb); replace HB := sd_ (below_step (bw1_ HB.out GE331.out) hb); (try clear hb); (try clear hb2); (try clear hk); (try clear hi)) | (go_at_call 46; (with_reducible refine (spec_l2Type.calls k _ _ l1 true _ ?side1 ?side2 A5.out).mono ?_); (case side1 => exact kc_ HR1.out HB.out); (case side2 => exact HC1.out); rintro e w' ⟨rfl, ⟨nd, rfl⟩⟩; have hcz11_0 : w10.cell? ⟨gb331, 0, none⟩ = some (.int .i64 a0_0) := (blk_cell BK331.out 0).trans rfl; have hcz11_1 : w10.cell? ⟨gb331, 1, none⟩ = some (.slice A0_1 l0_1.length c0_1) := (blk_cell BK331.out 1).trans rfl; have hcz11_2 : w10.cell? ⟨gb331, 2, none⟩ = some (.slice A0_2 l0_2.length c0_2) := (blk_cell BK331.out 2).trans rfl; have hcz11_3 : w10.cell? ⟨gb331, 3, none⟩ = some (.slice A0_3 l0_3.length c0_3) := (blk_cell BK331.out 3).trans rfl; have hfz11_0 := blk_frozen BK331.out 0; have hfz11_1 := blk_frozen BK331.out 1; have hfz11_2 := blk_frozen BK331.out 2; have hfz11_3 := blk_frozen BK331.out 3) | (go_at_call 61; (with_reducible refine (spec_l2Graded.calls k _ _ l1 a0_0 true t334 _ ?side1 ?side2 A7.out).mono ?_); (case side1 => repeat (first | exact (Kd.C_below HR1.out (bw1_ HB.out GE331.out)) | (with_reducible refine Kd.C_alloc ?_ _) | (with_reducible refine Kd.C_drewN ?_ _) | (with_reducible refine Kd.C_drew ?_))); (case side2 => exact HC1.out); rintro e w' ⟨rfl, ⟨nd, rfl⟩⟩))
   go_ret
   exact ⟨an_, bw1_ HB.out GE331.out⟩
  ·replace c6 := Bool.eq_false_iff.mpr c6
   subst c6
   have H1 : (some false) = some r := by rw [if_neg (show ¬ (false = true) by decide)] at H; exact H
   clear H
   have H := H1
   clear H1
   obtain rfl := Option.some.inj H
   go_enter Try.func25, Try.ntmps25
   go_wp2_with (first | ((with_reducible refine gate_dst (N := 2) rfl ?_); refine box_event ?hg (N := 2) ?hd (cs := #[.int .i64 a0_0, .slice A0_1 l0_1.length c0_1, .slice A0_2 l0_2.length c0_2, .slice A0_3 l0_3.length c0_3]) (t := 37) ?hr ?_; (case hd => rfl); (case hg => rfl); (case hr => first | (go_simp; done) | (go_simp; rfl)); intro gb331 hg w12 hbox hb; have BK331 := sd_ (hbox); have GW331 := sd_ ((by rw [hg]; exact (below_size (bw0_ HB.out)) : w.heap.size ≤ gb331)); have GE331 := sd_ ((by rw [hg]; exact (below_size (bw0_ HB.out)) : w.heap.size ≤ gb331)); replace HB := sd_ (below_step (bw0_ HB.out) hb); clear hb hbox hg; have hcz13_0 : w12.cell? ⟨gb331, 0, none⟩ = some (.int .i64 a0_0) := (blk_cell BK331.out 0).trans rfl; have hcz13_1 : w12.cell? ⟨gb331, 1, none⟩ = some (.slice A0_1 l0_1.length c0_1) := (blk_cell BK331.out 1).trans rfl; have hcz13_2 : w12.cell? ⟨gb331, 2, none⟩ = some (.slice A0_2 l0_2.length c0_2) := (blk_cell BK331.out 2).trans rfl; have hcz13_3 : w12.cell? ⟨gb331, 3, none⟩ = some (.slice A0_3 l0_3.length c0_3) := (blk_cell BK331.out 3).trans rfl; have hfz13_0 := blk_frozen BK331.out 0; have hfz13_1 := blk_frozen BK331.out 1; have hfz13_2 := blk_frozen BK331.out 2; have hfz13_3 := blk_frozen BK331.out 3) | ((with_reducible refine gate_callee (f := 60) rfl ?_); refine goesL_ (some 6) rfl rfl Try.func60 (by kernel_rfl) rfl #[.agg #[.int .i64 a0_0, .slice A0_1 l0_1.length c0_1, .slice A0_2 l0_2.length c0_2, .slice A0_3 l0_3.length c0_3]] rfl (by (try simp only [List.map_toArray, List.map_cons, List.map_nil]); first | done | rfl | (simp only [List.length_drop, List.length_take]; rfl)) ?_; (with_reducible refine (spec_IsSystem.calls k a0_0 _ _ l0_1 _ _ l0_2 _ _ l0_3 true _ ?side1 ?side2 ?side3 ?side4 ?side5 ?side6 A3.out).mono ?_); (case side1 => exact kc_ HR0_1.out HB.out); (case side2 => exact HC0_1.out); (case side3 => exact kc_ HR0_2.out HB.out); (case side4 => exact HC0_2.out); (case side5 => exact kc_ HR0_3.out HB.out); (case side6 => exact HC0_3.out); rintro e w14 ⟨rfl, hb⟩; refine ⟨_, rfl, ?_⟩; replace BK331 := sd_ (bb_ BK331.out hb); replace HB := sd_ (below_step (bw1_ HB.out GE331.out) hb); (try clear hb); (try clear hb2); (try clear hk); (try clear hi)) | (go_at_call 46; (with_reducible refine (spec_l2Type.calls k _ _ l1 false _ ?side1 ?side2 A5.out).mono ?_); (case side1 => exact kc_ HR1.out HB.out); (case side2 => exact HC1.out); rintro e w' ⟨rfl, ⟨nd, rfl⟩⟩))
   go_ret
   exact ⟨an_, bw1_ HB.out GE331.out⟩
 ·replace c4 := Bool.eq_false_iff.mpr c4
  subst c4
  have H1 : (some false) = some r := by rw [if_neg (show ¬ (false = true) by decide)] at H; exact H
  clear H
  have H := H1
  clear H1
  obtain rfl := Option.some.inj H
  go_enter Try.func25, Try.ntmps25
  go_wp2_with (first | ((with_reducible refine gate_dst (N := 2) rfl ?_); refine box_event ?hg (N := 2) ?hd (cs := #[.int .i64 a0_0, .slice A0_1 l0_1.length c0_1, .slice A0_2 l0_2.length c0_2, .slice A0_3 l0_3.length c0_3]) (t := 37) ?hr ?_; (case hd => rfl); (case hg => rfl); (case hr => first | (go_simp; done) | (go_simp; rfl)); intro gb331 hg w15 hbox hb; have BK331 := sd_ (hbox); have GW331 := sd_ ((by rw [hg]; exact (below_size (bw0_ HB.out)) : w.heap.size ≤ gb331)); have GE331 := sd_ ((by rw [hg]; exact (below_size (bw0_ HB.out)) : w.heap.size ≤ gb331)); replace HB := sd_ (below_step (bw0_ HB.out) hb); clear hb hbox hg; have hcz16_0 : w15.cell? ⟨gb331, 0, none⟩ = some (.int .i64 a0_0) := (blk_cell BK331.out 0).trans rfl; have hcz16_1 : w15.cell? ⟨gb331, 1, none⟩ = some (.slice A0_1 l0_1.length c0_1) := (blk_cell BK331.out 1).trans rfl; have hcz16_2 : w15.cell? ⟨gb331, 2, none⟩ = some (.slice A0_2 l0_2.length c0_2) := (blk_cell BK331.out 2).trans rfl; have hcz16_3 : w15.cell? ⟨gb331, 3, none⟩ = some (.slice A0_3 l0_3.length c0_3) := (blk_cell BK331.out 3).trans rfl; have hfz16_0 := blk_frozen BK331.out 0; have hfz16_1 := blk_frozen BK331.out 1; have hfz16_2 := blk_frozen BK331.out 2; have hfz16_3 := blk_frozen BK331.out 3) | ((with_reducible refine gate_callee (f := 60) rfl ?_); refine goesL_ (some 6) rfl rfl Try.func60 (by kernel_rfl) rfl #[.agg #[.int .i64 a0_0, .slice A0_1 l0_1.length c0_1, .slice A0_2 l0_2.length c0_2, .slice A0_3 l0_3.length c0_3]] rfl (by (try simp only [List.map_toArray, List.map_cons, List.map_nil]); first | done | rfl | (simp only [List.length_drop, List.length_take]; rfl)) ?_; (with_reducible refine (spec_IsSystem.calls k a0_0 _ _ l0_1 _ _ l0_2 _ _ l0_3 false _ ?side1 ?side2 ?side3 ?side4 ?side5 ?side6 A3.out).mono ?_); (case side1 => exact kc_ HR0_1.out HB.out); (case side2 => exact HC0_1.out); (case side3 => exact kc_ HR0_2.out HB.out); (case side4 => exact HC0_2.out); (case side5 => exact kc_ HR0_3.out HB.out); (case side6 => exact HC0_3.out); rintro e w17 ⟨rfl, hb⟩; refine ⟨_, rfl, ?_⟩; replace BK331 := sd_ (bb_ BK331.out hb); replace HB := sd_ (below_step (bw1_ HB.out GE331.out) hb); (try clear hb); (try clear hb2); (try clear hk); (try clear hi)))
  go_ret
  exact ⟨an_, bw1_ HB.out GE331.out⟩

end Go.Proofs.Ytnokgkhkmnldeaa.P
end
