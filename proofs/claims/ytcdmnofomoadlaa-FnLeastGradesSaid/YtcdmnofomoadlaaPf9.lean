-- Printed by this session's own program (wip/tools/mkprint.py) out of the translation. Not trusted: Lean checks it.
import Derived.Test.YtcdmnofomoadlaaM1
import Derived.Test.YtcdmnofomoadlaaPf14
import Derived.Test.YtcdmnofomoadlaaPf15
import Derived.Test.YtcdmnofomoadlaaPf35
import Derived.Test.YtcdmnofomoadlaaPf41
import Derived.Test.YtcdmnofomoadlaaPf42
import Derived.Test.YtcdmnofomoadlaaPf43
/-! short words -/
namespace Go.Proofs.Ytcdmnofomoadlaa.P
open Go.RowKit Go.Proofs.YtcdmnofomoadlaaW.PrintWords Go.Proofs.YtcdmnofomoadlaaW.PrintLast Go.Proofs.YtcdmnofomoadlaaW.PrintMore
attribute [local go_sem] max2_int min2_int max_two min_two max_three min_three max_four min_four   -- for this text's walks alone
set_option linter.unusedVariables false
set_option linter.unusedSimpArgs false

/-! ### laws_FnLeastGrades: function 9 -/
mutual
def laws_FnLeastGrades.j1 : Nat → Int → Option (Bool)
 | 0, _ => none
 | k + 1, x3 => (impl_BoundSystem.f k x3).bind fun bt713 => ((impl_LeastGrade.f k bt713.1 bt713.2.1 bt713.2.2.1 bt713.2.2.2).bind fun t723 => (if t723 = 0 then ((impl_LevelSystem.f k x3).bind fun bt724 => ((impl_LeastGrade.f k bt724.1 bt724.2.1 bt724.2.2.1 bt724.2.2.2).bind fun t734 => (if t734 = 0 then ((impl_CountSystem.f k x3).bind fun bt735 => ((impl_LeastGrade.f k bt735.1 bt735.2.1 bt735.2.2.1 bt735.2.2.2).bind fun t745 => (some (t745 == (-1))))) else (some false)))) else (some false)))
def laws_FnLeastGrades.l0 : Nat → Int → Int → Int → Int → List Int → List Int → List Bool → Option (Bool)
 | 0, _, _, _, _, _, _, _ => none
 | k + 1, x3, x5, x6, x711000, x711001, x711002, x711003 => if x6 < x711000 then ((impl_IsBelow.f k x711000 x711001 x711002 x711003 x5 x6).bind fun t712 => (if t712 = true then (laws_FnLeastGrades.l0 k x3 x5 (wrap64 (x6 + 1)) x711000 x711001 x711002 x711003) else (some false))) else (laws_FnLeastGrades.j1 k x3)
end
def laws_FnLeastGrades.f (k : Nat) (l0 : List Int) : Option (Bool) := (laws_big.f l0).bind fun t698 => (if t698 = true then (some true) else ((laws_at0.f l0 0).bind fun t699 => ((spec_DrawLeastGrade.f k l0).bind fun bt700 => ((impl_LeastGrade.f k bt700.1 bt700.2.1 bt700.2.2.1 bt700.2.2.2).bind fun t711 => (if t711 ≥ 0 then (laws_FnLeastGrades.l0 k (wrap64 (1 + (Int.tmod t699 8))) t711 0 bt700.1 bt700.2.1 bt700.2.2.1 bt700.2.2.2) else (laws_FnLeastGrades.j1 k (wrap64 (1 + (Int.tmod t699 8)))))))))
set_option maxHeartbeats 8000000 in
set_option maxRecDepth 100000 in
theorem laws_FnLeastGrades.calls (k : Nat) (A0 : Option Addr) (c0 : Nat) (l0 : List Int) (r : Bool) (w : World) (hr0 : Kd.C (Kd.int .u8) w A0 l0.length l0) (hc0 : l0.length ≤ c0) (h : laws_FnLeastGrades.f k l0 = some r) (hr_ : r = true) :
  Calls Try.prog 9 #[.slice A0 l0.length c0] w fun e w' => e = .returned (.bool r) ∧ Below w.heap.size w w' := by
 have hu27 := Try.underlying27
 have HR0 := sd_ hr0
 have HC0 := sd_ hc0
 clear hr0 hc0
 have HB := sd_ (Below.refl w.heap.size w)
 have H : ((laws_big.f l0).bind fun t698 => (if t698 = true then (some true) else ((laws_at0.f l0 0).bind fun t699 => ((spec_DrawLeastGrade.f k l0).bind fun bt700 => ((impl_LeastGrade.f k bt700.1 bt700.2.1 bt700.2.2.1 bt700.2.2.2).bind fun t711 => (if t711 ≥ 0 then (laws_FnLeastGrades.l0 k (wrap64 (1 + (Int.tmod t699 8))) t711 0 bt700.1 bt700.2.1 bt700.2.2.1 bt700.2.2.2) else (laws_FnLeastGrades.j1 k (wrap64 (1 + (Int.tmod t699 8)))))))))) = some r := h
 clear h
 replace H := Option.bind_eq_some_iff.mp H
 obtain ⟨t698, A20, H⟩ := H
 try dsimp only at H
 have A2 := sd_ A20
 clear A20
 by_cases c3 : t698 = true
 ·subst c3
  have H1 : (some true) = some r := by rw [if_pos rfl] at H; exact H
  clear H
  have H := H1
  clear H1
  obtain rfl := Option.some.inj H
  go_enter Try.func9, Try.ntmps9
  go_wp2_with (first | ((with_reducible refine gate_callee (f := 13) rfl ?_); refine goesL_ (some 8) rfl rfl Try.func13 (by kernel_rfl) rfl #[.slice A0 l0.length c0] rfl la_ ?_; (with_reducible refine (laws_big.calls _ _ l0 true _ (kp_ HR0.out) HC0.out A2.out).mono ?_); rintro e w' ⟨rfl, ⟨nd, rfl⟩⟩; refine ⟨_, rfl, ?_⟩))
  go_ret
  exact ⟨an_, bw0_ HB.out⟩
 replace c3 := Bool.eq_false_iff.mpr c3
 subst c3
 have H1 : ((laws_at0.f l0 0).bind fun t699 => ((spec_DrawLeastGrade.f k l0).bind fun bt700 => ((impl_LeastGrade.f k bt700.1 bt700.2.1 bt700.2.2.1 bt700.2.2.2).bind fun t711 => (if t711 ≥ 0 then (laws_FnLeastGrades.l0 k (wrap64 (1 + (Int.tmod t699 8))) t711 0 bt700.1 bt700.2.1 bt700.2.2.1 bt700.2.2.2) else (laws_FnLeastGrades.j1 k (wrap64 (1 + (Int.tmod t699 8)))))))) = some r := by rw [if_neg (show ¬ (false = true) by decide)] at H; exact H
 clear H
 have H := H1
 clear H1
 replace H := Option.bind_eq_some_iff.mp H
 obtain ⟨t699, A40, H⟩ := H
 try dsimp only at H
 have A4 := sd_ A40
 clear A40
 replace H := Option.bind_eq_some_iff.mp H
 obtain ⟨⟨t700, t701, t704, t707⟩, A50, H⟩ := H
 try dsimp only at H
 have A5 := sd_ A50
 clear A50
 replace H := Option.bind_eq_some_iff.mp H
 obtain ⟨t711, A60, H⟩ := H
 try dsimp only at H
 have A6 := sd_ A60
 clear A60
 have HC7 := sd_ H
 clear H
 go_enter Try.func9, Try.ntmps9
 go_upto_if 18 with (first | ((with_reducible refine gate_callee (f := 13) rfl ?_); refine goesL_ (some 8) rfl rfl Try.func13 (by kernel_rfl) rfl #[.slice A0 l0.length c0] rfl la_ ?_; (with_reducible refine (laws_big.calls _ _ l0 false _ (kp_ HR0.out) HC0.out A2.out).mono ?_); rintro e w' ⟨rfl, ⟨nd, rfl⟩⟩; refine ⟨_, rfl, ?_⟩) | ((with_reducible refine gate_callee (f := 16) rfl ?_); refine goesL_ (some 10) rfl rfl Try.func16 (by kernel_rfl) rfl #[.slice A0 l0.length c0, .int .i64 0] rfl la_ ?_; (with_reducible refine (laws_at0.calls _ _ l0 0 t699 _ (kp_ HR0.out) HC0.out A4.out).mono ?_); rintro e w' ⟨rfl, ⟨nd, rfl⟩⟩; refine ⟨_, rfl, ?_⟩) | ((with_reducible refine gate_callee (f := 41) rfl ?_); refine goesL_ (some 14) rfl rfl Try.func41 (by kernel_rfl) rfl #[.slice A0 l0.length c0] rfl la_ ?_; (with_reducible refine (spec_DrawLeastGrade.calls k _ _ l0 t700 t701 t704 t707 _ (kp_ HR0.out) HC0.out A5.out).mono ?_); rintro e w8 ⟨v702, v705, v708, rfl, ho0, ho1, ho2, hb⟩; refine ⟨_, rfl, ?_⟩; have HO703 := sd_ (Kd.R_lower ho0 (below_size (bw0_ HB.out))); have HO706 := sd_ (Kd.R_lower ho1 (below_size (bw0_ HB.out))); have HO709 := sd_ (Kd.R_lower ho2 (below_size (bw0_ HB.out))); replace HB := sd_ (below_step (bw0_ HB.out) hb); (try clear ho0); (try clear ho1); (try clear ho2)) | ((with_reducible refine gate_dst (N := 4) rfl ?_); refine bx_ (N := 4) (cs := #[.int .i64 0, .slice none 0 0, .slice none 0 0, .slice none 0 0]) (t := 27) ?_; intro gb710 hg w9 hbox hb; replace HO703 := sd_ (Kd.R_below (ro_ HO703.out) hb); replace HO706 := sd_ (Kd.R_below (ro_ HO706.out) hb); replace HO709 := sd_ (Kd.R_below (ro_ HO709.out) hb); have BK710 := sd_ (hbox); have GW710 := sd_ (gs_ hg (bw0_ HB.out)); have GE710 := sd_ (gs_ hg (bw0_ HB.out)); replace HB := sd_ (below_step (bw0_ HB.out) hb); clear hb hbox hg; obtain ⟨hcz10_0, hcz10_1, hcz10_2, hcz10_3, hfz10_0, hfz10_1, hfz10_2, hfz10_3⟩ := bf4_ BK710.out; obtain ⟨Ao11, co11, eo11⟩ := Kd.R_slice HO703.out; subst eo11; obtain ⟨Ao12, co12, eo12⟩ := Kd.R_slice HO706.out; subst eo12; obtain ⟨Ao13, co13, eo13⟩ := Kd.R_slice HO709.out; subst eo13) | ((with_reducible refine gate_callee (f := 42) rfl ?_); refine goesL_ (some 16) rfl rfl Try.func42 (by kernel_rfl) rfl #[.agg #[.int .i64 t700, .slice Ao11 t701.length co11, .slice Ao12 t704.length co12, .slice Ao13 t707.length co13]] rfl la_ ?_; (with_reducible refine (impl_LeastGrade.calls k t700 _ _ t701 _ _ t704 _ _ t707 t711 _ ?side1 ?side2 ?side3 ?side4 ?side5 ?side6 A6.out).mono ?_); (case side1 => refine (Kd.R_reads' (e := 3) (base := w.heap.size) (ok := fun k_ => some k_ ≠ (.slice Ao12 t704.length co12 : Value).ownBlock) (A := Ao11) (n := t701.length) (c := co11) ?_).2.2; exact (by (with_reducible repeat (first | apply Kd.R_alloc | apply Kd.R_drewN | apply Kd.R_drew)); exact (Kd.R_mono (Kd.R_far (p := ⟨gb710, 3, none⟩) (Kd.R_far (p := ⟨gb710, 2, none⟩) (Kd.R_far (p := ⟨gb710, 1, none⟩) (Kd.R_far (p := ⟨gb710, 0, none⟩) (Kd.R_types HO703.out BK710.out (by decide)) (fun _ hk => hk.2) (.int .i64 t700)) (fun _ hk => hk.2) (.slice Ao11 t701.length co11)) (fun _ hk => hk.2) (.slice Ao12 t704.length co12)) (fun _ hk => hk.2) (.slice Ao13 t707.length co13)) (fun _ h_ => h_.1)))); (case side2 => exact (Kd.R_reads' HO703.out).2.1); (case side3 => refine (Kd.R_reads' (e := 3) (base := w.heap.size) (ok := fun k_ => some k_ ≠ (.slice Ao11 t701.length co11 : Value).ownBlock) (A := Ao12) (n := t704.length) (c := co12) ?_).2.2; exact (by (with_reducible repeat (first | apply Kd.R_alloc | apply Kd.R_drewN | apply Kd.R_drew)); exact (Kd.R_mono (Kd.R_far (p := ⟨gb710, 3, none⟩) (Kd.R_far (p := ⟨gb710, 2, none⟩) (Kd.R_far (p := ⟨gb710, 1, none⟩) (Kd.R_far (p := ⟨gb710, 0, none⟩) (Kd.R_types HO706.out BK710.out (by decide)) (fun _ hk => hk.2) (.int .i64 t700)) (fun _ hk => hk.2) (.slice Ao11 t701.length co11)) (fun _ hk => hk.2) (.slice Ao12 t704.length co12)) (fun _ hk => hk.2) (.slice Ao13 t707.length co13)) (fun _ h_ => h_.1)))); (case side4 => exact (Kd.R_reads' HO706.out).2.1); (case side5 => refine (Kd.R_reads' (e := 4) (base := w.heap.size) (ok := fun k_ => True) (A := Ao13) (n := t707.length) (c := co13) ?_).2.2; exact (by (with_reducible repeat (first | apply Kd.R_alloc | apply Kd.R_drewN | apply Kd.R_drew)); exact (Kd.R_mono (Kd.R_far (p := ⟨gb710, 3, none⟩) (Kd.R_far (p := ⟨gb710, 2, none⟩) (Kd.R_far (p := ⟨gb710, 1, none⟩) (Kd.R_far (p := ⟨gb710, 0, none⟩) (Kd.R_types HO709.out BK710.out (by decide)) (fun _ hk => hk.2) (.int .i64 t700)) (fun _ hk => hk.2) (.slice Ao11 t701.length co11)) (fun _ hk => hk.2) (.slice Ao12 t704.length co12)) (fun _ hk => hk.2) (.slice Ao13 t707.length co13)) (fun _ h_ => h_.1)))); (case side6 => exact (Kd.R_reads' HO709.out).2.1); rintro e w14 ⟨rfl, hb⟩; refine ⟨_, rfl, ?_⟩; replace HO703 := sd_ (Kd.R_below (by (with_reducible repeat (first | apply Kd.R_alloc | apply Kd.R_drewN | apply Kd.R_drew)); exact (Kd.R_mono (Kd.R_far (p := ⟨gb710, 3, none⟩) (Kd.R_far (p := ⟨gb710, 2, none⟩) (Kd.R_far (p := ⟨gb710, 1, none⟩) (Kd.R_far (p := ⟨gb710, 0, none⟩) (Kd.R_types HO703.out BK710.out (by decide)) (fun _ hk => hk.2) (.int .i64 t700)) (fun _ hk => hk.2) (.slice Ao11 t701.length co11)) (fun _ hk => hk.2) (.slice Ao12 t704.length co12)) (fun _ hk => hk.2) (.slice Ao13 t707.length co13)) (fun _ h_ => h_.1))) hb); replace HO706 := sd_ (Kd.R_below (by (with_reducible repeat (first | apply Kd.R_alloc | apply Kd.R_drewN | apply Kd.R_drew)); exact (Kd.R_mono (Kd.R_far (p := ⟨gb710, 3, none⟩) (Kd.R_far (p := ⟨gb710, 2, none⟩) (Kd.R_far (p := ⟨gb710, 1, none⟩) (Kd.R_far (p := ⟨gb710, 0, none⟩) (Kd.R_types HO706.out BK710.out (by decide)) (fun _ hk => hk.2) (.int .i64 t700)) (fun _ hk => hk.2) (.slice Ao11 t701.length co11)) (fun _ hk => hk.2) (.slice Ao12 t704.length co12)) (fun _ hk => hk.2) (.slice Ao13 t707.length co13)) (fun _ h_ => h_.1))) hb); replace HO709 := sd_ (Kd.R_below (by (with_reducible repeat (first | apply Kd.R_alloc | apply Kd.R_drewN | apply Kd.R_drew)); exact (Kd.R_mono (Kd.R_far (p := ⟨gb710, 3, none⟩) (Kd.R_far (p := ⟨gb710, 2, none⟩) (Kd.R_far (p := ⟨gb710, 1, none⟩) (Kd.R_far (p := ⟨gb710, 0, none⟩) (Kd.R_types HO709.out BK710.out (by decide)) (fun _ hk => hk.2) (.int .i64 t700)) (fun _ hk => hk.2) (.slice Ao11 t701.length co11)) (fun _ hk => hk.2) (.slice Ao12 t704.length co12)) (fun _ hk => hk.2) (.slice Ao13 t707.length co13)) (fun _ h_ => h_.1))) hb); replace BK710 := sd_ (blk_below (g := gb710) (o := .cells #[.int .i64 t700, .slice Ao11 t701.length co11, .slice Ao12 t704.length co12, .slice Ao13 t707.length co13] 27 (0, 0)) (by (with_reducible repeat (first | refine blk_drewN ?_ _ | refine blk_drew ?_ | refine blk_alloc ?_ _)); refine blk_put (cs := #[.int .i64 t700, .slice Ao11 t701.length co11, .slice Ao12 t704.length co12, .slice none 0 0]) ?_ 3 _ rfl; (with_reducible repeat (first | refine blk_drewN ?_ _ | refine blk_drew ?_ | refine blk_alloc ?_ _)); refine blk_put (cs := #[.int .i64 t700, .slice Ao11 t701.length co11, .slice none 0 0, .slice none 0 0]) ?_ 2 _ rfl; (with_reducible repeat (first | refine blk_drewN ?_ _ | refine blk_drew ?_ | refine blk_alloc ?_ _)); refine blk_put (cs := #[.int .i64 t700, .slice none 0 0, .slice none 0 0, .slice none 0 0]) ?_ 1 _ rfl; (with_reducible repeat (first | refine blk_drewN ?_ _ | refine blk_drew ?_ | refine blk_alloc ?_ _)); refine blk_put (cs := #[.int .i64 0, .slice none 0 0, .slice none 0 0, .slice none 0 0]) ?_ 0 _ rfl; exact bz_ BK710.out) hb); replace HB := sd_ (below_step (bw1_ HB.out GE710.out) hb); (try clear hb)))
 (try simp only [Act.put, List.setIfInBounds_toArray, List.set_cons_zero, List.set_cons_succ])
 go_cut [] (fun wc => ∃ (kq : Nat), Aside0 (laws_FnLeastGrades.j1 kq (wrap64 (1 + (Int.tmod t699 8))) = some r) ∧ Aside0 (kq ≤ k) ∧ Aside0 (Kd.R (Kd.int .i64) 3 wc w.heap.size (fun k_ => some k_ ≠ ((.slice Ao12 t704.length co12) : Value).ownBlock) (.slice Ao11 t701.length co11) t701) ∧ Aside0 (Kd.R (Kd.int .i64) 3 wc w.heap.size (fun k_ => some k_ ≠ ((.slice Ao11 t701.length co11) : Value).ownBlock) (.slice Ao12 t704.length co12) t704) ∧ Aside0 (Kd.R Kd.bool 4 wc w.heap.size (fun _ => True) (.slice Ao13 t707.length co13) t707) ∧ Aside0 (wc.heap[gb710]? = some (.cells #[.int .i64 t700, (.slice Ao11 t701.length co11), (.slice Ao12 t704.length co12), (.slice Ao13 t707.length co13)] 27 (0, 0))) ∧ Aside0 (Below w.heap.size w wc))
 case first =>
  have H := HC7.out
  clear HC7
  by_cases c15 : t711 ≥ 0
  ·rw [if_pos c15] at H
   have c15b0 : decide (0 ≤ t711) = true := decide_eq_true c15
   clear c15
   (first | rw [c15b0] | (simp only [i64_w, i32_w]; rw [c15b0]) | skip)
   have H' := sd_ H
   clear H
   go_wp2
   go_loopg [6] k (fun kq v6 w' => ∃ (x6_1 : Int), v6 = .int .i64 x6_1 ∧ Aside0 (laws_FnLeastGrades.l0 kq (wrap64 (1 + (Int.tmod t699 8))) t711 x6_1 t700 t701 t704 t707 = some r) ∧ Aside0 (kq ≤ k) ∧ Aside0 (Kd.R (Kd.int .i64) 3 w' w.heap.size (fun k_ => some k_ ≠ ((.slice Ao12 t704.length co12) : Value).ownBlock) (.slice Ao11 t701.length co11) t701) ∧ Aside0 (Kd.R (Kd.int .i64) 3 w' w.heap.size (fun k_ => some k_ ≠ ((.slice Ao11 t701.length co11) : Value).ownBlock) (.slice Ao12 t704.length co12) t704) ∧ Aside0 (Kd.R Kd.bool 4 w' w.heap.size (fun _ => True) (.slice Ao13 t707.length co13) t707) ∧ Aside0 (w'.heap[gb710]? = some (.cells #[.int .i64 t700, (.slice Ao11 t701.length co11), (.slice Ao12 t704.length co12), (.slice Ao13 t707.length co13)] 27 (0, 0))) ∧ Aside0 (Below w.heap.size w w'))
   case atStart => exact ⟨(0), sm_, H', ⟨Nat.le_refl _⟩, ⟨by (with_reducible repeat (first | apply Kd.R_alloc | apply Kd.R_drewN | apply Kd.R_drew)); exact HO703.out⟩, ⟨by (with_reducible repeat (first | apply Kd.R_alloc | apply Kd.R_drewN | apply Kd.R_drew)); exact HO706.out⟩, ⟨by (with_reducible repeat (first | apply Kd.R_alloc | apply Kd.R_drewN | apply Kd.R_drew)); exact HO709.out⟩, ⟨by exact bz_ BK710.out⟩, ⟨bw1_ HB.out GE710.out⟩⟩
   case round =>
    clear H'
    try clear c1
    try clear p2
    try clear c3
    try clear c4
    try clear p6
    try clear c9
    try clear c13
    try clear c15
    try clear c15b0
    try clear hcz10_0
    try clear hcz10_1
    try clear hcz10_2
    try clear hcz10_3
    try clear hfz10_0
    try clear hfz10_1
    try clear hfz10_2
    try clear hfz10_3
    obtain ⟨x6_1, rfl, HA, HK1, HO_711001, HO_711002, HO_711003, BK710, HB⟩ := hrel
    cases gk with
    | zero => exact absurd HA.out (by simp [laws_FnLeastGrades.l0])
    | succ k1 =>
     have H := HA.out
     clear HA
     simp only [laws_FnLeastGrades.l0] at H
     by_cases c16 : x6_1 < t700
     ·rw [if_pos c16] at H
      have c16b0 : decide (x6_1 < t700) = true := decide_eq_true c16
      clear c16
      replace H := Option.bind_eq_some_iff.mp H
      obtain ⟨t712, A170, H⟩ := H
      try dsimp only at H
      have A17 := sd_ A170
      clear A170
      have HP18 := sd_ H
      clear H
      obtain ⟨hcz19_0, hcz19_1, hcz19_2, hcz19_3, hfz19_0, hfz19_1, hfz19_2, hfz19_3⟩ := bf4_ BK710.out
      go_upto_if 29 with (first | ((with_reducible refine gate_callee (f := 35) rfl ?_); refine goesL_ (some 28) rfl rfl Try.func35 (by kernel_rfl) rfl #[.agg #[.int .i64 t700, .slice Ao11 t701.length co11, .slice Ao12 t704.length co12, .slice Ao13 t707.length co13], .int .i64 t711, .int .i64 x6_1] rfl la_ ?_; (with_reducible refine (impl_IsBelow.calls k1 t700 _ _ t701 _ _ t704 _ _ t707 t711 x6_1 t712 _ ?side1 ?side2 ?side3 ?side4 ?side5 ?side6 A17.out).mono ?_); (case side1 => exact kp_ (Kd.R_reads' HO_711001.out).2.2); (case side2 => exact (Kd.R_reads' HO_711001.out).2.1); (case side3 => exact kp_ (Kd.R_reads' HO_711002.out).2.2); (case side4 => exact (Kd.R_reads' HO_711002.out).2.1); (case side5 => exact kp_ (Kd.R_reads' HO_711003.out).2.2); (case side6 => exact (Kd.R_reads' HO_711003.out).2.1); rintro e w20 ⟨rfl, hb⟩; refine ⟨_, rfl, ?_⟩; replace HO_711001 := sd_ (Kd.R_below (ro_ HO_711001.out) hb); replace HO_711002 := sd_ (Kd.R_below (ro_ HO_711002.out) hb); replace HO_711003 := sd_ (Kd.R_below (ro_ HO_711003.out) hb); replace BK710 := sd_ (bb_ BK710.out hb); replace HB := sd_ (below_step (bw1_ HB.out GE710.out) hb); (try clear hb)))
      have H := HP18.out
      clear HP18
      by_cases c21 : t712 = true
      ·subst c21
       have H1 : (laws_FnLeastGrades.l0 k1 (wrap64 (1 + (Int.tmod t699 8))) t711 (wrap64 (x6_1 + 1)) t700 t701 t704 t707) = some r := by rw [if_pos rfl] at H; exact H
       clear H
       have H := H1
       clear H1
       have H' := sd_ H
       clear H
       go_wp2
       go_roundg k1
       case measure => have := HK1.out; omega
       case rel => exact ⟨(wrap64 (x6_1 + 1)), sm_, H', ⟨by have := HK1.out; omega⟩, ⟨by (with_reducible repeat (first | apply Kd.R_alloc | apply Kd.R_drewN | apply Kd.R_drew)); exact HO_711001.out⟩, ⟨by (with_reducible repeat (first | apply Kd.R_alloc | apply Kd.R_drewN | apply Kd.R_drew)); exact HO_711002.out⟩, ⟨by (with_reducible repeat (first | apply Kd.R_alloc | apply Kd.R_drewN | apply Kd.R_drew)); exact HO_711003.out⟩, ⟨by exact bz_ BK710.out⟩, ⟨bw1_ HB.out GE710.out⟩⟩
      replace c21 := Bool.eq_false_iff.mpr c21
      subst c21
      have H1 : (some false) = some r := by rw [if_neg (show ¬ (false = true) by decide)] at H; exact H
      clear H
      have H := H1
      clear H1
      obtain rfl := Option.some.inj H
      exact absurd hr_ (by decide)
     rw [if_neg c16] at H
     have c16b0 : decide (x6_1 < t700) = false := decide_eq_false c16
     clear c16
     have H' := sd_ H
     clear H
     obtain ⟨hcz22_0, hcz22_1, hcz22_2, hcz22_3, hfz22_0, hfz22_1, hfz22_2, hfz22_3⟩ := bf4_ BK710.out
     go_wp2
     go_meet
     case rel => exact ⟨_, H', ⟨by have := HK1.out; first | omega | exact Nat.le_refl _⟩, ⟨by (with_reducible repeat (first | apply Kd.R_alloc | apply Kd.R_drewN | apply Kd.R_drew)); exact HO_711001.out⟩, ⟨by (with_reducible repeat (first | apply Kd.R_alloc | apply Kd.R_drewN | apply Kd.R_drew)); exact HO_711002.out⟩, ⟨by (with_reducible repeat (first | apply Kd.R_alloc | apply Kd.R_drewN | apply Kd.R_drew)); exact HO_711003.out⟩, ⟨by exact bz_ BK710.out⟩, ⟨bw1_ HB.out GE710.out⟩⟩
  rw [if_neg c15] at H
  have c15b0 : decide (0 ≤ t711) = false := decide_eq_false c15
  clear c15
  (first | rw [c15b0] | (simp only [i64_w, i32_w]; rw [c15b0]) | skip)
  have H' := sd_ H
  clear H
  go_wp2
  go_meet
  case rel => exact ⟨_, H', ⟨by first | omega | exact Nat.le_refl _⟩, ⟨by (with_reducible repeat (first | apply Kd.R_alloc | apply Kd.R_drewN | apply Kd.R_drew)); exact HO703.out⟩, ⟨by (with_reducible repeat (first | apply Kd.R_alloc | apply Kd.R_drewN | apply Kd.R_drew)); exact HO706.out⟩, ⟨by (with_reducible repeat (first | apply Kd.R_alloc | apply Kd.R_drewN | apply Kd.R_drew)); exact HO709.out⟩, ⟨by exact bz_ BK710.out⟩, ⟨bw1_ HB.out GE710.out⟩⟩
 case rest =>
  clear HC7
  try clear c1
  try clear c3
  try clear c4
  try clear p6
  try clear c9
  try clear c13
  try clear c16
  try clear hcz10_0
  try clear hcz10_1
  try clear hcz10_2
  try clear hcz10_3
  try clear hfz10_0
  try clear hfz10_1
  try clear hfz10_2
  try clear hfz10_3
  obtain ⟨kq, HA, HJ6, HO_711001, HO_711002, HO_711003, BK710, HB⟩ := hcut
  cases kq with
  | zero => exact absurd HA.out (by simp [laws_FnLeastGrades.j1])
  | succ kj6 =>
   have H := HA.out
   clear HA
   simp only [laws_FnLeastGrades.j1] at H
   replace H := Option.bind_eq_some_iff.mp H
   obtain ⟨⟨t713, t714, t717, t720⟩, A230, H⟩ := H
   try dsimp only at H
   have A23 := sd_ A230
   clear A230
   replace H := Option.bind_eq_some_iff.mp H
   obtain ⟨t723, A240, H⟩ := H
   try dsimp only at H
   have A24 := sd_ A240
   clear A240
   by_cases c25 : t723 = 0
   ·rw [if_pos c25] at H
    have c25b0 : (t723 == 0) = true := beq_iff_eq.mpr c25
    have c25b1 : (t723 != 0) = false := bne_eq_false_iff_eq.mpr c25
    clear c25
    replace H := Option.bind_eq_some_iff.mp H
    obtain ⟨⟨t724, t725, t728, t731⟩, A260, H⟩ := H
    try dsimp only at H
    have A26 := sd_ A260
    clear A260
    replace H := Option.bind_eq_some_iff.mp H
    obtain ⟨t734, A270, H⟩ := H
    try dsimp only at H
    have A27 := sd_ A270
    clear A270
    by_cases c28 : t734 = 0
    ·rw [if_pos c28] at H
     have c28b0 : (t734 == 0) = true := beq_iff_eq.mpr c28
     have c28b1 : (t734 != 0) = false := bne_eq_false_iff_eq.mpr c28
     clear c28
     replace H := Option.bind_eq_some_iff.mp H
     obtain ⟨⟨t735, t736, t739, t742⟩, A290, H⟩ := H
     try dsimp only at H
     have A29 := sd_ A290
     clear A290
     replace H := Option.bind_eq_some_iff.mp H
     obtain ⟨t745, A300, H⟩ := H
     try dsimp only at H
     have A30 := sd_ A300
     clear A300
     obtain rfl := Option.some.inj H
     go_wp2_with (first | ((with_reducible refine gate_callee (f := 43) rfl ?_); refine goesL_ (some 31) rfl rfl Try.func43 (by kernel_rfl) rfl #[.int .i64 (wrap64 (1 + (Int.tmod t699 8)))] rfl la_ ?_; (with_reducible refine (impl_BoundSystem.calls kj6 (wrap64 (1 + (Int.tmod t699 8))) t713 t714 t717 t720 _ A23.out).mono ?_); rintro e w31 ⟨v715, v718, v721, rfl, ho0, ho1, ho2, hb⟩; refine ⟨_, rfl, ?_⟩; have HO716 := sd_ (Kd.R_lower (Kd.R_new' (Kd.R_new' ho0 (Kd.R_lt (ro_ HO_711001.out))) (Kd.R_lt (ro_ HO_711002.out))) (below_size (bw1_ HB.out GE710.out))); have HO719 := sd_ (Kd.R_lower (Kd.R_new' (Kd.R_new' ho1 (Kd.R_lt (ro_ HO_711001.out))) (Kd.R_lt (ro_ HO_711002.out))) (below_size (bw1_ HB.out GE710.out))); replace HO_711001 := sd_ (Kd.R_mono (Kd.R_told (Kd.R_told (Kd.R_old (ro_ HO_711001.out) hb) (Kd.R_base ho0)) (Kd.R_base ho1)) (fun _ h_ => h_.1)); replace HO_711002 := sd_ (Kd.R_mono (Kd.R_told (Kd.R_told (Kd.R_old (ro_ HO_711002.out) hb) (Kd.R_base ho0)) (Kd.R_base ho1)) (fun _ h_ => h_.1)); have HO722 := sd_ (Kd.R_lower (Kd.R_new' ho2 (Kd.R_lt (ro_ HO_711003.out))) (below_size (bw1_ HB.out GE710.out))); replace HO_711003 := sd_ (Kd.R_elder' (ro_ HO_711003.out) (Kd.R_base ho2) hb); replace BK710 := sd_ (bb_ BK710.out hb); replace HB := sd_ (below_step (bw1_ HB.out GE710.out) hb); (try clear hb); (try clear ho0); (try clear ho1); (try clear ho2); obtain ⟨Ao32, co32, eo32⟩ := Kd.R_slice HO716.out; subst eo32; obtain ⟨Ao33, co33, eo33⟩ := Kd.R_slice HO719.out; subst eo33; obtain ⟨Ao34, co34, eo34⟩ := Kd.R_slice HO722.out; subst eo34) | ((with_reducible refine gate_callee (f := 42) rfl ?_); refine goesL_ (some 32) rfl rfl Try.func42 (by kernel_rfl) rfl #[.agg #[.int .i64 t713, .slice Ao32 t714.length co32, .slice Ao33 t717.length co33, .slice Ao34 t720.length co34]] rfl la_ ?_; (with_reducible refine (impl_LeastGrade.calls kj6 t713 _ _ t714 _ _ t717 _ _ t720 t723 _ ?side1 ?side2 ?side3 ?side4 ?side5 ?side6 A24.out).mono ?_); (case side1 => exact kp_ (Kd.R_reads' HO716.out).2.2); (case side2 => exact (Kd.R_reads' HO716.out).2.1); (case side3 => exact kp_ (Kd.R_reads' HO719.out).2.2); (case side4 => exact (Kd.R_reads' HO719.out).2.1); (case side5 => exact kp_ (Kd.R_reads' HO722.out).2.2); (case side6 => exact (Kd.R_reads' HO722.out).2.1); rintro e w35 ⟨rfl, hb⟩; refine ⟨_, rfl, ?_⟩; replace HO_711001 := sd_ (Kd.R_below (ro_ HO_711001.out) hb); replace HO_711002 := sd_ (Kd.R_below (ro_ HO_711002.out) hb); replace HO_711003 := sd_ (Kd.R_below (ro_ HO_711003.out) hb); replace HO716 := sd_ (Kd.R_below (ro_ HO716.out) hb); replace HO719 := sd_ (Kd.R_below (ro_ HO719.out) hb); replace HO722 := sd_ (Kd.R_below (ro_ HO722.out) hb); replace BK710 := sd_ (bb_ BK710.out hb); replace HB := sd_ (below_step (bw1_ HB.out GE710.out) hb); (try clear hb)) | (go_at_call 15; (with_reducible refine (impl_LevelSystem.calls kj6 (wrap64 (1 + (Int.tmod t699 8))) t724 t725 t728 t731 _ A26.out).mono ?_); rintro e w36 ⟨v726, v729, v732, rfl, ho0, ho1, ho2, hb⟩; have HO727 := sd_ (Kd.R_lower (Kd.R_new' (Kd.R_new' (Kd.R_new' (Kd.R_new' ho0 (Kd.R_lt (ro_ HO_711001.out))) (Kd.R_lt (ro_ HO_711002.out))) (Kd.R_lt (ro_ HO716.out))) (Kd.R_lt (ro_ HO719.out))) (below_size (bw1_ HB.out GE710.out))); have HO730 := sd_ (Kd.R_lower (Kd.R_new' (Kd.R_new' (Kd.R_new' (Kd.R_new' ho1 (Kd.R_lt (ro_ HO_711001.out))) (Kd.R_lt (ro_ HO_711002.out))) (Kd.R_lt (ro_ HO716.out))) (Kd.R_lt (ro_ HO719.out))) (below_size (bw1_ HB.out GE710.out))); replace HO_711001 := sd_ (Kd.R_mono (Kd.R_told (Kd.R_told (Kd.R_old (ro_ HO_711001.out) hb) (Kd.R_base ho0)) (Kd.R_base ho1)) (fun _ h_ => h_.1)); replace HO_711002 := sd_ (Kd.R_mono (Kd.R_told (Kd.R_told (Kd.R_old (ro_ HO_711002.out) hb) (Kd.R_base ho0)) (Kd.R_base ho1)) (fun _ h_ => h_.1)); replace HO716 := sd_ (Kd.R_mono (Kd.R_told (Kd.R_told (Kd.R_old (ro_ HO716.out) hb) (Kd.R_base ho0)) (Kd.R_base ho1)) (fun _ h_ => h_.1)); replace HO719 := sd_ (Kd.R_mono (Kd.R_told (Kd.R_told (Kd.R_old (ro_ HO719.out) hb) (Kd.R_base ho0)) (Kd.R_base ho1)) (fun _ h_ => h_.1)); have HO733 := sd_ (Kd.R_lower (Kd.R_new' (Kd.R_new' ho2 (Kd.R_lt (ro_ HO_711003.out))) (Kd.R_lt (ro_ HO722.out))) (below_size (bw1_ HB.out GE710.out))); replace HO_711003 := sd_ (Kd.R_elder' (ro_ HO_711003.out) (Kd.R_base ho2) hb); replace HO722 := sd_ (Kd.R_elder' (ro_ HO722.out) (Kd.R_base ho2) hb); replace BK710 := sd_ (bb_ BK710.out hb); replace HB := sd_ (below_step (bw1_ HB.out GE710.out) hb); (try clear hb); (try clear ho0); (try clear ho1); (try clear ho2); obtain ⟨Ao37, co37, eo37⟩ := Kd.R_slice HO727.out; subst eo37; obtain ⟨Ao38, co38, eo38⟩ := Kd.R_slice HO730.out; subst eo38; obtain ⟨Ao39, co39, eo39⟩ := Kd.R_slice HO733.out; subst eo39) | (go_at_call 42; (with_reducible refine (impl_LeastGrade.calls kj6 t724 _ _ t725 _ _ t728 _ _ t731 t734 _ ?side1 ?side2 ?side3 ?side4 ?side5 ?side6 A27.out).mono ?_); (case side1 => exact kp_ (Kd.R_reads' HO727.out).2.2); (case side2 => exact (Kd.R_reads' HO727.out).2.1); (case side3 => exact kp_ (Kd.R_reads' HO730.out).2.2); (case side4 => exact (Kd.R_reads' HO730.out).2.1); (case side5 => exact kp_ (Kd.R_reads' HO733.out).2.2); (case side6 => exact (Kd.R_reads' HO733.out).2.1); rintro e w40 ⟨rfl, hb⟩; replace HO_711001 := sd_ (Kd.R_below (ro_ HO_711001.out) hb); replace HO_711002 := sd_ (Kd.R_below (ro_ HO_711002.out) hb); replace HO_711003 := sd_ (Kd.R_below (ro_ HO_711003.out) hb); replace HO716 := sd_ (Kd.R_below (ro_ HO716.out) hb); replace HO719 := sd_ (Kd.R_below (ro_ HO719.out) hb); replace HO722 := sd_ (Kd.R_below (ro_ HO722.out) hb); replace HO727 := sd_ (Kd.R_below (ro_ HO727.out) hb); replace HO730 := sd_ (Kd.R_below (ro_ HO730.out) hb); replace HO733 := sd_ (Kd.R_below (ro_ HO733.out) hb); replace BK710 := sd_ (bb_ BK710.out hb); replace HB := sd_ (below_step (bw1_ HB.out GE710.out) hb); (try clear hb)) | (go_at_call 14; (with_reducible refine (impl_CountSystem.calls kj6 (wrap64 (1 + (Int.tmod t699 8))) t735 t736 t739 t742 _ A29.out).mono ?_); rintro e w41 ⟨v737, v740, v743, rfl, ho0, ho1, ho2, hb⟩; have HO738 := sd_ (Kd.R_lower (Kd.R_new' (Kd.R_new' (Kd.R_new' (Kd.R_new' (Kd.R_new' (Kd.R_new' ho0 (Kd.R_lt (ro_ HO_711001.out))) (Kd.R_lt (ro_ HO_711002.out))) (Kd.R_lt (ro_ HO716.out))) (Kd.R_lt (ro_ HO719.out))) (Kd.R_lt (ro_ HO727.out))) (Kd.R_lt (ro_ HO730.out))) (below_size (bw1_ HB.out GE710.out))); have HO741 := sd_ (Kd.R_lower (Kd.R_new' (Kd.R_new' (Kd.R_new' (Kd.R_new' (Kd.R_new' (Kd.R_new' ho1 (Kd.R_lt (ro_ HO_711001.out))) (Kd.R_lt (ro_ HO_711002.out))) (Kd.R_lt (ro_ HO716.out))) (Kd.R_lt (ro_ HO719.out))) (Kd.R_lt (ro_ HO727.out))) (Kd.R_lt (ro_ HO730.out))) (below_size (bw1_ HB.out GE710.out))); replace HO_711001 := sd_ (Kd.R_mono (Kd.R_told (Kd.R_told (Kd.R_old (ro_ HO_711001.out) hb) (Kd.R_base ho0)) (Kd.R_base ho1)) (fun _ h_ => h_.1)); replace HO_711002 := sd_ (Kd.R_mono (Kd.R_told (Kd.R_told (Kd.R_old (ro_ HO_711002.out) hb) (Kd.R_base ho0)) (Kd.R_base ho1)) (fun _ h_ => h_.1)); replace HO716 := sd_ (Kd.R_mono (Kd.R_told (Kd.R_told (Kd.R_old (ro_ HO716.out) hb) (Kd.R_base ho0)) (Kd.R_base ho1)) (fun _ h_ => h_.1)); replace HO719 := sd_ (Kd.R_mono (Kd.R_told (Kd.R_told (Kd.R_old (ro_ HO719.out) hb) (Kd.R_base ho0)) (Kd.R_base ho1)) (fun _ h_ => h_.1)); replace HO727 := sd_ (Kd.R_mono (Kd.R_told (Kd.R_told (Kd.R_old (ro_ HO727.out) hb) (Kd.R_base ho0)) (Kd.R_base ho1)) (fun _ h_ => h_.1)); replace HO730 := sd_ (Kd.R_mono (Kd.R_told (Kd.R_told (Kd.R_old (ro_ HO730.out) hb) (Kd.R_base ho0)) (Kd.R_base ho1)) (fun _ h_ => h_.1)); have HO744 := sd_ (Kd.R_lower (Kd.R_new' (Kd.R_new' (Kd.R_new' ho2 (Kd.R_lt (ro_ HO_711003.out))) (Kd.R_lt (ro_ HO722.out))) (Kd.R_lt (ro_ HO733.out))) (below_size (bw1_ HB.out GE710.out))); replace HO_711003 := sd_ (Kd.R_elder' (ro_ HO_711003.out) (Kd.R_base ho2) hb); replace HO722 := sd_ (Kd.R_elder' (ro_ HO722.out) (Kd.R_base ho2) hb); replace HO733 := sd_ (Kd.R_elder' (ro_ HO733.out) (Kd.R_base ho2) hb); replace BK710 := sd_ (bb_ BK710.out hb); replace HB := sd_ (below_step (bw1_ HB.out GE710.out) hb); (try clear hb); (try clear ho0); (try clear ho1); (try clear ho2); obtain ⟨Ao42, co42, eo42⟩ := Kd.R_slice HO738.out; subst eo42; obtain ⟨Ao43, co43, eo43⟩ := Kd.R_slice HO741.out; subst eo43; obtain ⟨Ao44, co44, eo44⟩ := Kd.R_slice HO744.out; subst eo44) | (go_at_call 42; (with_reducible refine (impl_LeastGrade.calls kj6 t735 _ _ t736 _ _ t739 _ _ t742 t745 _ ?side1 ?side2 ?side3 ?side4 ?side5 ?side6 A30.out).mono ?_); (case side1 => exact kp_ (Kd.R_reads' HO738.out).2.2); (case side2 => exact (Kd.R_reads' HO738.out).2.1); (case side3 => exact kp_ (Kd.R_reads' HO741.out).2.2); (case side4 => exact (Kd.R_reads' HO741.out).2.1); (case side5 => exact kp_ (Kd.R_reads' HO744.out).2.2); (case side6 => exact (Kd.R_reads' HO744.out).2.1); rintro e w45 ⟨rfl, hb⟩; replace HO_711001 := sd_ (Kd.R_below (ro_ HO_711001.out) hb); replace HO_711002 := sd_ (Kd.R_below (ro_ HO_711002.out) hb); replace HO_711003 := sd_ (Kd.R_below (ro_ HO_711003.out) hb); replace HO716 := sd_ (Kd.R_below (ro_ HO716.out) hb); replace HO719 := sd_ (Kd.R_below (ro_ HO719.out) hb); replace HO722 := sd_ (Kd.R_below (ro_ HO722.out) hb); replace HO727 := sd_ (Kd.R_below (ro_ HO727.out) hb); replace HO730 := sd_ (Kd.R_below (ro_ HO730.out) hb); replace HO733 := sd_ (Kd.R_below (ro_ HO733.out) hb); replace HO738 := sd_ (Kd.R_below (ro_ HO738.out) hb); replace HO741 := sd_ (Kd.R_below (ro_ HO741.out) hb); replace HO744 := sd_ (Kd.R_below (ro_ HO744.out) hb); replace BK710 := sd_ (bb_ BK710.out hb); replace HB := sd_ (below_step (bw1_ HB.out GE710.out) hb); (try clear hb)))
     go_ret
     exact ⟨an_, bw1_ HB.out GE710.out⟩
    rw [if_neg c28] at H
    have c28b0 : (t734 == 0) = false := beq_eq_false_iff_ne.mpr c28
    have c28b1 : (t734 != 0) = true := bne_iff_ne.mpr c28
    obtain rfl := Option.some.inj H
    exact absurd hr_ (by decide)
   rw [if_neg c25] at H
   have c25b0 : (t723 == 0) = false := beq_eq_false_iff_ne.mpr c25
   have c25b1 : (t723 != 0) = true := bne_iff_ne.mpr c25
   obtain rfl := Option.some.inj H
   exact absurd hr_ (by decide)

def laws_FnLeastGrades.Pure : Prop := ∀ (l0 : List Int), ((∀ z ∈ l0, (Lit.int .u8 z).wf = true) ∧ l0.length ≤ maxLen) → ∃ k, laws_FnLeastGrades.f k l0 = some true

end Go.Proofs.Ytcdmnofomoadlaa.P
