-- Printed by this session's own program (wip/tools/mkprint.py) out of the translation. Not trusted: Lean checks it.
import Derived.Test.YtnokgkhkmnldeaaM1
import Derived.Test.YtnokgkhkmnldeaaM9
import Derived.Test.YtnokgkhkmnldeaaM10
import Derived.Test.YtnokgkhkmnldeaaM4
import Derived.Laws.EntriesVeiled
/-! short words -/
namespace Go.Proofs.Ytnokgkhkmnldeaa.P
open Go.RowKit Go.Proofs.YtnokgkhkmnldeaaW.PrintWords Go.Proofs.YtnokgkhkmnldeaaW.PrintLast Go.Proofs.YtnokgkhkmnldeaaW.PrintMore
attribute [local go_sem] max2_int min2_int max_two min_two max_three min_three max_four min_four   -- for this text's walks alone
set_option linter.unusedVariables false
set_option linter.unusedSimpArgs false

/-! ### impl_check: function 101 -/
mutual
def impl_check.j0 : Nat → Int → (Int → Option (Bool)) → ((List Int) → Option (Bool)) → Int → Bool → Int → Int → List Int → List (S48) → ByteArray → Int → Bool → Bool → Option (Int)
 | 0, _, _, _, _, _, _, _, _, _, _, _, _, _ => none
 | k + 1, x1, x2, x3, x4, x36, x601000, x601001, x601002, x601003, x607000, x607001, x607002, x607003 => if x36 = true then (some 401) else (if x601000 = 0 then ((impl_within.f x601001 0 (wrap64 (x1 - 1))).bind fun t607 => (impl_check.j1 k x1 x2 x3 x4 t607 x601000 x601001 x601002 x601003 x607000 x607001 x607002 x607003)) else (if x601000 = 1 then ((impl_within.f x601001 0 2).bind fun t608 => (impl_check.j1 k x1 x2 x3 x4 t608 x601000 x601001 x601002 x601003 x607000 x607001 x607002 x607003)) else (if x607002 = true then ((x2 x601001).bind fun t609 => (impl_check.j1 k x1 x2 x3 x4 t609 x601000 x601001 x601002 x601003 x607000 x607001 x607002 x607003)) else (impl_check.j1 k x1 x2 x3 x4 (x601001 == 0) x601000 x601001 x601002 x601003 x607000 x607001 x607002 x607003))))
def impl_check.j1 : Nat → Int → (Int → Option (Bool)) → ((List Int) → Option (Bool)) → Int → Bool → Int → Int → List Int → List (S48) → ByteArray → Int → Bool → Bool → Option (Int)
 | 0, _, _, _, _, _, _, _, _, _, _, _, _, _ => none
 | k + 1, x1, x2, x3, x4, x12, x601000, x601001, x601002, x601003, x607000, x607001, x607002, x607003 => if x607003 = true then (if x12 = true then ((x3 x601002).bind fun t610 => (impl_check.j2 k x1 x2 x3 x4 t610 x601000 x601001 x601002 x601003)) else (impl_check.j2 k x1 x2 x3 x4 false x601000 x601001 x601002 x601003)) else (if x12 = true then (impl_check.j2 k x1 x2 x3 x4 ((x601002.length : Int) == 0) x601000 x601001 x601002 x601003) else (impl_check.j2 k x1 x2 x3 x4 false x601000 x601001 x601002 x601003))
def impl_check.j2 : Nat → Int → (Int → Option (Bool)) → ((List Int) → Option (Bool)) → Int → Bool → Int → Int → List Int → List (S48) → Option (Int)
 | 0, _, _, _, _, _, _, _, _, _ => none
 | k + 1, x1, x2, x3, x4, x12, x601000, x601001, x601002, x601003 => if x12 = true then (impl_check.l0 k x1 x2 x3 x4 x601003 (x601003.length : Int) 0 x601000 x601001 x601002 x601003) else (some 401)
def impl_check.l0 : Nat → Int → (Int → Option (Bool)) → ((List Int) → Option (Bool)) → Int → List (S48) → Int → Int → Int → Int → List Int → List (S48) → Option (Int)
 | 0, _, _, _, _, _, _, _, _, _, _, _ => none
 | k + 1, x1, x2, x3, x4, x82, x83, x84, x601000, x601001, x601002, x601003 => if x84 < x83 then (if 0 ≤ x84 then (if x84 < (x82.length : Int) then ((impl_adds.f k x601000 x84).bind fun t613 => ((impl_check.f k ((rd_T48 x82 x84).f0) ((rd_T48 x82 x84).f1) ((rd_T48 x82 x84).f2) ((rd_T48 x82 x84).f3) (wrap64 (x1 + t613)) x2 x3 x4).bind fun t614 => (if t614 > 400 then (some 401) else (impl_check.l0 k x1 x2 x3 t614 x82 x83 (wrap64 (x84 + 1)) x601000 x601001 x601002 x601003)))) else (none)) else (none)) else (some x4)
def impl_check.f : Nat → Int → Int → List Int → List (S48) → Int → (Int → Option (Bool)) → ((List Int) → Option (Bool)) → Int → Option (Int)
 | 0, _, _, _, _, _, _, _, _ => none
 | k + 1, a0_0, a0_1, l0_2, l0_3, a1, x2, x3, a4 => (impl_formOf.f a0_0).bind fun bt601 => (if bt601.2.2.2.2 = true then (if (wrap64 (a4 + 1)) > 400 then (impl_check.j0 k a1 x2 x3 (wrap64 (a4 + 1)) true a0_0 a0_1 l0_2 l0_3 bt601.1 bt601.2.1 bt601.2.2.1 bt601.2.2.2.1) else (impl_check.j0 k a1 x2 x3 (wrap64 (a4 + 1)) ((l0_3.length : Int) != bt601.2.1) a0_0 a0_1 l0_2 l0_3 bt601.1 bt601.2.1 bt601.2.2.1 bt601.2.2.2.1)) else (impl_check.j0 k a1 x2 x3 (wrap64 (a4 + 1)) true a0_0 a0_1 l0_2 l0_3 bt601.1 bt601.2.1 bt601.2.2.1 bt601.2.2.2.1))
end
set_option maxHeartbeats 8000000 in
set_option maxRecDepth 100000 in
theorem impl_check.calls (k : Nat) : ∀ (a0_0 : Int) (a0_1 : Int) (A0_2 : Option Addr) (c0_2 : Nat) (l0_2 : List Int) (A0_3 : Option Addr) (c0_3 : Nat) (l0_3 : List (S48)) (a1 : Int) (x2 : (Int → Option (Bool))) (K2_ : Nat) (F2_ C2_ : Array Value) (x3 : ((List Int) → Option (Bool))) (K3_ : Nat) (F3_ C3_ : Array Value) (a4 : Int) (r : Int) (w : World) (hr0_2 : Kd.C (Kd.int .i64) w A0_2 l0_2.length l0_2) (hc0_2 : l0_2.length ≤ c0_2) (hr0_3 : Kd.C k48 w A0_3 l0_3.length l0_3) (hc0_3 : l0_3.length ≤ c0_3) (hG2 : OFn K2_) (hF2 : OC62 w x2 K2_ F2_ C2_) (hG3 : OFn K3_) (hF3 : OC30 w x3 K3_ F3_ C3_) (h : impl_check.f k a0_0 a0_1 l0_2 l0_3 a1 x2 x3 a4 = some r),
  Calls Try.prog 101 #[.agg #[.int .i64 a0_0, .int .i64 a0_1, .slice A0_2 l0_2.length c0_2, .slice A0_3 l0_3.length c0_3], .int .i64 a1, .func (.func K2_) F2_ C2_, .func (.func K3_) F3_ C3_, .int .i64 a4] w fun e w' => e = .returned (.int .i64 r) ∧ Below w.heap.size w w' := by
 induction k using Nat.strongRecOn with
 | _ k ih =>
 intro a0_0 a0_1 A0_2 c0_2 l0_2 A0_3 c0_3 l0_3 a1 x2 K2_ F2_ C2_ x3 K3_ F3_ C3_ a4 r w hr0_2 hc0_2 hr0_3 hc0_3 hG2 hF2 hG3 hF3 h
 cases k with
 | zero => exact absurd h (by simp [impl_check.f])
 | succ k =>
 simp only [impl_check.f] at h
 have hu48 := Try.underlying48
 have hu86 := Try.underlying86
 have HR0_2 := sd_ hr0_2
 have HC0_2 := sd_ hc0_2
 clear hr0_2 hc0_2
 have HR0_3 := sd_ hr0_3
 have HC0_3 := sd_ hc0_3
 clear hr0_3 hc0_3
 have HG2 := sd_ hG2
 have hcf2 := fun (xs : Array Value) (w : World) => OFn.run HG2.out xs w
 have HF2 := sd_ hF2
 clear hG2 hF2
 have HG3 := sd_ hG3
 have hcf3 := fun (xs : Array Value) (w : World) => OFn.run HG3.out xs w
 have HF3 := sd_ hF3
 clear hG3 hF3
 have HB := sd_ (Below.refl w.heap.size w)
 have H : ((impl_formOf.f a0_0).bind fun bt601 => (if bt601.2.2.2.2 = true then (if (wrap64 (a4 + 1)) > 400 then (impl_check.j0 k a1 x2 x3 (wrap64 (a4 + 1)) true a0_0 a0_1 l0_2 l0_3 bt601.1 bt601.2.1 bt601.2.2.1 bt601.2.2.2.1) else (impl_check.j0 k a1 x2 x3 (wrap64 (a4 + 1)) ((l0_3.length : Int) != bt601.2.1) a0_0 a0_1 l0_2 l0_3 bt601.1 bt601.2.1 bt601.2.2.1 bt601.2.2.2.1)) else (impl_check.j0 k a1 x2 x3 (wrap64 (a4 + 1)) true a0_0 a0_1 l0_2 l0_3 bt601.1 bt601.2.1 bt601.2.2.1 bt601.2.2.2.1))) = some r := h
 clear h
 replace H := Option.bind_eq_some_iff.mp H
 obtain ⟨⟨t601, t602, t603, t604, t605⟩, A60, H⟩ := H
 try dsimp only at H
 have A6 := sd_ A60
 clear A60
 have HC7 := sd_ H
 clear H
 go_enter Try.func101, Try.ntmps101
 go_upto_region 3 with (first | ((with_reducible refine gate_dst (N := 5) rfl ?_); (try (refine gate_guard (by rfl) ?_; dsimp only)); refine box_event ?hg (N := 5) ?hd (cs := #[.int .i64 a0_0, .int .i64 a0_1, .slice A0_2 l0_2.length c0_2, .slice A0_3 l0_3.length c0_3]) (t := 48) ?hr ?_; (case hd => rfl); (case hg => rfl); (case hr => first | (go_simp; done) | (go_simp; rfl)); intro gb600 hg w8 hbox hb; have BK600 := sd_ (hbox); have GW600 := sd_ ((by rw [hg]; exact (below_size (bw0_ HB.out)) : w.heap.size ≤ gb600)); have GE600 := sd_ ((by rw [hg]; exact (below_size (bw0_ HB.out)) : w.heap.size ≤ gb600)); replace HB := sd_ (below_step (bw0_ HB.out) hb); clear hb hbox hg; have hcz9_0 : w8.cell? ⟨gb600, 0, none⟩ = some (.int .i64 a0_0) := (blk_cell BK600.out 0).trans rfl; have hcz9_1 : w8.cell? ⟨gb600, 1, none⟩ = some (.int .i64 a0_1) := (blk_cell BK600.out 1).trans rfl; have hcz9_2 : w8.cell? ⟨gb600, 2, none⟩ = some (.slice A0_2 l0_2.length c0_2) := (blk_cell BK600.out 2).trans rfl; have hcz9_3 : w8.cell? ⟨gb600, 3, none⟩ = some (.slice A0_3 l0_3.length c0_3) := (blk_cell BK600.out 3).trans rfl; have hfz9_0 := blk_frozen BK600.out 0; have hfz9_1 := blk_frozen BK600.out 1; have hfz9_2 := blk_frozen BK600.out 2; have hfz9_3 := blk_frozen BK600.out 3) | ((with_reducible refine gate_callee (f := 116) rfl ?_); refine goesL_ (some 20) rfl rfl Try.func116 (by kernel_rfl) rfl #[.int .i64 a0_0] rfl (by (try simp only [List.map_toArray, List.map_cons, List.map_nil]); first | done | rfl | (simp only [List.length_drop, List.length_take]; rfl)) ?_; (with_reducible refine (impl_formOf.calls a0_0 t601 t602 t603 t604 t605 _ A6.out).mono ?_); rintro e w10 ⟨rfl, hb⟩; refine ⟨_, rfl, ?_⟩; replace BK600 := sd_ (bb_ BK600.out hb); replace HB := sd_ (below_step (bw1_ HB.out GE600.out) hb); (try clear hb); (try clear hb2); (try clear hk); (try clear hi)) | ((with_reducible refine gate_dst (N := 11) rfl ?_); (try (refine gate_guard (by rfl) ?_; dsimp only)); refine box_event ?hg (N := 11) ?hd (cs := #[.string (⟨#[]⟩ : ByteArray), .int .i64 0, .bool false, .bool false]) (t := 86) ?hr ?_; (case hd => rfl); (case hg => rfl); (case hr => first | (go_simp; done) | (go_simp; rfl)); intro gb606 hg w11 hbox hb; have BK606 := sd_ (hbox); have GW606 := sd_ ((by rw [hg]; exact (below_size (bw1_ HB.out GE600.out)) : w.heap.size ≤ gb606)); have GE606 := sd_ ((by rw [hg]; exact (below_size (bw1_ HB.out GE600.out)) : w.heap.size ≤ gb606)); replace HB := sd_ (below_step (bw1_ HB.out GE600.out) hb); have NB600_606 := sd_ ((by rw [hg]; exact Nat.ne_of_lt (bl_ BK600.out) : gb600 ≠ gb606)); have NB606_600 := sd_ ((by rw [hg]; exact Nat.ne_of_gt (bl_ BK600.out) : gb606 ≠ gb600)); replace BK600 := sd_ (bb_ BK600.out hb); clear hb hbox hg; have hnb12 := NB606_600.out; have hnc12 := NB600_606.out; have hcz13_0 : w11.cell? ⟨gb606, 0, none⟩ = some (.string (⟨#[]⟩ : ByteArray)) := (blk_cell BK606.out 0).trans rfl; have hcz13_1 : w11.cell? ⟨gb606, 1, none⟩ = some (.int .i64 0) := (blk_cell BK606.out 1).trans rfl; have hcz13_2 : w11.cell? ⟨gb606, 2, none⟩ = some (.bool false) := (blk_cell BK606.out 2).trans rfl; have hcz13_3 : w11.cell? ⟨gb606, 3, none⟩ = some (.bool false) := (blk_cell BK606.out 3).trans rfl; have hfz13_0 := blk_frozen BK606.out 0; have hfz13_1 := blk_frozen BK606.out 1; have hfz13_2 := blk_frozen BK606.out 2; have hfz13_3 := blk_frozen BK606.out 3))
 (try simp only [Act.put, List.setIfInBounds_toArray, List.set_cons_zero, List.set_cons_succ])
 go_cut [36] (fun v36 wc => ∃ (kq : Nat) (x36_6 : Bool), v36 = .bool x36_6 ∧ Aside0 (impl_check.j0 kq a1 x2 x3 (wrap64 (a4 + 1)) x36_6 a0_0 a0_1 l0_2 l0_3 t601 t602 t603 t604 = some r) ∧ Aside0 (kq ≤ k) ∧ Aside0 (wc.heap[gb600]? = some (.cells #[.int .i64 a0_0, .int .i64 a0_1, (.slice A0_2 l0_2.length c0_2), (.slice A0_3 l0_3.length c0_3)] 48 (0, 0))) ∧ Aside0 (wc.heap[gb606]? = some (.cells #[.string t601, .int .i64 t602, .bool t603, .bool t604] 86 (0, 0))) ∧ Aside0 (Below w.heap.size w wc))
 case first =>
  have H := HC7.out
  clear HC7
  by_cases c14 : t605 = true
  ·subst c14
   have H1 : (if (wrap64 (a4 + 1)) > 400 then (impl_check.j0 k a1 x2 x3 (wrap64 (a4 + 1)) true a0_0 a0_1 l0_2 l0_3 t601 t602 t603 t604) else (impl_check.j0 k a1 x2 x3 (wrap64 (a4 + 1)) ((l0_3.length : Int) != t602) a0_0 a0_1 l0_2 l0_3 t601 t602 t603 t604)) = some r := by rw [if_pos rfl] at H; exact H
   clear H
   have H := H1
   clear H1
   by_cases c15 : (wrap64 (a4 + 1)) > 400
   ·rw [if_pos c15] at H
    have c15b0 : decide (400 < (wrap64 (a4 + 1))) = true := decide_eq_true c15
    clear c15
    (first | rw [c15b0] | (simp only [i64_w, i32_w]; rw [c15b0]) | skip)
    have H' := sd_ H
    clear H
    go_wp2
    go_meet
    case rel => exact ⟨_, (true), (by first | rfl | (simp; done) | (simp [*]; done)), H', ⟨by first | omega | exact Nat.le_refl _⟩, ⟨by (with_reducible repeat (first | refine blk_drewN ?_ _ | refine blk_drew ?_ | refine blk_alloc ?_ _)); refine blk_far ?_ NB600_606.out _; (with_reducible repeat (first | refine blk_drewN ?_ _ | refine blk_drew ?_ | refine blk_alloc ?_ _)); refine blk_far ?_ NB600_606.out _; (with_reducible repeat (first | refine blk_drewN ?_ _ | refine blk_drew ?_ | refine blk_alloc ?_ _)); refine blk_far ?_ NB600_606.out _; (with_reducible repeat (first | refine blk_drewN ?_ _ | refine blk_drew ?_ | refine blk_alloc ?_ _)); refine blk_far ?_ NB600_606.out _; (with_reducible repeat (first | refine blk_drewN ?_ _ | refine blk_drew ?_ | refine blk_alloc ?_ _)); exact BK600.out⟩, ⟨by (with_reducible repeat (first | refine blk_drewN ?_ _ | refine blk_drew ?_ | refine blk_alloc ?_ _)); refine blk_put (cs := #[.string t601, .int .i64 t602, .bool t603, .bool false]) ?_ 3 _ rfl; (with_reducible repeat (first | refine blk_drewN ?_ _ | refine blk_drew ?_ | refine blk_alloc ?_ _)); refine blk_put (cs := #[.string t601, .int .i64 t602, .bool false, .bool false]) ?_ 2 _ rfl; (with_reducible repeat (first | refine blk_drewN ?_ _ | refine blk_drew ?_ | refine blk_alloc ?_ _)); refine blk_put (cs := #[.string t601, .int .i64 0, .bool false, .bool false]) ?_ 1 _ rfl; (with_reducible repeat (first | refine blk_drewN ?_ _ | refine blk_drew ?_ | refine blk_alloc ?_ _)); refine blk_put (cs := #[.string (⟨#[]⟩ : ByteArray), .int .i64 0, .bool false, .bool false]) ?_ 0 _ rfl; (with_reducible repeat (first | refine blk_drewN ?_ _ | refine blk_drew ?_ | refine blk_alloc ?_ _)); exact BK606.out⟩, ⟨bw2_ HB.out GE600.out GE606.out⟩⟩
   ·rw [if_neg c15] at H
    have c15b0 : decide (400 < (wrap64 (a4 + 1))) = false := decide_eq_false c15
    clear c15
    (first | rw [c15b0] | (simp only [i64_w, i32_w]; rw [c15b0]) | skip)
    have H' := sd_ H
    clear H
    have hnb16 := NB600_606.out
    have hnc16 := NB606_600.out
    have hcz17_0 : w11.cell? ⟨gb600, 0, none⟩ = some (.int .i64 a0_0) := (blk_cell BK600.out 0).trans rfl
    have hcz17_1 : w11.cell? ⟨gb600, 1, none⟩ = some (.int .i64 a0_1) := (blk_cell BK600.out 1).trans rfl
    have hcz17_2 : w11.cell? ⟨gb600, 2, none⟩ = some (.slice A0_2 l0_2.length c0_2) := (blk_cell BK600.out 2).trans rfl
    have hcz17_3 : w11.cell? ⟨gb600, 3, none⟩ = some (.slice A0_3 l0_3.length c0_3) := (blk_cell BK600.out 3).trans rfl
    have hfz17_0 := blk_frozen BK600.out 0
    have hfz17_1 := blk_frozen BK600.out 1
    have hfz17_2 := blk_frozen BK600.out 2
    have hfz17_3 := blk_frozen BK600.out 3
    have hcz18_0 : w11.cell? ⟨gb606, 0, none⟩ = some (.string (⟨#[]⟩ : ByteArray)) := (blk_cell BK606.out 0).trans rfl
    have hcz18_1 : w11.cell? ⟨gb606, 1, none⟩ = some (.int .i64 0) := (blk_cell BK606.out 1).trans rfl
    have hcz18_2 : w11.cell? ⟨gb606, 2, none⟩ = some (.bool false) := (blk_cell BK606.out 2).trans rfl
    have hcz18_3 : w11.cell? ⟨gb606, 3, none⟩ = some (.bool false) := (blk_cell BK606.out 3).trans rfl
    have hfz18_0 := blk_frozen BK606.out 0
    have hfz18_1 := blk_frozen BK606.out 1
    have hfz18_2 := blk_frozen BK606.out 2
    have hfz18_3 := blk_frozen BK606.out 3
    go_wp2
    go_meet
    case rel => exact ⟨_, (((l0_3.length : Int) != t602)), (by first | rfl | (simp; done) | (simp [*]; done)), H', ⟨by first | omega | exact Nat.le_refl _⟩, ⟨by (with_reducible repeat (first | refine blk_drewN ?_ _ | refine blk_drew ?_ | refine blk_alloc ?_ _)); refine blk_far ?_ NB600_606.out _; (with_reducible repeat (first | refine blk_drewN ?_ _ | refine blk_drew ?_ | refine blk_alloc ?_ _)); refine blk_far ?_ NB600_606.out _; (with_reducible repeat (first | refine blk_drewN ?_ _ | refine blk_drew ?_ | refine blk_alloc ?_ _)); refine blk_far ?_ NB600_606.out _; (with_reducible repeat (first | refine blk_drewN ?_ _ | refine blk_drew ?_ | refine blk_alloc ?_ _)); refine blk_far ?_ NB600_606.out _; (with_reducible repeat (first | refine blk_drewN ?_ _ | refine blk_drew ?_ | refine blk_alloc ?_ _)); exact BK600.out⟩, ⟨by (with_reducible repeat (first | refine blk_drewN ?_ _ | refine blk_drew ?_ | refine blk_alloc ?_ _)); refine blk_put (cs := #[.string t601, .int .i64 t602, .bool t603, .bool false]) ?_ 3 _ rfl; (with_reducible repeat (first | refine blk_drewN ?_ _ | refine blk_drew ?_ | refine blk_alloc ?_ _)); refine blk_put (cs := #[.string t601, .int .i64 t602, .bool false, .bool false]) ?_ 2 _ rfl; (with_reducible repeat (first | refine blk_drewN ?_ _ | refine blk_drew ?_ | refine blk_alloc ?_ _)); refine blk_put (cs := #[.string t601, .int .i64 0, .bool false, .bool false]) ?_ 1 _ rfl; (with_reducible repeat (first | refine blk_drewN ?_ _ | refine blk_drew ?_ | refine blk_alloc ?_ _)); refine blk_put (cs := #[.string (⟨#[]⟩ : ByteArray), .int .i64 0, .bool false, .bool false]) ?_ 0 _ rfl; (with_reducible repeat (first | refine blk_drewN ?_ _ | refine blk_drew ?_ | refine blk_alloc ?_ _)); exact BK606.out⟩, ⟨bw2_ HB.out GE600.out GE606.out⟩⟩
  ·replace c14 := Bool.eq_false_iff.mpr c14
   subst c14
   have H1 : (impl_check.j0 k a1 x2 x3 (wrap64 (a4 + 1)) true a0_0 a0_1 l0_2 l0_3 t601 t602 t603 t604) = some r := by rw [if_neg (show ¬ (false = true) by decide)] at H; exact H
   clear H
   have H := H1
   clear H1
   have H' := sd_ H
   clear H
   go_wp2
   go_meet
   case rel => exact ⟨_, (true), (by first | rfl | (simp; done) | (simp [*]; done)), H', ⟨by first | omega | exact Nat.le_refl _⟩, ⟨by (with_reducible repeat (first | refine blk_drewN ?_ _ | refine blk_drew ?_ | refine blk_alloc ?_ _)); refine blk_far ?_ NB600_606.out _; (with_reducible repeat (first | refine blk_drewN ?_ _ | refine blk_drew ?_ | refine blk_alloc ?_ _)); refine blk_far ?_ NB600_606.out _; (with_reducible repeat (first | refine blk_drewN ?_ _ | refine blk_drew ?_ | refine blk_alloc ?_ _)); refine blk_far ?_ NB600_606.out _; (with_reducible repeat (first | refine blk_drewN ?_ _ | refine blk_drew ?_ | refine blk_alloc ?_ _)); refine blk_far ?_ NB600_606.out _; (with_reducible repeat (first | refine blk_drewN ?_ _ | refine blk_drew ?_ | refine blk_alloc ?_ _)); exact BK600.out⟩, ⟨by (with_reducible repeat (first | refine blk_drewN ?_ _ | refine blk_drew ?_ | refine blk_alloc ?_ _)); refine blk_put (cs := #[.string t601, .int .i64 t602, .bool t603, .bool false]) ?_ 3 _ rfl; (with_reducible repeat (first | refine blk_drewN ?_ _ | refine blk_drew ?_ | refine blk_alloc ?_ _)); refine blk_put (cs := #[.string t601, .int .i64 t602, .bool false, .bool false]) ?_ 2 _ rfl; (with_reducible repeat (first | refine blk_drewN ?_ _ | refine blk_drew ?_ | refine blk_alloc ?_ _)); refine blk_put (cs := #[.string t601, .int .i64 0, .bool false, .bool false]) ?_ 1 _ rfl; (with_reducible repeat (first | refine blk_drewN ?_ _ | refine blk_drew ?_ | refine blk_alloc ?_ _)); refine blk_put (cs := #[.string (⟨#[]⟩ : ByteArray), .int .i64 0, .bool false, .bool false]) ?_ 0 _ rfl; (with_reducible repeat (first | refine blk_drewN ?_ _ | refine blk_drew ?_ | refine blk_alloc ?_ _)); exact BK606.out⟩, ⟨bw2_ HB.out GE600.out GE606.out⟩⟩
 case rest =>
  clear HC7
  try clear c1
  try clear p6
  try clear c10
  try clear c11
  try clear c12
  try clear hcz13_0
  try clear hcz13_1
  try clear hcz13_2
  try clear hcz13_3
  try clear hcz9_0
  try clear hcz9_1
  try clear hcz9_2
  try clear hcz9_3
  try clear hfz13_0
  try clear hfz13_1
  try clear hfz13_2
  try clear hfz13_3
  try clear hfz9_0
  try clear hfz9_1
  try clear hfz9_2
  try clear hfz9_3
  obtain ⟨kq, x36_6, rfl, HA, HJ6, BK600, BK606, HB⟩ := hcut
  cases kq with
  | zero => exact absurd HA.out (by simp [impl_check.j0])
  | succ kj6 =>
   have H := HA.out
   clear HA
   simp only [impl_check.j0] at H
   by_cases c19 : x36_6 = true
   ·subst c19
    have H1 : (some 401) = some r := by rw [if_pos rfl] at H; exact H
    clear H
    have H := H1
    clear H1
    obtain rfl := Option.some.inj H
    go_wp2
    go_ret
    exact ⟨an_, bw2_ HB.out GE600.out GE606.out⟩
   ·replace c19 := Bool.eq_false_iff.mpr c19
    subst c19
    have H1 : (if a0_0 = 0 then ((impl_within.f a0_1 0 (wrap64 (a1 - 1))).bind fun t607 => (impl_check.j1 kj6 a1 x2 x3 (wrap64 (a4 + 1)) t607 a0_0 a0_1 l0_2 l0_3 t601 t602 t603 t604)) else (if a0_0 = 1 then ((impl_within.f a0_1 0 2).bind fun t608 => (impl_check.j1 kj6 a1 x2 x3 (wrap64 (a4 + 1)) t608 a0_0 a0_1 l0_2 l0_3 t601 t602 t603 t604)) else (if t603 = true then ((x2 a0_1).bind fun t609 => (impl_check.j1 kj6 a1 x2 x3 (wrap64 (a4 + 1)) t609 a0_0 a0_1 l0_2 l0_3 t601 t602 t603 t604)) else (impl_check.j1 kj6 a1 x2 x3 (wrap64 (a4 + 1)) (a0_1 == 0) a0_0 a0_1 l0_2 l0_3 t601 t602 t603 t604)))) = some r := by rw [if_neg (show ¬ (false = true) by decide)] at H; exact H
    clear H
    have H := H1
    clear H1
    have HC20 := sd_ H
    clear H
    go_upto_block 0 with (fail)
    go_cut [12] (fun v12 wc => ∃ (kq : Nat) (x12_19 : Bool), v12 = .bool x12_19 ∧ Aside0 (impl_check.j1 kq a1 x2 x3 (wrap64 (a4 + 1)) x12_19 a0_0 a0_1 l0_2 l0_3 t601 t602 t603 t604 = some r) ∧ Aside0 (kq ≤ kj6) ∧ Aside0 (wc.heap[gb600]? = some (.cells #[.int .i64 a0_0, .int .i64 a0_1, (.slice A0_2 l0_2.length c0_2), (.slice A0_3 l0_3.length c0_3)] 48 (0, 0))) ∧ Aside0 (wc.heap[gb606]? = some (.cells #[.string t601, .int .i64 t602, .bool t603, .bool t604] 86 (0, 0))) ∧ Aside0 (Below w.heap.size w wc))
    case first =>
     have H := HC20.out
     clear HC20
     by_cases c21 : a0_0 = 0
     ·rw [if_pos c21] at H
      have c21b0 : (a0_0 == 0) = true := beq_iff_eq.mpr c21
      have c21b1 : (a0_0 != 0) = false := bne_eq_false_iff_eq.mpr c21
      clear c21
      (first | rw [c21b0] | (simp only [i64_w, i32_w]; rw [c21b0]) | skip)
      replace H := Option.bind_eq_some_iff.mp H
      obtain ⟨t607, A220, H⟩ := H
      try dsimp only at H
      have A22 := sd_ A220
      clear A220
      have H' := sd_ H
      clear H
      have hnb23 := NB600_606.out
      have hnc23 := NB606_600.out
      have hcz24_0 : wc.cell? ⟨gb600, 0, none⟩ = some (.int .i64 a0_0) := (blk_cell BK600.out 0).trans rfl
      have hcz24_1 : wc.cell? ⟨gb600, 1, none⟩ = some (.int .i64 a0_1) := (blk_cell BK600.out 1).trans rfl
      have hcz24_2 : wc.cell? ⟨gb600, 2, none⟩ = some (.slice A0_2 l0_2.length c0_2) := (blk_cell BK600.out 2).trans rfl
      have hcz24_3 : wc.cell? ⟨gb600, 3, none⟩ = some (.slice A0_3 l0_3.length c0_3) := (blk_cell BK600.out 3).trans rfl
      have hfz24_0 := blk_frozen BK600.out 0
      have hfz24_1 := blk_frozen BK600.out 1
      have hfz24_2 := blk_frozen BK600.out 2
      have hfz24_3 := blk_frozen BK600.out 3
      go_wp2_with (first | ((with_reducible refine gate_callee (f := 85) rfl ?_); refine goesL_ (some 48) rfl rfl Try.func85 (by kernel_rfl) rfl #[.int .i64 a0_1, .int .i64 0, .int .i64 (wrap64 (a1 - 1))] rfl (by (try simp only [List.map_toArray, List.map_cons, List.map_nil]); first | done | rfl | (simp only [List.length_drop, List.length_take]; rfl)) ?_; (with_reducible refine (impl_within.calls a0_1 0 (wrap64 (a1 - 1)) t607 _ A22.out).mono ?_); rintro e w' ⟨rfl, ⟨nd, rfl⟩⟩; refine ⟨_, rfl, ?_⟩))
      go_meet
      case rel => exact ⟨_, (t607), (by first | rfl | (simp; done) | (simp [*]; done)), H', ⟨by have := HJ6.out; first | omega | exact Nat.le_refl _⟩, ⟨by (with_reducible repeat (first | refine blk_drewN ?_ _ | refine blk_drew ?_ | refine blk_alloc ?_ _)); exact BK600.out⟩, ⟨by (with_reducible repeat (first | refine blk_drewN ?_ _ | refine blk_drew ?_ | refine blk_alloc ?_ _)); exact BK606.out⟩, ⟨bw2_ HB.out GE600.out GE606.out⟩⟩
     ·rw [if_neg c21] at H
      have c21b0 : (a0_0 == 0) = false := beq_eq_false_iff_ne.mpr c21
      have c21b1 : (a0_0 != 0) = true := bne_iff_ne.mpr c21
      (first | rw [c21b0] | (simp only [i64_w, i32_w]; rw [c21b0]) | skip)
      by_cases c25 : a0_0 = 1
      ·rw [if_pos c25] at H
       have c25b0 : (a0_0 == 1) = true := beq_iff_eq.mpr c25
       have c25b1 : (a0_0 != 1) = false := bne_eq_false_iff_eq.mpr c25
       clear c25
       replace H := Option.bind_eq_some_iff.mp H
       obtain ⟨t608, A260, H⟩ := H
       try dsimp only at H
       have A26 := sd_ A260
       clear A260
       have H' := sd_ H
       clear H
       have hnb27 := NB600_606.out
       have hnc27 := NB606_600.out
       have hcz28_0 : wc.cell? ⟨gb600, 0, none⟩ = some (.int .i64 a0_0) := (blk_cell BK600.out 0).trans rfl
       have hcz28_1 : wc.cell? ⟨gb600, 1, none⟩ = some (.int .i64 a0_1) := (blk_cell BK600.out 1).trans rfl
       have hcz28_2 : wc.cell? ⟨gb600, 2, none⟩ = some (.slice A0_2 l0_2.length c0_2) := (blk_cell BK600.out 2).trans rfl
       have hcz28_3 : wc.cell? ⟨gb600, 3, none⟩ = some (.slice A0_3 l0_3.length c0_3) := (blk_cell BK600.out 3).trans rfl
       have hfz28_0 := blk_frozen BK600.out 0
       have hfz28_1 := blk_frozen BK600.out 1
       have hfz28_2 := blk_frozen BK600.out 2
       have hfz28_3 := blk_frozen BK600.out 3
       go_wp2_with (first | ((with_reducible refine gate_callee (f := 85) rfl ?_); refine goesL_ (some 55) rfl rfl Try.func85 (by kernel_rfl) rfl #[.int .i64 a0_1, .int .i64 0, .int .i64 2] rfl (by (try simp only [List.map_toArray, List.map_cons, List.map_nil]); first | done | rfl | (simp only [List.length_drop, List.length_take]; rfl)) ?_; (with_reducible refine (impl_within.calls a0_1 0 2 t608 _ A26.out).mono ?_); rintro e w' ⟨rfl, ⟨nd, rfl⟩⟩; refine ⟨_, rfl, ?_⟩))
       go_meet
       case rel => exact ⟨_, (t608), (by first | rfl | (simp; done) | (simp [*]; done)), H', ⟨by have := HJ6.out; first | omega | exact Nat.le_refl _⟩, ⟨by (with_reducible repeat (first | refine blk_drewN ?_ _ | refine blk_drew ?_ | refine blk_alloc ?_ _)); exact BK600.out⟩, ⟨by (with_reducible repeat (first | refine blk_drewN ?_ _ | refine blk_drew ?_ | refine blk_alloc ?_ _)); exact BK606.out⟩, ⟨bw2_ HB.out GE600.out GE606.out⟩⟩
      ·rw [if_neg c25] at H
       have c25b0 : (a0_0 == 1) = false := beq_eq_false_iff_ne.mpr c25
       have c25b1 : (a0_0 != 1) = true := bne_iff_ne.mpr c25
       by_cases c29 : t603 = true
       ·subst c29
        have H1 : ((x2 a0_1).bind fun t609 => (impl_check.j1 kj6 a1 x2 x3 (wrap64 (a4 + 1)) t609 a0_0 a0_1 l0_2 l0_3 t601 t602 true t604)) = some r := by rw [if_pos rfl] at H; exact H
        clear H
        have H := H1
        clear H1
        replace H := Option.bind_eq_some_iff.mp H
        obtain ⟨t609, A300, H⟩ := H
        try dsimp only at H
        have A30 := sd_ A300
        clear A300
        have H' := sd_ H
        clear H
        have hnb31 := NB600_606.out
        have hnc31 := NB606_600.out
        have hcz32_0 : wc.cell? ⟨gb600, 0, none⟩ = some (.int .i64 a0_0) := (blk_cell BK600.out 0).trans rfl
        have hcz32_1 : wc.cell? ⟨gb600, 1, none⟩ = some (.int .i64 a0_1) := (blk_cell BK600.out 1).trans rfl
        have hcz32_2 : wc.cell? ⟨gb600, 2, none⟩ = some (.slice A0_2 l0_2.length c0_2) := (blk_cell BK600.out 2).trans rfl
        have hcz32_3 : wc.cell? ⟨gb600, 3, none⟩ = some (.slice A0_3 l0_3.length c0_3) := (blk_cell BK600.out 3).trans rfl
        have hfz32_0 := blk_frozen BK600.out 0
        have hfz32_1 := blk_frozen BK600.out 1
        have hfz32_2 := blk_frozen BK600.out 2
        have hfz32_3 := blk_frozen BK600.out 3
        have hcz33_0 : wc.cell? ⟨gb606, 0, none⟩ = some (.string t601) := (blk_cell BK606.out 0).trans rfl
        have hcz33_1 : wc.cell? ⟨gb606, 1, none⟩ = some (.int .i64 t602) := (blk_cell BK606.out 1).trans rfl
        have hcz33_2 : wc.cell? ⟨gb606, 2, none⟩ = some (.bool true) := (blk_cell BK606.out 2).trans rfl
        have hcz33_3 : wc.cell? ⟨gb606, 3, none⟩ = some (.bool t604) := (blk_cell BK606.out 3).trans rfl
        have hfz33_0 := blk_frozen BK606.out 0
        have hfz33_1 := blk_frozen BK606.out 1
        have hfz33_2 := blk_frozen BK606.out 2
        have hfz33_3 := blk_frozen BK606.out 3
        go_wp2_with (first | ((with_reducible refine gate_calleeO (t := 59) rfl ?_); refine goesOL_ (some 62) rfl rfl HG2.out #[.int .i64 a0_1] rfl (by (try simp only [List.map_toArray, List.map_cons, List.map_nil]); first | done | rfl | (simp only [List.length_drop, List.length_take]; rfl)) rfl ?_; (with_reducible refine (HF2.out a0_1 t609 _ ?side1 A30.out).mono ?_); (case side1 => exact (bw2_ HB.out GE600.out GE606.out)); rintro e w34 ⟨rfl, hb⟩; refine ⟨_, rfl, ?_⟩; replace BK600 := sd_ (bb_ BK600.out hb); replace BK606 := sd_ (bb_ BK606.out hb); replace HB := sd_ (below_step (bw2_ HB.out GE600.out GE606.out) hb); (try clear hb); (try clear hb2); (try clear hk); (try clear hi)))
        go_meet
        case rel => exact ⟨_, (t609), (by first | rfl | (simp; done) | (simp [*]; done)), H', ⟨by have := HJ6.out; first | omega | exact Nat.le_refl _⟩, ⟨by (with_reducible repeat (first | refine blk_drewN ?_ _ | refine blk_drew ?_ | refine blk_alloc ?_ _)); exact BK600.out⟩, ⟨by (with_reducible repeat (first | refine blk_drewN ?_ _ | refine blk_drew ?_ | refine blk_alloc ?_ _)); exact BK606.out⟩, ⟨bw2_ HB.out GE600.out GE606.out⟩⟩
       ·replace c29 := Bool.eq_false_iff.mpr c29
        subst c29
        have H1 : (impl_check.j1 kj6 a1 x2 x3 (wrap64 (a4 + 1)) (a0_1 == 0) a0_0 a0_1 l0_2 l0_3 t601 t602 false t604) = some r := by rw [if_neg (show ¬ (false = true) by decide)] at H; exact H
        clear H
        have H := H1
        clear H1
        have H' := sd_ H
        clear H
        have hnb35 := NB600_606.out
        have hnc35 := NB606_600.out
        have hcz36_0 : wc.cell? ⟨gb600, 0, none⟩ = some (.int .i64 a0_0) := (blk_cell BK600.out 0).trans rfl
        have hcz36_1 : wc.cell? ⟨gb600, 1, none⟩ = some (.int .i64 a0_1) := (blk_cell BK600.out 1).trans rfl
        have hcz36_2 : wc.cell? ⟨gb600, 2, none⟩ = some (.slice A0_2 l0_2.length c0_2) := (blk_cell BK600.out 2).trans rfl
        have hcz36_3 : wc.cell? ⟨gb600, 3, none⟩ = some (.slice A0_3 l0_3.length c0_3) := (blk_cell BK600.out 3).trans rfl
        have hfz36_0 := blk_frozen BK600.out 0
        have hfz36_1 := blk_frozen BK600.out 1
        have hfz36_2 := blk_frozen BK600.out 2
        have hfz36_3 := blk_frozen BK600.out 3
        have hcz37_0 : wc.cell? ⟨gb606, 0, none⟩ = some (.string t601) := (blk_cell BK606.out 0).trans rfl
        have hcz37_1 : wc.cell? ⟨gb606, 1, none⟩ = some (.int .i64 t602) := (blk_cell BK606.out 1).trans rfl
        have hcz37_2 : wc.cell? ⟨gb606, 2, none⟩ = some (.bool false) := (blk_cell BK606.out 2).trans rfl
        have hcz37_3 : wc.cell? ⟨gb606, 3, none⟩ = some (.bool t604) := (blk_cell BK606.out 3).trans rfl
        have hfz37_0 := blk_frozen BK606.out 0
        have hfz37_1 := blk_frozen BK606.out 1
        have hfz37_2 := blk_frozen BK606.out 2
        have hfz37_3 := blk_frozen BK606.out 3
        go_wp2
        go_meet
        case rel => exact ⟨_, ((a0_1 == 0)), (by first | rfl | (simp; done) | (simp [*]; done)), H', ⟨by have := HJ6.out; first | omega | exact Nat.le_refl _⟩, ⟨by (with_reducible repeat (first | refine blk_drewN ?_ _ | refine blk_drew ?_ | refine blk_alloc ?_ _)); exact BK600.out⟩, ⟨by (with_reducible repeat (first | refine blk_drewN ?_ _ | refine blk_drew ?_ | refine blk_alloc ?_ _)); exact BK606.out⟩, ⟨bw2_ HB.out GE600.out GE606.out⟩⟩
    case rest =>
     clear HC20
     try clear c1
     try clear p6
     try clear c10
     try clear c11
     try clear c12
     try clear c19
     try clear hcz13_0
     try clear hcz13_1
     try clear hcz13_2
     try clear hcz13_3
     try clear hcz9_0
     try clear hcz9_1
     try clear hcz9_2
     try clear hcz9_3
     try clear hfz13_0
     try clear hfz13_1
     try clear hfz13_2
     try clear hfz13_3
     try clear hfz9_0
     try clear hfz9_1
     try clear hfz9_2
     try clear hfz9_3
     try clear p6
     obtain ⟨kq, x12_19, rfl, HA, HJ19, BK600, BK606, HB⟩ := hcut
     cases kq with
     | zero => exact absurd HA.out (by simp [impl_check.j1])
     | succ kj19 =>
      have H := HA.out
      clear HA
      simp only [impl_check.j1] at H
      have HC38 := sd_ H
      clear H
      have hnb39 := NB606_600.out
      have hnc39 := NB600_606.out
      have hcz40_0 : wc.cell? ⟨gb606, 0, none⟩ = some (.string t601) := (blk_cell BK606.out 0).trans rfl
      have hcz40_1 : wc.cell? ⟨gb606, 1, none⟩ = some (.int .i64 t602) := (blk_cell BK606.out 1).trans rfl
      have hcz40_2 : wc.cell? ⟨gb606, 2, none⟩ = some (.bool t603) := (blk_cell BK606.out 2).trans rfl
      have hcz40_3 : wc.cell? ⟨gb606, 3, none⟩ = some (.bool t604) := (blk_cell BK606.out 3).trans rfl
      have hfz40_0 := blk_frozen BK606.out 0
      have hfz40_1 := blk_frozen BK606.out 1
      have hfz40_2 := blk_frozen BK606.out 2
      have hfz40_3 := blk_frozen BK606.out 3
      go_upto_if 64 with (fail)
      go_cut [12] (fun v12 wc => ∃ (kq : Nat) (x12_37 : Bool), v12 = .bool x12_37 ∧ Aside0 (impl_check.j2 kq a1 x2 x3 (wrap64 (a4 + 1)) x12_37 a0_0 a0_1 l0_2 l0_3 = some r) ∧ Aside0 (kq ≤ kj19) ∧ Aside0 (wc.heap[gb600]? = some (.cells #[.int .i64 a0_0, .int .i64 a0_1, (.slice A0_2 l0_2.length c0_2), (.slice A0_3 l0_3.length c0_3)] 48 (0, 0))) ∧ Aside0 (wc.heap[gb606]? = some (.cells #[.string t601, .int .i64 t602, .bool t603, .bool t604] 86 (0, 0))) ∧ Aside0 (Below w.heap.size w wc))
      case first =>
       have H := HC38.out
       clear HC38
       by_cases c41 : t604 = true
       ·subst c41
        have H1 : (if x12_19 = true then ((x3 l0_2).bind fun t610 => (impl_check.j2 kj19 a1 x2 x3 (wrap64 (a4 + 1)) t610 a0_0 a0_1 l0_2 l0_3)) else (impl_check.j2 kj19 a1 x2 x3 (wrap64 (a4 + 1)) false a0_0 a0_1 l0_2 l0_3)) = some r := by rw [if_pos rfl] at H; exact H
        clear H
        have H := H1
        clear H1
        by_cases c42 : x12_19 = true
        ·subst c42
         have H1 : ((x3 l0_2).bind fun t610 => (impl_check.j2 kj19 a1 x2 x3 (wrap64 (a4 + 1)) t610 a0_0 a0_1 l0_2 l0_3)) = some r := by rw [if_pos rfl] at H; exact H
         clear H
         have H := H1
         clear H1
         replace H := Option.bind_eq_some_iff.mp H
         obtain ⟨t610, A430, H⟩ := H
         try dsimp only at H
         have A43 := sd_ A430
         clear A430
         have H' := sd_ H
         clear H
         have hnb44 := NB600_606.out
         have hnc44 := NB606_600.out
         have hcz45_0 : wc.cell? ⟨gb600, 0, none⟩ = some (.int .i64 a0_0) := (blk_cell BK600.out 0).trans rfl
         have hcz45_1 : wc.cell? ⟨gb600, 1, none⟩ = some (.int .i64 a0_1) := (blk_cell BK600.out 1).trans rfl
         have hcz45_2 : wc.cell? ⟨gb600, 2, none⟩ = some (.slice A0_2 l0_2.length c0_2) := (blk_cell BK600.out 2).trans rfl
         have hcz45_3 : wc.cell? ⟨gb600, 3, none⟩ = some (.slice A0_3 l0_3.length c0_3) := (blk_cell BK600.out 3).trans rfl
         have hfz45_0 := blk_frozen BK600.out 0
         have hfz45_1 := blk_frozen BK600.out 1
         have hfz45_2 := blk_frozen BK600.out 2
         have hfz45_3 := blk_frozen BK600.out 3
         go_wp2_with (first | (refine calls_of_args (args' := F3_ ++ #[.slice A0_2 l0_2.length c0_2] ++ C3_) (by simp) ?_; (with_reducible refine (HF3.out _ _ l0_2 t610 _ ?side1 ?side2 ?side3 A43.out).mono ?_); (case side1 => exact kc_ HR0_2.out HB.out); (case side2 => exact HC0_2.out); (case side3 => exact (bw2_ HB.out GE600.out GE606.out)); rintro e w46 ⟨rfl, hb⟩; replace BK600 := sd_ (bb_ BK600.out hb); replace BK606 := sd_ (bb_ BK606.out hb); replace HB := sd_ (below_step (bw2_ HB.out GE600.out GE606.out) hb); (try clear hb); (try clear hb2); (try clear hk); (try clear hi)))
         go_meet
         case rel => exact ⟨_, (t610), (by first | rfl | (simp; done) | (simp [*]; done)), H', ⟨by have := HJ6.out; have := HJ19.out; first | omega | exact Nat.le_refl _⟩, ⟨by (with_reducible repeat (first | refine blk_drewN ?_ _ | refine blk_drew ?_ | refine blk_alloc ?_ _)); exact BK600.out⟩, ⟨by (with_reducible repeat (first | refine blk_drewN ?_ _ | refine blk_drew ?_ | refine blk_alloc ?_ _)); exact BK606.out⟩, ⟨bw2_ HB.out GE600.out GE606.out⟩⟩
        ·replace c42 := Bool.eq_false_iff.mpr c42
         subst c42
         have H1 : (impl_check.j2 kj19 a1 x2 x3 (wrap64 (a4 + 1)) false a0_0 a0_1 l0_2 l0_3) = some r := by rw [if_neg (show ¬ (false = true) by decide)] at H; exact H
         clear H
         have H := H1
         clear H1
         have H' := sd_ H
         clear H
         go_wp2
         go_meet
         case rel => exact ⟨_, (false), (by first | rfl | (simp; done) | (simp [*]; done)), H', ⟨by have := HJ6.out; have := HJ19.out; first | omega | exact Nat.le_refl _⟩, ⟨by (with_reducible repeat (first | refine blk_drewN ?_ _ | refine blk_drew ?_ | refine blk_alloc ?_ _)); exact BK600.out⟩, ⟨by (with_reducible repeat (first | refine blk_drewN ?_ _ | refine blk_drew ?_ | refine blk_alloc ?_ _)); exact BK606.out⟩, ⟨bw2_ HB.out GE600.out GE606.out⟩⟩
       ·replace c41 := Bool.eq_false_iff.mpr c41
        subst c41
        have H1 : (if x12_19 = true then (impl_check.j2 kj19 a1 x2 x3 (wrap64 (a4 + 1)) ((l0_2.length : Int) == 0) a0_0 a0_1 l0_2 l0_3) else (impl_check.j2 kj19 a1 x2 x3 (wrap64 (a4 + 1)) false a0_0 a0_1 l0_2 l0_3)) = some r := by rw [if_neg (show ¬ (false = true) by decide)] at H; exact H
        clear H
        have H := H1
        clear H1
        by_cases c47 : x12_19 = true
        ·subst c47
         have H1 : (impl_check.j2 kj19 a1 x2 x3 (wrap64 (a4 + 1)) ((l0_2.length : Int) == 0) a0_0 a0_1 l0_2 l0_3) = some r := by rw [if_pos rfl] at H; exact H
         clear H
         have H := H1
         clear H1
         have H' := sd_ H
         clear H
         have hnb48 := NB600_606.out
         have hnc48 := NB606_600.out
         have hcz49_0 : wc.cell? ⟨gb600, 0, none⟩ = some (.int .i64 a0_0) := (blk_cell BK600.out 0).trans rfl
         have hcz49_1 : wc.cell? ⟨gb600, 1, none⟩ = some (.int .i64 a0_1) := (blk_cell BK600.out 1).trans rfl
         have hcz49_2 : wc.cell? ⟨gb600, 2, none⟩ = some (.slice A0_2 l0_2.length c0_2) := (blk_cell BK600.out 2).trans rfl
         have hcz49_3 : wc.cell? ⟨gb600, 3, none⟩ = some (.slice A0_3 l0_3.length c0_3) := (blk_cell BK600.out 3).trans rfl
         have hfz49_0 := blk_frozen BK600.out 0
         have hfz49_1 := blk_frozen BK600.out 1
         have hfz49_2 := blk_frozen BK600.out 2
         have hfz49_3 := blk_frozen BK600.out 3
         go_wp2
         go_meet
         case rel => exact ⟨_, (((l0_2.length : Int) == 0)), (by first | rfl | (simp; done) | (simp [*]; done)), H', ⟨by have := HJ6.out; have := HJ19.out; first | omega | exact Nat.le_refl _⟩, ⟨by (with_reducible repeat (first | refine blk_drewN ?_ _ | refine blk_drew ?_ | refine blk_alloc ?_ _)); exact BK600.out⟩, ⟨by (with_reducible repeat (first | refine blk_drewN ?_ _ | refine blk_drew ?_ | refine blk_alloc ?_ _)); exact BK606.out⟩, ⟨bw2_ HB.out GE600.out GE606.out⟩⟩
        ·replace c47 := Bool.eq_false_iff.mpr c47
         subst c47
         have H1 : (impl_check.j2 kj19 a1 x2 x3 (wrap64 (a4 + 1)) false a0_0 a0_1 l0_2 l0_3) = some r := by rw [if_neg (show ¬ (false = true) by decide)] at H; exact H
         clear H
         have H := H1
         clear H1
         have H' := sd_ H
         clear H
         go_wp2
         go_meet
         case rel => exact ⟨_, (false), (by first | rfl | (simp; done) | (simp [*]; done)), H', ⟨by have := HJ6.out; have := HJ19.out; first | omega | exact Nat.le_refl _⟩, ⟨by (with_reducible repeat (first | refine blk_drewN ?_ _ | refine blk_drew ?_ | refine blk_alloc ?_ _)); exact BK600.out⟩, ⟨by (with_reducible repeat (first | refine blk_drewN ?_ _ | refine blk_drew ?_ | refine blk_alloc ?_ _)); exact BK606.out⟩, ⟨bw2_ HB.out GE600.out GE606.out⟩⟩
      case rest =>
       clear HC38
       try clear c1
       try clear c3
       try clear p6
       try clear c10
       try clear c11
       try clear c12
       try clear c19
       try clear c39
       try clear hcz13_0
       try clear hcz13_1
       try clear hcz13_2
       try clear hcz13_3
       try clear hcz40_0
       try clear hcz40_1
       try clear hcz40_2
       try clear hcz40_3
       try clear hcz9_0
       try clear hcz9_1
       try clear hcz9_2
       try clear hcz9_3
       try clear hfz13_0
       try clear hfz13_1
       try clear hfz13_2
       try clear hfz13_3
       try clear hfz40_0
       try clear hfz40_1
       try clear hfz40_2
       try clear hfz40_3
       try clear hfz9_0
       try clear hfz9_1
       try clear hfz9_2
       try clear hfz9_3
       try clear p6
       obtain ⟨kq, x12_37, rfl, HA, HJ37, BK600, BK606, HB⟩ := hcut
       cases kq with
       | zero => exact absurd HA.out (by simp [impl_check.j2])
       | succ kj37 =>
        have H := HA.out
        clear HA
        simp only [impl_check.j2] at H
        by_cases c50 : x12_37 = true
        ·subst c50
         have H1 : (impl_check.l0 kj37 a1 x2 x3 (wrap64 (a4 + 1)) l0_3 (l0_3.length : Int) 0 a0_0 a0_1 l0_2 l0_3) = some r := by rw [if_pos rfl] at H; exact H
         clear H
         have H := H1
         clear H1
         have H' := sd_ H
         clear H
         have hnb51 := NB600_606.out
         have hnc51 := NB606_600.out
         have hcz52_0 : wc.cell? ⟨gb600, 0, none⟩ = some (.int .i64 a0_0) := (blk_cell BK600.out 0).trans rfl
         have hcz52_1 : wc.cell? ⟨gb600, 1, none⟩ = some (.int .i64 a0_1) := (blk_cell BK600.out 1).trans rfl
         have hcz52_2 : wc.cell? ⟨gb600, 2, none⟩ = some (.slice A0_2 l0_2.length c0_2) := (blk_cell BK600.out 2).trans rfl
         have hcz52_3 : wc.cell? ⟨gb600, 3, none⟩ = some (.slice A0_3 l0_3.length c0_3) := (blk_cell BK600.out 3).trans rfl
         have hfz52_0 := blk_frozen BK600.out 0
         have hfz52_1 := blk_frozen BK600.out 1
         have hfz52_2 := blk_frozen BK600.out 2
         have hfz52_3 := blk_frozen BK600.out 3
         go_wp2
         go_loopg [4, 84] kj37 (fun kq v4 v84 w' => ∃ (x4_4 : Int) (x84_4 : Int), v4 = .int .i64 x4_4 ∧ v84 = .int .i64 x84_4 ∧ Aside0 (impl_check.l0 kq a1 x2 x3 x4_4 l0_3 (l0_3.length : Int) x84_4 a0_0 a0_1 l0_2 l0_3 = some r) ∧ Aside0 (kq ≤ kj37) ∧ Aside0 (w'.heap[gb600]? = some (.cells #[.int .i64 a0_0, .int .i64 a0_1, (.slice A0_2 l0_2.length c0_2), (.slice A0_3 l0_3.length c0_3)] 48 (0, 0))) ∧ Aside0 (w'.heap[gb606]? = some (.cells #[.string t601, .int .i64 t602, .bool t603, .bool t604] 86 (0, 0))) ∧ Aside0 (Below w.heap.size w w'))
         case atStart => exact ⟨((wrap64 (a4 + 1))), (0), (by first | rfl | (simp; done) | (simp [*]; done)), (by first | rfl | (simp; done) | (simp [*]; done)), H', ⟨Nat.le_refl _⟩, ⟨by (with_reducible repeat (first | refine blk_drewN ?_ _ | refine blk_drew ?_ | refine blk_alloc ?_ _)); exact BK600.out⟩, ⟨by (with_reducible repeat (first | refine blk_drewN ?_ _ | refine blk_drew ?_ | refine blk_alloc ?_ _)); exact BK606.out⟩, ⟨bw2_ HB.out GE600.out GE606.out⟩⟩
         case round =>
          clear H'
          try clear c1
          try clear p2
          try clear c3
          try clear c5
          try clear p6
          try clear c10
          try clear c11
          try clear c12
          try clear c19
          try clear c39
          try clear c50
          try clear c51
          try clear hcz13_0
          try clear hcz13_1
          try clear hcz13_2
          try clear hcz13_3
          try clear hcz40_0
          try clear hcz40_1
          try clear hcz40_2
          try clear hcz40_3
          try clear hcz52_0
          try clear hcz52_1
          try clear hcz52_2
          try clear hcz52_3
          try clear hcz9_0
          try clear hcz9_1
          try clear hcz9_2
          try clear hcz9_3
          try clear hfz13_0
          try clear hfz13_1
          try clear hfz13_2
          try clear hfz13_3
          try clear hfz40_0
          try clear hfz40_1
          try clear hfz40_2
          try clear hfz40_3
          try clear hfz52_0
          try clear hfz52_1
          try clear hfz52_2
          try clear hfz52_3
          try clear hfz9_0
          try clear hfz9_1
          try clear hfz9_2
          try clear hfz9_3
          try clear p6
          obtain ⟨x4_4, x84_4, rfl, rfl, HA, HK4, BK600, BK606, HB⟩ := hrel
          cases gk with
          | zero => exact absurd HA.out (by simp [impl_check.l0])
          | succ k4 =>
           have H := HA.out
           clear HA
           simp only [impl_check.l0] at H
           by_cases c53 : x84_4 < (l0_3.length : Int)
           ·rw [if_pos c53] at H
            have c53b0 : decide (x84_4 < (l0_3.length : Int)) = true := decide_eq_true c53
            clear c53
            by_cases c54 : 0 ≤ x84_4
            ·rw [if_pos c54] at H
             have c54b0 : decide (0 ≤ x84_4) = true := decide_eq_true c54
             clear c54
             by_cases c55 : x84_4 < (l0_3.length : Int)
             ·rw [if_pos c55] at H
              have c55b0 : decide (x84_4 < (l0_3.length : Int)) = true := decide_eq_true c55
              clear c55
              replace H := Option.bind_eq_some_iff.mp H
              obtain ⟨t613, A560, H⟩ := H
              try dsimp only at H
              have A56 := sd_ A560
              clear A560
              replace H := Option.bind_eq_some_iff.mp H
              obtain ⟨t614, A570, H⟩ := H
              try dsimp only at H
              have A57 := sd_ A570
              clear A570
              by_cases c58 : t614 > 400
              ·rw [if_pos c58] at H
               have c58b0 : decide (400 < t614) = true := decide_eq_true c58
               clear c58
               obtain rfl := Option.some.inj H
               have p611 : 0 ≤ (x84_4 : Int) := of_decide_eq_true (by first | (with_reducible assumption) | assumption)
               have q611 : x84_4 < (l0_3.length : Int) := of_decide_eq_true (by first | (with_reducible assumption) | assumption)
               obtain ⟨ad611, A611_2, c611_2, A611_3, c611_3, e611, hx611_0, hx611_1, hx611_2, hx611_3, hl611_2, hi611_2, hl611_3, hi611_3⟩ := at_T48 HR0_3.out x84_4 p611 q611
               cases e611
               replace hx611_0 := (HB.out.cell (World.block_lt_of_cell? w _ hx611_0)).trans hx611_0
               replace hx611_1 := (HB.out.cell (World.block_lt_of_cell? w _ hx611_1)).trans hx611_1
               replace hx611_2 := (HB.out.cell (World.block_lt_of_cell? w _ hx611_2)).trans hx611_2
               replace hx611_3 := (HB.out.cell (World.block_lt_of_cell? w _ hx611_3)).trans hx611_3
               have HR611_2 := sd_ hi611_2
               have HC611_2 := sd_ hl611_2
               clear hi611_2 hl611_2
               have HR611_3 := sd_ hi611_3
               have HC611_3 := sd_ hl611_3
               clear hi611_3 hl611_3
               replace p611 := eq_true p611
               replace q611 := eq_true q611
               try go_wp2_with (first | ((with_reducible refine gate_dst (N := 14) rfl ?_); (try (refine gate_guard (by rfl) ?_; dsimp only)); refine box_event ?hg (N := 14) ?hd (cs := #[.int .i64 0, .int .i64 0, .slice none 0 0, .slice none 0 0]) (t := 48) ?hr ?_; (case hd => rfl); (case hg => rfl); (case hr => first | (go_simp; done) | (go_simp; rfl)); intro gb612 hg w59 hbox hb; have BK612 := sd_ (hbox); have GW612 := sd_ ((by rw [hg]; exact (below_size (bw2_ HB.out GE600.out GE606.out)) : w.heap.size ≤ gb612)); have GE612 := sd_ ((by rw [hg]; exact (below_size (bw2_ HB.out GE600.out GE606.out)) : w.heap.size ≤ gb612)); replace HB := sd_ (below_step (bw2_ HB.out GE600.out GE606.out) hb); have NB600_612 := sd_ ((by rw [hg]; exact Nat.ne_of_lt (bl_ BK600.out) : gb600 ≠ gb612)); have NB612_600 := sd_ ((by rw [hg]; exact Nat.ne_of_gt (bl_ BK600.out) : gb612 ≠ gb600)); replace BK600 := sd_ (bb_ BK600.out hb); have NB606_612 := sd_ ((by rw [hg]; exact Nat.ne_of_lt (bl_ BK606.out) : gb606 ≠ gb612)); have NB612_606 := sd_ ((by rw [hg]; exact Nat.ne_of_gt (bl_ BK606.out) : gb612 ≠ gb606)); replace BK606 := sd_ (bb_ BK606.out hb); clear hb hbox hg; have hnb60 := NB612_600.out; have hnc60 := NB600_612.out; have hnb61 := NB612_606.out; have hnc61 := NB606_612.out; have hcz62_0 : w59.cell? ⟨gb612, 0, none⟩ = some (.int .i64 0) := (blk_cell BK612.out 0).trans rfl; have hcz62_1 : w59.cell? ⟨gb612, 1, none⟩ = some (.int .i64 0) := (blk_cell BK612.out 1).trans rfl; have hcz62_2 : w59.cell? ⟨gb612, 2, none⟩ = some (.slice none 0 0) := (blk_cell BK612.out 2).trans rfl; have hcz62_3 : w59.cell? ⟨gb612, 3, none⟩ = some (.slice none 0 0) := (blk_cell BK612.out 3).trans rfl; have hfz62_0 := blk_frozen BK612.out 0; have hfz62_1 := blk_frozen BK612.out 1; have hfz62_2 := blk_frozen BK612.out 2; have hfz62_3 := blk_frozen BK612.out 3))
               have n0_ : Aside0 (((((w59.setCell ⟨gb612, 0, none⟩ (.int .i64 ((rd_T48 l0_3 x84_4).f0))).setCell ⟨gb612, 1, none⟩ (.int .i64 ((rd_T48 l0_3 x84_4).f1))).setCell ⟨gb612, 2, none⟩ (.slice A611_2 ((rd_T48 l0_3 x84_4).f2).length c611_2)).setCell ⟨gb612, 3, none⟩ (.slice A611_3 ((rd_T48 l0_3 x84_4).f3).length c611_3)).heap[gb600]? = some (.cells #[.int .i64 a0_0, .int .i64 a0_1, .slice A0_2 l0_2.length c0_2, .slice (some ad611) l0_3.length c0_3] 48 (0, 0))) := ⟨by (with_reducible repeat (first | refine blk_drewN ?_ _ | refine blk_drew ?_ | refine blk_alloc ?_ _)); refine blk_far ?_ NB600_612.out _; (with_reducible repeat (first | refine blk_drewN ?_ _ | refine blk_drew ?_ | refine blk_alloc ?_ _)); refine blk_far ?_ NB600_612.out _; (with_reducible repeat (first | refine blk_drewN ?_ _ | refine blk_drew ?_ | refine blk_alloc ?_ _)); refine blk_far ?_ NB600_612.out _; (with_reducible repeat (first | refine blk_drewN ?_ _ | refine blk_drew ?_ | refine blk_alloc ?_ _)); refine blk_far ?_ NB600_612.out _; (with_reducible repeat (first | refine blk_drewN ?_ _ | refine blk_drew ?_ | refine blk_alloc ?_ _)); exact BK600.out⟩
               have n1_ : Aside0 (((((w59.setCell ⟨gb612, 0, none⟩ (.int .i64 ((rd_T48 l0_3 x84_4).f0))).setCell ⟨gb612, 1, none⟩ (.int .i64 ((rd_T48 l0_3 x84_4).f1))).setCell ⟨gb612, 2, none⟩ (.slice A611_2 ((rd_T48 l0_3 x84_4).f2).length c611_2)).setCell ⟨gb612, 3, none⟩ (.slice A611_3 ((rd_T48 l0_3 x84_4).f3).length c611_3)).heap[gb606]? = some (.cells #[.string t601, .int .i64 t602, .bool t603, .bool t604] 86 (0, 0))) := ⟨by (with_reducible repeat (first | refine blk_drewN ?_ _ | refine blk_drew ?_ | refine blk_alloc ?_ _)); refine blk_far ?_ NB606_612.out _; (with_reducible repeat (first | refine blk_drewN ?_ _ | refine blk_drew ?_ | refine blk_alloc ?_ _)); refine blk_far ?_ NB606_612.out _; (with_reducible repeat (first | refine blk_drewN ?_ _ | refine blk_drew ?_ | refine blk_alloc ?_ _)); refine blk_far ?_ NB606_612.out _; (with_reducible repeat (first | refine blk_drewN ?_ _ | refine blk_drew ?_ | refine blk_alloc ?_ _)); refine blk_far ?_ NB606_612.out _; (with_reducible repeat (first | refine blk_drewN ?_ _ | refine blk_drew ?_ | refine blk_alloc ?_ _)); exact BK606.out⟩
               have n2_ : Aside0 (((((w59.setCell ⟨gb612, 0, none⟩ (.int .i64 ((rd_T48 l0_3 x84_4).f0))).setCell ⟨gb612, 1, none⟩ (.int .i64 ((rd_T48 l0_3 x84_4).f1))).setCell ⟨gb612, 2, none⟩ (.slice A611_2 ((rd_T48 l0_3 x84_4).f2).length c611_2)).setCell ⟨gb612, 3, none⟩ (.slice A611_3 ((rd_T48 l0_3 x84_4).f3).length c611_3)).heap[gb612]? = some (.cells #[.int .i64 ((rd_T48 l0_3 x84_4).f0), .int .i64 ((rd_T48 l0_3 x84_4).f1), .slice A611_2 ((rd_T48 l0_3 x84_4).f2).length c611_2, .slice A611_3 ((rd_T48 l0_3 x84_4).f3).length c611_3] 48 (0, 0))) := ⟨by (with_reducible repeat (first | refine blk_drewN ?_ _ | refine blk_drew ?_ | refine blk_alloc ?_ _)); refine blk_put (cs := #[.int .i64 ((rd_T48 l0_3 x84_4).f0), .int .i64 ((rd_T48 l0_3 x84_4).f1), .slice A611_2 ((rd_T48 l0_3 x84_4).f2).length c611_2, .slice none 0 0]) ?_ 3 _ rfl; (with_reducible repeat (first | refine blk_drewN ?_ _ | refine blk_drew ?_ | refine blk_alloc ?_ _)); refine blk_put (cs := #[.int .i64 ((rd_T48 l0_3 x84_4).f0), .int .i64 ((rd_T48 l0_3 x84_4).f1), .slice none 0 0, .slice none 0 0]) ?_ 2 _ rfl; (with_reducible repeat (first | refine blk_drewN ?_ _ | refine blk_drew ?_ | refine blk_alloc ?_ _)); refine blk_put (cs := #[.int .i64 ((rd_T48 l0_3 x84_4).f0), .int .i64 0, .slice none 0 0, .slice none 0 0]) ?_ 1 _ rfl; (with_reducible repeat (first | refine blk_drewN ?_ _ | refine blk_drew ?_ | refine blk_alloc ?_ _)); refine blk_put (cs := #[.int .i64 0, .int .i64 0, .slice none 0 0, .slice none 0 0]) ?_ 0 _ rfl; (with_reducible repeat (first | refine blk_drewN ?_ _ | refine blk_drew ?_ | refine blk_alloc ?_ _)); exact BK612.out⟩
               have n3_ : Aside0 (Below w.heap.size w ((((w59.setCell ⟨gb612, 0, none⟩ (.int .i64 ((rd_T48 l0_3 x84_4).f0))).setCell ⟨gb612, 1, none⟩ (.int .i64 ((rd_T48 l0_3 x84_4).f1))).setCell ⟨gb612, 2, none⟩ (.slice A611_2 ((rd_T48 l0_3 x84_4).f2).length c611_2)).setCell ⟨gb612, 3, none⟩ (.slice A611_3 ((rd_T48 l0_3 x84_4).f3).length c611_3))) := ⟨bw3_ HB.out GE600.out GE606.out GE612.out⟩
               (try clear BK600)
               (try clear BK606)
               (try clear BK612)
               (try clear HB)
               generalize ((((w59.setCell ⟨gb612, 0, none⟩ (.int .i64 ((rd_T48 l0_3 x84_4).f0))).setCell ⟨gb612, 1, none⟩ (.int .i64 ((rd_T48 l0_3 x84_4).f1))).setCell ⟨gb612, 2, none⟩ (.slice A611_2 ((rd_T48 l0_3 x84_4).f2).length c611_2)).setCell ⟨gb612, 3, none⟩ (.slice A611_3 ((rd_T48 l0_3 x84_4).f3).length c611_3)) = w63 at n0_ n1_ n2_ n3_ ⊢
               have BK600 := n0_
               have BK606 := n1_
               have BK612 := n2_
               have HB := n3_
               clear n0_ n1_ n2_ n3_
               refine qb_region (by kernel_rfl) (by kernel_rfl) ?_
               have HQ := fun (wq : World) (hq : Below w63.heap.size w63 wq) => below_step HB.out hq
               repeat ((first | (apply qb_skip; (focus rfl)) | (refine qb_callN 94 rfl ?_; apply qb_call 94 rfl Try.func103 (by kernel_rfl) rfl rfl; (focus rfl); (focus (exact fun wq9 hb9 => qb_d hb9 (impl_adds.calls k4 a0_0 x84_4 t613 _ A56.out))); (focus (rfl))) | (refine qb_callN 99 rfl ?_; apply qb_call 99 rfl Try.func101 (by kernel_rfl) rfl rfl; (focus rfl); (focus (exact fun wq9 hb9 => qb_b hb9 (ih k4 (by have := HJ6.out; have := HJ19.out; have := HJ37.out; have := HK4.out; omega) ((rd_T48 l0_3 x84_4).f0) ((rd_T48 l0_3 x84_4).f1) _ _ ((rd_T48 l0_3 x84_4).f2) _ _ ((rd_T48 l0_3 x84_4).f3) (wrap64 (a1 + t613)) x2 K2_ F2_ C2_ x3 K3_ F3_ C3_ x4_4 t614 _ (Kd.C_below HR611_2.out (HQ _ hb9)) HC611_2.out (Kd.C_below HR611_3.out (HQ _ hb9)) HC611_3.out HG2.out (OC62.step HF2.out (by repeat (first | (with_reducible first | exact (HQ _ hb9) | apply below_alloc | apply pw_below_drewN | apply below_drew1 | refine below_set ?_ GE600.out | refine below_set ?_ GE606.out | refine below_set ?_ GE612.out) | exact (HQ _ hb9)))) HG3.out (OC30.step HF3.out (by repeat (first | (with_reducible first | exact (HQ _ hb9) | apply below_alloc | apply pw_below_drewN | apply below_drew1 | refine below_set ?_ GE600.out | refine below_set ?_ GE606.out | refine below_set ?_ GE612.out) | exact (HQ _ hb9)))) A57.out))); (focus (rfl))) | (apply qb_val; (focus rfl); (focus (intro wq9 _; go_simp; with_reducible rfl))) | (apply qb_val; (focus rfl); (focus (intro wq9 hb9_; have hb9 : Below w63.heap.size w63 wq9 := hb9_; have BK600 := sd_ (blk_below BK600.out hb9); have BK612 := sd_ (blk_below BK612.out hb9); have hc9_600_0 : wq9.cell? ⟨gb600, 0, none⟩ = some (.int .i64 a0_0) := (blk_cell BK600.out 0).trans rfl; have hc9_600_1 : wq9.cell? ⟨gb600, 1, none⟩ = some (.int .i64 a0_1) := (blk_cell BK600.out 1).trans rfl; have hc9_600_2 : wq9.cell? ⟨gb600, 2, none⟩ = some (.slice A0_2 l0_2.length c0_2) := (blk_cell BK600.out 2).trans rfl; have hc9_600_3 : wq9.cell? ⟨gb600, 3, none⟩ = some (.slice (some ad611) l0_3.length c0_3) := (blk_cell BK600.out 3).trans rfl; have hc9_612_0 : wq9.cell? ⟨gb612, 0, none⟩ = some (.int .i64 ((rd_T48 l0_3 x84_4).f0)) := (blk_cell BK612.out 0).trans rfl; have hc9_612_1 : wq9.cell? ⟨gb612, 1, none⟩ = some (.int .i64 ((rd_T48 l0_3 x84_4).f1)) := (blk_cell BK612.out 1).trans rfl; have hc9_612_2 : wq9.cell? ⟨gb612, 2, none⟩ = some (.slice A611_2 ((rd_T48 l0_3 x84_4).f2).length c611_2) := (blk_cell BK612.out 2).trans rfl; have hc9_612_3 : wq9.cell? ⟨gb612, 3, none⟩ = some (.slice A611_3 ((rd_T48 l0_3 x84_4).f3).length c611_3) := (blk_cell BK612.out 3).trans rfl; go_simp; with_reducible rfl)))); (focus (simp only [Act.put, List.setIfInBounds_toArray, List.set_cons_zero, List.set_cons_succ, i64_w, i32_w]; rfl)))
               refine qb_nil ?_
               intro w65 hb
               replace BK600 := sd_ (blk_below BK600.out hb)
               replace BK606 := sd_ (blk_below BK606.out hb)
               replace BK612 := sd_ (blk_below BK612.out hb)
               replace HB := sd_ (below_step HB.out hb)
               clear hb
               (try clear HQ)
               try go_wp2
               go_ret
               exact ⟨an_, bw3_ HB.out GE600.out GE606.out GE612.out⟩
              ·rw [if_neg c58] at H
               have c58b0 : decide (400 < t614) = false := decide_eq_false c58
               clear c58
               have H' := sd_ H
               clear H
               have p611 : 0 ≤ (x84_4 : Int) := of_decide_eq_true (by first | (with_reducible assumption) | assumption)
               have q611 : x84_4 < (l0_3.length : Int) := of_decide_eq_true (by first | (with_reducible assumption) | assumption)
               obtain ⟨ad611, A611_2, c611_2, A611_3, c611_3, e611, hx611_0, hx611_1, hx611_2, hx611_3, hl611_2, hi611_2, hl611_3, hi611_3⟩ := at_T48 HR0_3.out x84_4 p611 q611
               cases e611
               replace hx611_0 := (HB.out.cell (World.block_lt_of_cell? w _ hx611_0)).trans hx611_0
               replace hx611_1 := (HB.out.cell (World.block_lt_of_cell? w _ hx611_1)).trans hx611_1
               replace hx611_2 := (HB.out.cell (World.block_lt_of_cell? w _ hx611_2)).trans hx611_2
               replace hx611_3 := (HB.out.cell (World.block_lt_of_cell? w _ hx611_3)).trans hx611_3
               have HR611_2 := sd_ hi611_2
               have HC611_2 := sd_ hl611_2
               clear hi611_2 hl611_2
               have HR611_3 := sd_ hi611_3
               have HC611_3 := sd_ hl611_3
               clear hi611_3 hl611_3
               replace p611 := eq_true p611
               replace q611 := eq_true q611
               try go_wp2_with (first | ((with_reducible refine gate_dst (N := 14) rfl ?_); (try (refine gate_guard (by rfl) ?_; dsimp only)); refine box_event ?hg (N := 14) ?hd (cs := #[.int .i64 0, .int .i64 0, .slice none 0 0, .slice none 0 0]) (t := 48) ?hr ?_; (case hd => rfl); (case hg => rfl); (case hr => first | (go_simp; done) | (go_simp; rfl)); intro gb612 hg w66 hbox hb; have BK612 := sd_ (hbox); have GW612 := sd_ ((by rw [hg]; exact (below_size (bw2_ HB.out GE600.out GE606.out)) : w.heap.size ≤ gb612)); have GE612 := sd_ ((by rw [hg]; exact (below_size (bw2_ HB.out GE600.out GE606.out)) : w.heap.size ≤ gb612)); replace HB := sd_ (below_step (bw2_ HB.out GE600.out GE606.out) hb); have NB600_612 := sd_ ((by rw [hg]; exact Nat.ne_of_lt (bl_ BK600.out) : gb600 ≠ gb612)); have NB612_600 := sd_ ((by rw [hg]; exact Nat.ne_of_gt (bl_ BK600.out) : gb612 ≠ gb600)); replace BK600 := sd_ (bb_ BK600.out hb); have NB606_612 := sd_ ((by rw [hg]; exact Nat.ne_of_lt (bl_ BK606.out) : gb606 ≠ gb612)); have NB612_606 := sd_ ((by rw [hg]; exact Nat.ne_of_gt (bl_ BK606.out) : gb612 ≠ gb606)); replace BK606 := sd_ (bb_ BK606.out hb); clear hb hbox hg; have hnb67 := NB612_600.out; have hnc67 := NB600_612.out; have hnb68 := NB612_606.out; have hnc68 := NB606_612.out; have hcz69_0 : w66.cell? ⟨gb612, 0, none⟩ = some (.int .i64 0) := (blk_cell BK612.out 0).trans rfl; have hcz69_1 : w66.cell? ⟨gb612, 1, none⟩ = some (.int .i64 0) := (blk_cell BK612.out 1).trans rfl; have hcz69_2 : w66.cell? ⟨gb612, 2, none⟩ = some (.slice none 0 0) := (blk_cell BK612.out 2).trans rfl; have hcz69_3 : w66.cell? ⟨gb612, 3, none⟩ = some (.slice none 0 0) := (blk_cell BK612.out 3).trans rfl; have hfz69_0 := blk_frozen BK612.out 0; have hfz69_1 := blk_frozen BK612.out 1; have hfz69_2 := blk_frozen BK612.out 2; have hfz69_3 := blk_frozen BK612.out 3))
               have n0_ : Aside0 (((((w66.setCell ⟨gb612, 0, none⟩ (.int .i64 ((rd_T48 l0_3 x84_4).f0))).setCell ⟨gb612, 1, none⟩ (.int .i64 ((rd_T48 l0_3 x84_4).f1))).setCell ⟨gb612, 2, none⟩ (.slice A611_2 ((rd_T48 l0_3 x84_4).f2).length c611_2)).setCell ⟨gb612, 3, none⟩ (.slice A611_3 ((rd_T48 l0_3 x84_4).f3).length c611_3)).heap[gb600]? = some (.cells #[.int .i64 a0_0, .int .i64 a0_1, .slice A0_2 l0_2.length c0_2, .slice (some ad611) l0_3.length c0_3] 48 (0, 0))) := ⟨by (with_reducible repeat (first | refine blk_drewN ?_ _ | refine blk_drew ?_ | refine blk_alloc ?_ _)); refine blk_far ?_ NB600_612.out _; (with_reducible repeat (first | refine blk_drewN ?_ _ | refine blk_drew ?_ | refine blk_alloc ?_ _)); refine blk_far ?_ NB600_612.out _; (with_reducible repeat (first | refine blk_drewN ?_ _ | refine blk_drew ?_ | refine blk_alloc ?_ _)); refine blk_far ?_ NB600_612.out _; (with_reducible repeat (first | refine blk_drewN ?_ _ | refine blk_drew ?_ | refine blk_alloc ?_ _)); refine blk_far ?_ NB600_612.out _; (with_reducible repeat (first | refine blk_drewN ?_ _ | refine blk_drew ?_ | refine blk_alloc ?_ _)); exact BK600.out⟩
               have n1_ : Aside0 (((((w66.setCell ⟨gb612, 0, none⟩ (.int .i64 ((rd_T48 l0_3 x84_4).f0))).setCell ⟨gb612, 1, none⟩ (.int .i64 ((rd_T48 l0_3 x84_4).f1))).setCell ⟨gb612, 2, none⟩ (.slice A611_2 ((rd_T48 l0_3 x84_4).f2).length c611_2)).setCell ⟨gb612, 3, none⟩ (.slice A611_3 ((rd_T48 l0_3 x84_4).f3).length c611_3)).heap[gb606]? = some (.cells #[.string t601, .int .i64 t602, .bool t603, .bool t604] 86 (0, 0))) := ⟨by (with_reducible repeat (first | refine blk_drewN ?_ _ | refine blk_drew ?_ | refine blk_alloc ?_ _)); refine blk_far ?_ NB606_612.out _; (with_reducible repeat (first | refine blk_drewN ?_ _ | refine blk_drew ?_ | refine blk_alloc ?_ _)); refine blk_far ?_ NB606_612.out _; (with_reducible repeat (first | refine blk_drewN ?_ _ | refine blk_drew ?_ | refine blk_alloc ?_ _)); refine blk_far ?_ NB606_612.out _; (with_reducible repeat (first | refine blk_drewN ?_ _ | refine blk_drew ?_ | refine blk_alloc ?_ _)); refine blk_far ?_ NB606_612.out _; (with_reducible repeat (first | refine blk_drewN ?_ _ | refine blk_drew ?_ | refine blk_alloc ?_ _)); exact BK606.out⟩
               have n2_ : Aside0 (((((w66.setCell ⟨gb612, 0, none⟩ (.int .i64 ((rd_T48 l0_3 x84_4).f0))).setCell ⟨gb612, 1, none⟩ (.int .i64 ((rd_T48 l0_3 x84_4).f1))).setCell ⟨gb612, 2, none⟩ (.slice A611_2 ((rd_T48 l0_3 x84_4).f2).length c611_2)).setCell ⟨gb612, 3, none⟩ (.slice A611_3 ((rd_T48 l0_3 x84_4).f3).length c611_3)).heap[gb612]? = some (.cells #[.int .i64 ((rd_T48 l0_3 x84_4).f0), .int .i64 ((rd_T48 l0_3 x84_4).f1), .slice A611_2 ((rd_T48 l0_3 x84_4).f2).length c611_2, .slice A611_3 ((rd_T48 l0_3 x84_4).f3).length c611_3] 48 (0, 0))) := ⟨by (with_reducible repeat (first | refine blk_drewN ?_ _ | refine blk_drew ?_ | refine blk_alloc ?_ _)); refine blk_put (cs := #[.int .i64 ((rd_T48 l0_3 x84_4).f0), .int .i64 ((rd_T48 l0_3 x84_4).f1), .slice A611_2 ((rd_T48 l0_3 x84_4).f2).length c611_2, .slice none 0 0]) ?_ 3 _ rfl; (with_reducible repeat (first | refine blk_drewN ?_ _ | refine blk_drew ?_ | refine blk_alloc ?_ _)); refine blk_put (cs := #[.int .i64 ((rd_T48 l0_3 x84_4).f0), .int .i64 ((rd_T48 l0_3 x84_4).f1), .slice none 0 0, .slice none 0 0]) ?_ 2 _ rfl; (with_reducible repeat (first | refine blk_drewN ?_ _ | refine blk_drew ?_ | refine blk_alloc ?_ _)); refine blk_put (cs := #[.int .i64 ((rd_T48 l0_3 x84_4).f0), .int .i64 0, .slice none 0 0, .slice none 0 0]) ?_ 1 _ rfl; (with_reducible repeat (first | refine blk_drewN ?_ _ | refine blk_drew ?_ | refine blk_alloc ?_ _)); refine blk_put (cs := #[.int .i64 0, .int .i64 0, .slice none 0 0, .slice none 0 0]) ?_ 0 _ rfl; (with_reducible repeat (first | refine blk_drewN ?_ _ | refine blk_drew ?_ | refine blk_alloc ?_ _)); exact BK612.out⟩
               have n3_ : Aside0 (Below w.heap.size w ((((w66.setCell ⟨gb612, 0, none⟩ (.int .i64 ((rd_T48 l0_3 x84_4).f0))).setCell ⟨gb612, 1, none⟩ (.int .i64 ((rd_T48 l0_3 x84_4).f1))).setCell ⟨gb612, 2, none⟩ (.slice A611_2 ((rd_T48 l0_3 x84_4).f2).length c611_2)).setCell ⟨gb612, 3, none⟩ (.slice A611_3 ((rd_T48 l0_3 x84_4).f3).length c611_3))) := ⟨bw3_ HB.out GE600.out GE606.out GE612.out⟩
               (try clear BK600)
               (try clear BK606)
               (try clear BK612)
               (try clear HB)
               generalize ((((w66.setCell ⟨gb612, 0, none⟩ (.int .i64 ((rd_T48 l0_3 x84_4).f0))).setCell ⟨gb612, 1, none⟩ (.int .i64 ((rd_T48 l0_3 x84_4).f1))).setCell ⟨gb612, 2, none⟩ (.slice A611_2 ((rd_T48 l0_3 x84_4).f2).length c611_2)).setCell ⟨gb612, 3, none⟩ (.slice A611_3 ((rd_T48 l0_3 x84_4).f3).length c611_3)) = w70 at n0_ n1_ n2_ n3_ ⊢
               have BK600 := n0_
               have BK606 := n1_
               have BK612 := n2_
               have HB := n3_
               clear n0_ n1_ n2_ n3_
               refine qb_region (by kernel_rfl) (by kernel_rfl) ?_
               have HQ := fun (wq : World) (hq : Below w70.heap.size w70 wq) => below_step HB.out hq
               repeat ((first | (apply qb_skip; (focus rfl)) | (refine qb_callN 94 rfl ?_; apply qb_call 94 rfl Try.func103 (by kernel_rfl) rfl rfl; (focus rfl); (focus (exact fun wq9 hb9 => qb_d hb9 (impl_adds.calls k4 a0_0 x84_4 t613 _ A56.out))); (focus (rfl))) | (refine qb_callN 99 rfl ?_; apply qb_call 99 rfl Try.func101 (by kernel_rfl) rfl rfl; (focus rfl); (focus (exact fun wq9 hb9 => qb_b hb9 (ih k4 (by have := HJ6.out; have := HJ19.out; have := HJ37.out; have := HK4.out; omega) ((rd_T48 l0_3 x84_4).f0) ((rd_T48 l0_3 x84_4).f1) _ _ ((rd_T48 l0_3 x84_4).f2) _ _ ((rd_T48 l0_3 x84_4).f3) (wrap64 (a1 + t613)) x2 K2_ F2_ C2_ x3 K3_ F3_ C3_ x4_4 t614 _ (Kd.C_below HR611_2.out (HQ _ hb9)) HC611_2.out (Kd.C_below HR611_3.out (HQ _ hb9)) HC611_3.out HG2.out (OC62.step HF2.out (by repeat (first | (with_reducible first | exact (HQ _ hb9) | apply below_alloc | apply pw_below_drewN | apply below_drew1 | refine below_set ?_ GE600.out | refine below_set ?_ GE606.out | refine below_set ?_ GE612.out) | exact (HQ _ hb9)))) HG3.out (OC30.step HF3.out (by repeat (first | (with_reducible first | exact (HQ _ hb9) | apply below_alloc | apply pw_below_drewN | apply below_drew1 | refine below_set ?_ GE600.out | refine below_set ?_ GE606.out | refine below_set ?_ GE612.out) | exact (HQ _ hb9)))) A57.out))); (focus (rfl))) | (apply qb_val; (focus rfl); (focus (intro wq9 _; go_simp; with_reducible rfl))) | (apply qb_val; (focus rfl); (focus (intro wq9 hb9_; have hb9 : Below w70.heap.size w70 wq9 := hb9_; have BK600 := sd_ (blk_below BK600.out hb9); have BK612 := sd_ (blk_below BK612.out hb9); have hc9_600_0 : wq9.cell? ⟨gb600, 0, none⟩ = some (.int .i64 a0_0) := (blk_cell BK600.out 0).trans rfl; have hc9_600_1 : wq9.cell? ⟨gb600, 1, none⟩ = some (.int .i64 a0_1) := (blk_cell BK600.out 1).trans rfl; have hc9_600_2 : wq9.cell? ⟨gb600, 2, none⟩ = some (.slice A0_2 l0_2.length c0_2) := (blk_cell BK600.out 2).trans rfl; have hc9_600_3 : wq9.cell? ⟨gb600, 3, none⟩ = some (.slice (some ad611) l0_3.length c0_3) := (blk_cell BK600.out 3).trans rfl; have hc9_612_0 : wq9.cell? ⟨gb612, 0, none⟩ = some (.int .i64 ((rd_T48 l0_3 x84_4).f0)) := (blk_cell BK612.out 0).trans rfl; have hc9_612_1 : wq9.cell? ⟨gb612, 1, none⟩ = some (.int .i64 ((rd_T48 l0_3 x84_4).f1)) := (blk_cell BK612.out 1).trans rfl; have hc9_612_2 : wq9.cell? ⟨gb612, 2, none⟩ = some (.slice A611_2 ((rd_T48 l0_3 x84_4).f2).length c611_2) := (blk_cell BK612.out 2).trans rfl; have hc9_612_3 : wq9.cell? ⟨gb612, 3, none⟩ = some (.slice A611_3 ((rd_T48 l0_3 x84_4).f3).length c611_3) := (blk_cell BK612.out 3).trans rfl; go_simp; with_reducible rfl)))); (focus (simp only [Act.put, List.setIfInBounds_toArray, List.set_cons_zero, List.set_cons_succ, i64_w, i32_w]; rfl)))
               refine qb_nil ?_
               intro w72 hb
               replace BK600 := sd_ (blk_below BK600.out hb)
               replace BK606 := sd_ (blk_below BK606.out hb)
               replace BK612 := sd_ (blk_below BK612.out hb)
               replace HB := sd_ (below_step HB.out hb)
               clear hb
               (try clear HQ)
               try go_wp2
               go_roundg k4
               case measure => have := HJ6.out; have := HJ19.out; have := HJ37.out; have := HK4.out; omega
               case rel => exact ⟨(t614), (wrap64 (x84_4 + 1)), (by first | rfl | (simp; done) | (simp [*]; done)), (by first | rfl | (simp; done) | (simp [*]; done)), H', ⟨by have := HJ6.out; have := HJ19.out; have := HJ37.out; have := HK4.out; omega⟩, ⟨by (with_reducible repeat (first | refine blk_drewN ?_ _ | refine blk_drew ?_ | refine blk_alloc ?_ _)); exact BK600.out⟩, ⟨by (with_reducible repeat (first | refine blk_drewN ?_ _ | refine blk_drew ?_ | refine blk_alloc ?_ _)); exact BK606.out⟩, ⟨bw3_ HB.out GE600.out GE606.out GE612.out⟩⟩
             ·rw [if_neg c55] at H
              exact absurd H (by simp)
            ·rw [if_neg c54] at H
             exact absurd H (by simp)
           ·rw [if_neg c53] at H
            have c53b0 : decide (x84_4 < (l0_3.length : Int)) = false := decide_eq_false c53
            clear c53
            obtain rfl := Option.some.inj H
            go_wp2
            go_ret
            exact ⟨an_, bw2_ HB.out GE600.out GE606.out⟩
        ·replace c50 := Bool.eq_false_iff.mpr c50
         subst c50
         have H1 : (some 401) = some r := by rw [if_neg (show ¬ (false = true) by decide)] at H; exact H
         clear H
         have H := H1
         clear H1
         obtain rfl := Option.some.inj H
         go_wp2
         go_ret
         exact ⟨an_, bw2_ HB.out GE600.out GE606.out⟩

end Go.Proofs.Ytnokgkhkmnldeaa.P
