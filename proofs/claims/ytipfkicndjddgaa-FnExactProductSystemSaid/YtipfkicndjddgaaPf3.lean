-- by hand: laws.FnExactProductSystem
import Derived.Test.YtipfkicndjddgaaM10
namespace Go.Proofs.Ytipfkicndjddgaa.P
open Go.RowKit Go.Proofs.YtipfkicndjddgaaW.PrintWords Go.Proofs.YtipfkicndjddgaaW.PrintLast Go.Proofs.YtipfkicndjddgaaW.PrintMore
attribute [local go_sem] max2_int min2_int max_two min_two max_three min_three max_four min_four
set_option linter.unusedVariables false
set_option linter.unusedSimpArgs false
def laws_FnExactProductSystem.f (k : Nat) (a0_0 : Int) (l0_1 : List Int) (l0_2 : List Int) (l0_3 : List Bool) (a1_0 : Int) (l1_1 : List Int) (l1_2 : List Int) (l1_3 : List Bool) : Option (Bool) :=
  (laws_szSystem.f a0_0 l0_1 l0_2 l0_3 1048576).bind fun t1 => if t1 < 0 then some true else (laws_szSystem.f a1_0 l1_1 l1_2 l1_3 t1).bind fun t2 => if t2 < 0 then some true else
  (laws_toSystem.f k a0_0 l0_1 l0_2 l0_3).bind fun p => (laws_toSystem.f k a1_0 l1_1 l1_2 l1_3).bind fun q =>
  (spec_ProductSystem.f k p.1 p.2.1 p.2.2.1 p.2.2.2 q.1 q.2.1 q.2.2.1 q.2.2.2).bind fun s => (impl_ProductSystem.f k p.1 p.2.1 p.2.2.1 p.2.2.2 q.1 q.2.1 q.2.2.1 q.2.2.2).bind fun g =>
  (laws_eqSystem.f k g.1 g.2.1 g.2.2.1 g.2.2.2.1 s.1 s.2.1 s.2.2.1 s.2.2.2.1).bind fun e1 => (laws_eqSystem.f k p.1 p.2.1 p.2.2.1 p.2.2.2 p.1 p.2.1 p.2.2.1 p.2.2.2).bind fun e2 => (laws_eqSystem.f k q.1 q.2.1 q.2.2.1 q.2.2.2 q.1 q.2.1 q.2.2.1 q.2.2.2).bind fun e3 =>
  (laws_markSystem.f k p.1 p.2.1 p.2.2.1 p.2.2.2 1).bind fun m1 => (laws_markSystem.f k q.1 q.2.1 q.2.2.1 q.2.2.2 m1.1).bind fun m2 => (laws_markSystem.f k g.1 g.2.1 g.2.2.1 g.2.2.2.1 1).bind fun m3 => (laws_heldSystem.f k g.1 m3.2.1 m3.2.2.1 m3.2.2.2 1).bind fun h =>
  some (e1 && (e2 && (e3 && (decide (g.2.2.2.2 = s.2.2.2.2) && (decide (¬ m2.1 < 0) && (decide (¬ h < 0) && decide (h = m3.1)))))))
def laws_FnExactProductSystem.T8 : Bool × List (List Nat × List Nat) := (true, [([], []), ([0], [0]), ([], []), ([2, 1], [2]), ([1, 3, 3], [1, 3]), ([4], [4]), ([5], [5]), ([5], [5]), ([], []), ([8, 6, 4, 0, 1, 2, 3, 4, 5, 6, 8], [6, 8]), ([7, 9, 0, 1, 2, 3, 4, 5, 6, 7, 8, 9], [7])])
def laws_FnExactProductSystem.B8 : List Nat := [0, 1, 0, 7, 15, 31, 63, 63, 0, 383, 1023]
theorem laws_FnExactProductSystem.tab8 : rtab .any (opsOf Try.f3 8) = laws_FnExactProductSystem.T8 := by kernel_rfl
theorem laws_FnExactProductSystem.bits8 : waitsOk laws_FnExactProductSystem.T8.2 laws_FnExactProductSystem.B8 = true := by kernel_rfl
def laws_FnExactProductSystem.T31 : Bool × List (List Nat × List Nat) := (true, [([], []), ([0], [0]), ([], []), ([2, 1], [2]), ([1, 3, 3], [1, 3]), ([4], [4]), ([5], [5]), ([5], [5]), ([], []), ([8, 6, 4, 0, 1, 2, 3, 4, 5, 6, 8], [6, 8]), ([7, 9, 0, 1, 2, 3, 4, 5, 6, 7, 8, 9], [7])])
def laws_FnExactProductSystem.B31 : List Nat := [0, 1, 0, 7, 15, 31, 63, 63, 0, 383, 1023]
theorem laws_FnExactProductSystem.tab31 : rtab .any (opsOf Try.f3 31) = laws_FnExactProductSystem.T31 := by kernel_rfl
theorem laws_FnExactProductSystem.bits31 : waitsOk laws_FnExactProductSystem.T31.2 laws_FnExactProductSystem.B31 = true := by kernel_rfl
set_option maxHeartbeats 8000000 in
set_option maxRecDepth 100000 in
theorem laws_FnExactProductSystem.calls (k : Nat) (a0_0 : Int) (A0_1 : Option Addr) (c0_1 : Nat) (l0_1 : List Int) (A0_2 : Option Addr) (c0_2 : Nat) (l0_2 : List Int) (A0_3 : Option Addr) (c0_3 : Nat) (l0_3 : List Bool) (a1_0 : Int) (A1_1 : Option Addr) (c1_1 : Nat) (l1_1 : List Int) (A1_2 : Option Addr) (c1_2 : Nat) (l1_2 : List Int) (A1_3 : Option Addr) (c1_3 : Nat) (l1_3 : List Bool) (r : Bool) (w : World) (hr0_1 : Kd.C (Kd.int .i64) w A0_1 l0_1.length l0_1) (hc0_1 : l0_1.length ≤ c0_1) (hr0_2 : Kd.C (Kd.int .i64) w A0_2 l0_2.length l0_2) (hc0_2 : l0_2.length ≤ c0_2) (hr0_3 : Kd.C Kd.bool w A0_3 l0_3.length l0_3) (hc0_3 : l0_3.length ≤ c0_3) (hr1_1 : Kd.C (Kd.int .i64) w A1_1 l1_1.length l1_1) (hc1_1 : l1_1.length ≤ c1_1) (hr1_2 : Kd.C (Kd.int .i64) w A1_2 l1_2.length l1_2) (hc1_2 : l1_2.length ≤ c1_2) (hr1_3 : Kd.C Kd.bool w A1_3 l1_3.length l1_3) (hc1_3 : l1_3.length ≤ c1_3) (h : laws_FnExactProductSystem.f k a0_0 l0_1 l0_2 l0_3 a1_0 l1_1 l1_2 l1_3 = some r) (hr_ : r = true) :
    Calls Try.prog 3 #[.agg #[.int .i64 a0_0, .slice A0_1 l0_1.length c0_1, .slice A0_2 l0_2.length c0_2, .slice A0_3 l0_3.length c0_3], .agg #[.int .i64 a1_0, .slice A1_1 l1_1.length c1_1, .slice A1_2 l1_2.length c1_2, .slice A1_3 l1_3.length c1_3]] w fun e w' => e = .returned (.bool r) ∧ Below w.heap.size w w' := by
 have HR0_1 := Aside0.mk hr0_1
 have HC0_1 := Aside0.mk hc0_1
 clear hr0_1 hc0_1
 have HR0_2 := Aside0.mk hr0_2
 have HC0_2 := Aside0.mk hc0_2
 clear hr0_2 hc0_2
 have HR0_3 := Aside0.mk hr0_3
 have HC0_3 := Aside0.mk hc0_3
 clear hr0_3 hc0_3
 have HR1_1 := Aside0.mk hr1_1
 have HC1_1 := Aside0.mk hc1_1
 clear hr1_1 hc1_1
 have HR1_2 := Aside0.mk hr1_2
 have HC1_2 := Aside0.mk hc1_2
 clear hr1_2 hc1_2
 have HR1_3 := Aside0.mk hr1_3
 have HC1_3 := Aside0.mk hc1_3
 clear hr1_3 hc1_3
 have HA := Aside0.mk (show All w [] w from Below.refl w.heap.size w)
 unfold laws_FnExactProductSystem.f at h
 replace h := Option.bind_eq_some_iff.mp h
 obtain ⟨t1, A1, h⟩ := h
 have H := Aside0.mk h
 have A1 := Aside0.mk A1
 clear h
 go_enter Try.func3, Try.ntmps3
 go_upto_if 21 with (first | ((with_reducible refine gate_dst (N := 2) rfl ?_); (try (refine gate_guard (by rfl) ?_; dsimp only)); refine box_event ?hg (N := 2) ?hd (cs := #[.int .i64 a0_0, .slice A0_1 l0_1.length c0_1, .slice A0_2 l0_2.length c0_2, .slice A0_3 l0_3.length c0_3]) (t := 25) ?hr ?_; (case hd => rfl); (case hg => rfl); (case hr => first | (go_simp; done) | (go_simp; rfl)); intro g2 hg w1 hbox hb; have n_ := Aside0.mk (All.box (by first | exact HA.out | exact All.drewN HA.out _ | exact All.drew HA.out) hg hbox hb); clear HA; have HA := n_; clear n_ hg hbox hb) | ((with_reducible refine gate_dst (N := 3) rfl ?_); (try (refine gate_guard (by rfl) ?_; dsimp only)); refine box_event ?hg (N := 3) ?hd (cs := #[.int .i64 a1_0, .slice A1_1 l1_1.length c1_1, .slice A1_2 l1_2.length c1_2, .slice A1_3 l1_3.length c1_3]) (t := 25) ?hr ?_; (case hd => rfl); (case hg => rfl); (case hr => first | (go_simp; done) | (go_simp; rfl)); intro g3 hg w2 hbox hb; have n_ := Aside0.mk (All.box (by first | exact HA.out | exact All.drewN HA.out _ | exact All.drew HA.out) hg hbox hb); clear HA; have HA := n_; clear n_ hg hbox hb; obtain ⟨ca0, ca1, ca2, ca3⟩ := bc4_ HA.out.2.1.1) | ((with_reducible refine gate_callee (f := 8) rfl ?_); refine goesL_ (some 19) rfl rfl Try.func8 (by kernel_rfl) rfl #[.agg #[.int .i64 a0_0, .slice A0_1 l0_1.length c0_1, .slice A0_2 l0_2.length c0_2, .slice A0_3 l0_3.length c0_3], .int .i64 1048576] rfl la_ ?_; (refine (laws_szSystem.calls a0_0 _ _ l0_1 _ _ l0_2 _ _ l0_3 1048576 t1 _ (Kd.C_below HR0_1.out (by first | exact All.base HA.out | exact pw_below_drewN (All.base HA.out) _ | exact below_drew1 (All.base HA.out))) HC0_1.out (Kd.C_below HR0_2.out (by first | exact All.base HA.out | exact pw_below_drewN (All.base HA.out) _ | exact below_drew1 (All.base HA.out))) HC0_2.out (Kd.C_below HR0_3.out (by first | exact All.base HA.out | exact pw_below_drewN (All.base HA.out) _ | exact below_drew1 (All.base HA.out))) HC0_3.out A1.out).mono ?_); rintro e w11 ⟨rfl, hb⟩; refine ⟨_, rfl, ?_⟩; have n_ := Aside0.mk (All.below (by first | exact HA.out | exact All.drewN HA.out _ | exact All.drew HA.out) hb); clear HA; have HA := n_; clear n_ hb))
 have h := H.out
 clear H ca0 ca1 ca2 ca3
 by_cases c1 : t1 < 0
 · rw [if_pos c1] at h
   have c1b : decide (t1 < 0) = true := decide_eq_true c1
   (first | rw [c1b] | (simp only [i64_w, i32_w]; rw [c1b]) | skip)
   obtain rfl := Option.some.inj h
   go_wp2
   go_ret
   exact ⟨rfl, (by first | exact All.base HA.out | exact pw_below_drewN (All.base HA.out) _ | exact below_drew1 (All.base HA.out))⟩
 rw [if_neg c1] at h
 have c1b : decide (t1 < 0) = false := decide_eq_false c1
 (first | rw [c1b] | (simp only [i64_w, i32_w]; rw [c1b]) | skip)
 clear c1
 replace h := Option.bind_eq_some_iff.mp h
 obtain ⟨t2, A2, h⟩ := h
 have H := Aside0.mk h
 have A2 := Aside0.mk A2
 clear h
 obtain ⟨cb0, cb1, cb2, cb3⟩ := bc4_ HA.out.1.1
 go_upto_if 26 with (first | ((with_reducible refine gate_callee (f := 8) rfl ?_); refine goesL_ (some 24) rfl rfl Try.func8 (by kernel_rfl) rfl #[.agg #[.int .i64 a1_0, .slice A1_1 l1_1.length c1_1, .slice A1_2 l1_2.length c1_2, .slice A1_3 l1_3.length c1_3], .int .i64 t1] rfl la_ ?_; (refine (laws_szSystem.calls a1_0 _ _ l1_1 _ _ l1_2 _ _ l1_3 t1 t2 _ (Kd.C_below HR1_1.out (by first | exact All.base HA.out | exact pw_below_drewN (All.base HA.out) _ | exact below_drew1 (All.base HA.out))) HC1_1.out (Kd.C_below HR1_2.out (by first | exact All.base HA.out | exact pw_below_drewN (All.base HA.out) _ | exact below_drew1 (All.base HA.out))) HC1_2.out (Kd.C_below HR1_3.out (by first | exact All.base HA.out | exact pw_below_drewN (All.base HA.out) _ | exact below_drew1 (All.base HA.out))) HC1_3.out A2.out).mono ?_); rintro e w12 ⟨rfl, hb⟩; refine ⟨_, rfl, ?_⟩; have n_ := Aside0.mk (All.below (by first | exact HA.out | exact All.drewN HA.out _ | exact All.drew HA.out) hb); clear HA; have HA := n_; clear n_ hb))
 have h := H.out
 clear H cb0 cb1 cb2 cb3
 by_cases c2 : t2 < 0
 · rw [if_pos c2] at h
   have c2b : decide (t2 < 0) = true := decide_eq_true c2
   (first | rw [c2b] | (simp only [i64_w, i32_w]; rw [c2b]) | skip)
   obtain rfl := Option.some.inj h
   go_wp2
   go_ret
   exact ⟨rfl, (by first | exact All.base HA.out | exact pw_below_drewN (All.base HA.out) _ | exact below_drew1 (All.base HA.out))⟩
 rw [if_neg c2] at h
 have c2b : decide (t2 < 0) = false := decide_eq_false c2
 (first | rw [c2b] | (simp only [i64_w, i32_w]; rw [c2b]) | skip)
 clear c2
 replace h := Option.bind_eq_some_iff.mp h
 obtain ⟨⟨p1, p2, p3, p4⟩, Ap, h⟩ := h
 replace h := Option.bind_eq_some_iff.mp h
 obtain ⟨⟨q1, q2, q3, q4⟩, Aq, h⟩ := h
 replace h := Option.bind_eq_some_iff.mp h
 obtain ⟨⟨s1, s2, s3, s4, s5⟩, As, h⟩ := h
 replace h := Option.bind_eq_some_iff.mp h
 obtain ⟨⟨g1, g2', g3', g4, g5⟩, Ag, h⟩ := h
 replace h := Option.bind_eq_some_iff.mp h
 obtain ⟨e1, Ae1, h⟩ := h
 replace h := Option.bind_eq_some_iff.mp h
 obtain ⟨e2, Ae2, h⟩ := h
 replace h := Option.bind_eq_some_iff.mp h
 obtain ⟨e3, Ae3, h⟩ := h
 replace h := Option.bind_eq_some_iff.mp h
 obtain ⟨⟨m1, m2, m3, m4⟩, Am, h⟩ := h
 replace h := Option.bind_eq_some_iff.mp h
 obtain ⟨⟨n1, n2, n3, n4⟩, An, h⟩ := h
 replace h := Option.bind_eq_some_iff.mp h
 obtain ⟨⟨u1, u2, u3, u4⟩, Au, h⟩ := h
 replace h := Option.bind_eq_some_iff.mp h
 obtain ⟨hh, Ah, h⟩ := h
 obtain rfl := hr_
 replace h := Option.some.inj h
 simp only [Bool.and_eq_true, decide_eq_true_eq] at h
 obtain ⟨rfl, rfl, rfl, rfl, cn, ch, rfl⟩ := h
 have Ap := Aside0.mk Ap
 have Aq := Aside0.mk Aq
 have As := Aside0.mk As
 have Ag := Aside0.mk Ag
 have Ae1 := Aside0.mk Ae1
 have Ae2 := Aside0.mk Ae2
 have Ae3 := Aside0.mk Ae3
 have Am := Aside0.mk Am
 have An := Aside0.mk An
 have Au := Aside0.mk Au
 have Ah := Aside0.mk Ah
 have cnb : decide (n1 < 0) = false := decide_eq_false (by omega)
 have chb : decide (hh < 0) = false := decide_eq_false (by omega)
 have cgb : (g5 != g5) = false := bne_self_eq_false g5
 have chh : (hh != hh) = false := bne_self_eq_false hh
 clear cn ch
 dsimp only at Ap Aq As Ag Ae1 Ae2 Ae3 Am An Au Ah
 go_wp2
 replace HA := Aside0.mk (All.drew HA.out)
 refine start_ (n := 11) (S := (fun w' => w'.heap[g2]? = some (.cells #[.int .i64 a0_0, .slice A0_1 l0_1.length c0_1, .slice A0_2 l0_2.length c0_2, .slice A0_3 l0_3.length c0_3] 25 (0, 0)) ∧ w'.heap[g3]? = some (.cells #[.int .i64 a1_0, .slice A1_1 l1_1.length c1_1, .slice A1_2 l1_2.length c1_2, .slice A1_3 l1_3.length c1_3] 25 (0, 0)))) (ds := []) #[false, false, false, false, false, false, false, false, false, false, false] (by kernel_rfl) rfl rfl ⟨HA.out.2.1.1, HA.out.1.1⟩ (fun hHeld => ?_); refine with_tabW laws_FnExactProductSystem.tab8 laws_FnExactProductSystem.bits8 (fun HT_ HW_ => ?_)
 generalize w12.drew = w13 at HA hHeld ⊢
 refine take_ (i := 0) (N := some 28) (v := ?_) (a' := ?_) #[true, false, false, false, false, false, false, false, false, false, false] rfl rfl (take_ofW HT_.out HW_.out (by kernel_rfl)) (fun _ _ _ h => h) (Or.inl ⟨by rfl, ?_⟩) hHeld ?_ ?_
 rotate_left
 · rintro w' ⟨s0, s1⟩
   obtain ⟨q0, q1, q2, q3⟩ := bc4_ s0
   go_simp
   with_reducible rfl
 rotate_left
 · simp only [Act.put, List.setIfInBounds_toArray, List.set_cons_zero, List.set_cons_succ, i64_w, i32_w]
   rfl
 refine take_ (i := 2) (N := some 30) (v := ?_) (a' := ?_) #[true, false, true, false, false, false, false, false, false, false, false] rfl rfl (take_ofW HT_.out HW_.out (by kernel_rfl)) (fun _ _ _ h => h) (Or.inl ⟨by rfl, ?_⟩) hHeld ?_ ?_
 rotate_left
 · rintro w' ⟨s0, s1⟩
   obtain ⟨q0, q1, q2, q3⟩ := bc4_ s1
   go_simp
   with_reducible rfl
 rotate_left
 · simp only [Act.put, List.setIfInBounds_toArray, List.set_cons_zero, List.set_cons_succ, i64_w, i32_w]
   rfl
 refine join_ (σ := Sx × Sx × Sx × Nat) 2 #[true, true, true, true, true, true, true, true, true, false, false] (fun s_ => [(29, .agg #[.int .i64 p1, .slice s_.1.A1 s_.1.n1 s_.1.c1, .slice s_.1.A2 s_.1.n2 s_.1.c2, .slice s_.1.A3 s_.1.n3 s_.1.c3]), (31, .agg #[.int .i64 q1, .slice s_.2.1.A1 s_.2.1.n1 s_.2.1.c1, .slice s_.2.1.A2 s_.2.1.n2 s_.2.1.c2, .slice s_.2.1.A3 s_.2.1.n3 s_.2.1.c3]), (32, (.tuple #[.agg #[.int .i64 s1, .slice s_.2.2.1.A1 s_.2.2.1.n1 s_.2.2.1.c1, .slice s_.2.2.1.A2 s_.2.2.1.n2 s_.2.2.1.c2, .slice s_.2.2.1.A3 s_.2.2.1.n3 s_.2.2.1.c3], .bool g5])), (6, .pointer (some ⟨s_.2.2.2, 0, none⟩)), (27, (.tuple #[.agg #[.int .i64 s1, .slice s_.2.2.1.A1 s_.2.2.1.n1 s_.2.2.1.c1, .slice s_.2.2.1.A2 s_.2.2.1.n2 s_.2.2.1.c2, .slice s_.2.2.1.A3 s_.2.2.1.n3 s_.2.2.1.c3], .bool g5])), (33, .agg #[.int .i64 s1, .slice s_.2.2.1.A1 s_.2.2.1.n1 s_.2.2.1.c1, .slice s_.2.2.1.A2 s_.2.2.1.n2 s_.2.2.1.c2, .slice s_.2.2.1.A3 s_.2.2.1.n3 s_.2.2.1.c3]), (34, .bool g5)]) (fun s_ w' => (fun w' => w'.heap[g2]? = some (.cells #[.int .i64 a0_0, .slice A0_1 l0_1.length c0_1, .slice A0_2 l0_2.length c0_2, .slice A0_3 l0_3.length c0_3] 25 (0, 0)) ∧ w'.heap[g3]? = some (.cells #[.int .i64 a1_0, .slice A1_1 l1_1.length c1_1, .slice A1_2 l1_2.length c1_2, .slice A1_3 l1_3.length c1_3] 25 (0, 0))) w' ∧ All w [Ob.sys w.heap.size s_.2.2.1 s2 s3 s4, Ob.box s_.2.2.2 #[.int .i64 0, .slice none 0 0, .slice none 0 0, .slice none 0 0] 27, Ob.box g3 #[.int .i64 a1_0, .slice A1_1 l1_1.length c1_1, .slice A1_2 l1_2.length c1_2, .slice A1_3 l1_3.length c1_3] 25, Ob.box g2 #[.int .i64 a0_0, .slice A0_1 l0_1.length c0_1, .slice A0_2 l0_2.length c0_2, .slice A0_3 l0_3.length c0_3] 25] w') ?_ ?_
 rotate_left
 · intro hCont
   refine two_ (i := 1) (j := 8) (Ni := some 29) (Nj := some 6) #[true, true, true, false, false, false, false, false, false, false, false] #[true, false, true, false, false, false, false, false, true, false, false] rfl rfl rfl rfl (two_of HT_.out (by kernel_rfl)) (by decide) (by decide) (fun K hK => ?_) (fun K hK => ?_)
   · skip
     refine goes_ Try.func10 (by kernel_rfl) rfl #[.agg #[.int .i64 a0_0, .slice A0_1 l0_1.length c0_1, .slice A0_2 l0_2.length c0_2, .slice A0_3 l0_3.length c0_3]] (by rfl) rfl rfl la_ ?_
     refine (toS k HR0_1.out HC0_1.out HR0_2.out HC0_2.out HR0_3.out HC0_3.out _ (by first | exact All.base HA.out | exact pw_below_drewN (All.base HA.out) _ | exact below_drew1 (All.base HA.out)) Ap.out).mono ?_
     rintro e w14 ⟨xa, rfl, hp, hb⟩
     refine ⟨_, rfl, ?_⟩
     have n_ := Aside0.mk (All.push (by first | exact HA.out | exact All.drewN HA.out _ | exact All.drew HA.out) hb (Ob.sys w.heap.size xa p2 p3 p4) hp.1 hp.2.1 hp.2.2)
     clear HA
     have HA := n_
     clear n_ hp hb
     refine hK.out _ _ ⟨HA.out.2.2.1.1, HA.out.2.1.1⟩ (fun hHeld => ?_)
     clear hK K
     refine norm_ (a' := ?_) ?_ ?_
     rotate_left
     · show Act.put _ (some 29) _ = _
       simp only [Act.put, List.setIfInBounds_toArray, List.set_cons_zero, List.set_cons_succ, i64_w, i32_w]
       rfl
     refine two_ (i := 3) (j := 8) (Ni := some 31) (Nj := some 6) #[true, true, true, true, false, false, false, false, false, false, false] #[true, true, true, false, false, false, false, false, true, false, false] rfl rfl rfl rfl (two_of HT_.out (by kernel_rfl)) (by decide) (by decide) (fun K hK => ?_) (fun K hK => ?_)
     · skip
       refine goes_ Try.func10 (by kernel_rfl) rfl #[.agg #[.int .i64 a1_0, .slice A1_1 l1_1.length c1_1, .slice A1_2 l1_2.length c1_2, .slice A1_3 l1_3.length c1_3]] (by rfl) rfl rfl la_ ?_
       refine (toS k HR1_1.out HC1_1.out HR1_2.out HC1_2.out HR1_3.out HC1_3.out _ (by first | exact All.base HA.out | exact pw_below_drewN (All.base HA.out) _ | exact below_drew1 (All.base HA.out)) Aq.out).mono ?_
       rintro e w15 ⟨xb, rfl, hp, hb⟩
       refine ⟨_, rfl, ?_⟩
       have n_ := Aside0.mk (All.push (by first | exact HA.out | exact All.drewN HA.out _ | exact All.drew HA.out) hb (Ob.sys w.heap.size xb q2 q3 q4) hp.1 hp.2.1 hp.2.2)
       clear HA
       have HA := n_
       clear n_ hp hb
       refine hK.out _ _ ⟨HA.out.2.2.2.1.1, HA.out.2.2.1.1⟩ (fun hHeld => ?_)
       clear hK K
       refine norm_ (a' := ?_) ?_ ?_
       rotate_left
       · show Act.put _ (some 31) _ = _
         simp only [Act.put, List.setIfInBounds_toArray, List.set_cons_zero, List.set_cons_succ, i64_w, i32_w]
         rfl
       refine two_ (i := 4) (j := 8) (Ni := some 32) (Nj := some 6) #[true, true, true, true, true, false, false, false, false, false, false] #[true, true, true, true, false, false, false, false, true, false, false] rfl rfl rfl rfl (two_of HT_.out (by kernel_rfl)) (by decide) (by decide) (fun K hK => ?_) (fun K hK => ?_)
       · skip
         refine goes_ Try.func9 (by kernel_rfl) rfl #[.agg #[.int .i64 p1, .slice xa.A1 xa.n1 xa.c1, .slice xa.A2 xa.n2 xa.c2, .slice xa.A3 xa.n3 xa.c3], .agg #[.int .i64 q1, .slice xb.A1 xb.n1 xb.c1, .slice xb.A2 xb.n2 xb.c2, .slice xb.A3 xb.n3 xb.c3]] (by rfl) rfl rfl la_ ?_
         refine (specPS k (by first | exact All.base HA.out | exact pw_below_drewN (All.base HA.out) _ | exact below_drew1 (All.base HA.out)) (sysP_move HA.out.2.1.1 (fun _ _ _ => rfl)) (sysP_move HA.out.1.1 (fun _ _ _ => rfl)) As.out).mono ?_
         rintro e w16 ⟨z, rfl, hp, hb⟩
         refine ⟨_, rfl, ?_⟩
         have n_ := Aside0.mk (All.push (by first | exact HA.out | exact All.drewN HA.out _ | exact All.drew HA.out) hb (Ob.sys w.heap.size z s2 s3 s4) hp.1 hp.2.1 hp.2.2)
         clear HA
         have HA := n_
         clear n_ hp hb
         refine hK.out _ _ ⟨HA.out.2.2.2.2.1.1, HA.out.2.2.2.1.1⟩ (fun hHeld => ?_)
         clear hK K
         refine norm_ (a' := ?_) ?_ ?_
         rotate_left
         · show Act.put _ (some 32) _ = _
           simp only [Act.put, List.setIfInBounds_toArray, List.set_cons_zero, List.set_cons_succ, i64_w, i32_w]
           rfl
         refine pure_ (i := 5) (N := some 27) (v := ?_) (a' := ?_) #[true, true, true, true, true, true, false, false, false, false, false] rfl rfl (any_of HT_.out (by kernel_rfl)) (fun _ _ _ h => h) (Or.inl ⟨by rfl, ?_⟩) ?_ ?_
         rotate_left
         · intro w'
           go_simp
           with_reducible rfl
         rotate_left
         · simp only [Act.put, List.setIfInBounds_toArray, List.set_cons_zero, List.set_cons_succ, i64_w, i32_w]
           rfl
         refine pure_ (i := 6) (N := some 33) (v := ?_) (a' := ?_) #[true, true, true, true, true, true, true, false, false, false, false] rfl rfl (any_of HT_.out (by kernel_rfl)) (fun _ _ _ h => h) (Or.inl ⟨by rfl, ?_⟩) ?_ ?_
         rotate_left
         · intro w'
           go_simp
           with_reducible rfl
         rotate_left
         · simp only [Act.put, List.setIfInBounds_toArray, List.set_cons_zero, List.set_cons_succ, i64_w, i32_w]
           rfl
         refine pure_ (i := 7) (N := some 34) (v := ?_) (a' := ?_) #[true, true, true, true, true, true, true, true, false, false, false] rfl rfl (any_of HT_.out (by kernel_rfl)) (fun _ _ _ h => h) (Or.inl ⟨by rfl, ?_⟩) ?_ ?_
         rotate_left
         · intro w'
           go_simp
           with_reducible rfl
         rotate_left
         · simp only [Act.put, List.setIfInBounds_toArray, List.set_cons_zero, List.set_cons_succ, i64_w, i32_w]
           rfl
         refine one_ (i := 8) (N := some 6) #[true, true, true, true, true, true, true, true, true, false, false] rfl rfl (one_of HT_.out (by kernel_rfl)) (by decide) (fun K hK => ?_)
         refine box_step ?hg (N := 6) ?hd (cs := #[.int .i64 0, .slice none 0 0, .slice none 0 0, .slice none 0 0]) (t := 27) ?hr ?_; (case hd => rfl); (case hg => rfl); (case hr => first | (go_simp; done) | (go_simp; rfl))
         intro gb hg w17 hbox hb
         have n_ := Aside0.mk (All.box (by first | exact HA.out | exact All.drewN HA.out _ | exact All.drew HA.out) hg hbox hb)
         clear HA
         have HA := n_
         clear n_ hg hbox hb
         refine hK.out _ _ ⟨HA.out.2.2.2.2.2.1.1, HA.out.2.2.2.2.1.1⟩ (fun hHeld => ?_)
         clear hK K
         refine norm_ (a' := ?_) ?_ ?_
         rotate_left
         · show Act.put _ (some 6) _ = _
           simp only [Act.put, List.setIfInBounds_toArray, List.set_cons_zero, List.set_cons_succ, i64_w, i32_w]
           rfl
         exact norm_ (by simp only [putAll, Act.put, List.setIfInBounds_toArray, List.set_cons_zero, List.set_cons_succ]) (hCont (xa, xb, z, gb) _ ⟨hHeld, (All.drop3 (All.drop3 (All.swap HA.out)))⟩)
       refine box_step ?hg (N := 6) ?hd (cs := #[.int .i64 0, .slice none 0 0, .slice none 0 0, .slice none 0 0]) (t := 27) ?hr ?_; (case hd => rfl); (case hg => rfl); (case hr => first | (go_simp; done) | (go_simp; rfl))
       intro gb hg w18 hbox hb
       have n_ := Aside0.mk (All.box (by first | exact HA.out | exact All.drewN HA.out _ | exact All.drew HA.out) hg hbox hb)
       clear HA
       have HA := n_
       clear n_ hg hbox hb
       refine hK.out _ _ ⟨HA.out.2.2.2.2.1.1, HA.out.2.2.2.1.1⟩ (fun hHeld => ?_)
       clear hK K
       refine norm_ (a' := ?_) ?_ ?_
       rotate_left
       · show Act.put _ (some 6) _ = _
         simp only [Act.put, List.setIfInBounds_toArray, List.set_cons_zero, List.set_cons_succ, i64_w, i32_w]
         rfl
       refine one_ (i := 4) (N := some 32) #[true, true, true, true, true, false, false, false, true, false, false] rfl rfl (one_of HT_.out (by kernel_rfl)) (by decide) (fun K hK => ?_)
       refine goes_ Try.func9 (by kernel_rfl) rfl #[.agg #[.int .i64 p1, .slice xa.A1 xa.n1 xa.c1, .slice xa.A2 xa.n2 xa.c2, .slice xa.A3 xa.n3 xa.c3], .agg #[.int .i64 q1, .slice xb.A1 xb.n1 xb.c1, .slice xb.A2 xb.n2 xb.c2, .slice xb.A3 xb.n3 xb.c3]] (by rfl) rfl rfl la_ ?_
       refine (specPS k (by first | exact All.base HA.out | exact pw_below_drewN (All.base HA.out) _ | exact below_drew1 (All.base HA.out)) (sysP_move HA.out.2.2.1.1 (fun _ _ _ => rfl)) (sysP_move HA.out.2.1.1 (fun _ _ _ => rfl)) As.out).mono ?_
       rintro e w19 ⟨z, rfl, hp, hb⟩
       refine ⟨_, rfl, ?_⟩
       have n_ := Aside0.mk (All.push (by first | exact HA.out | exact All.drewN HA.out _ | exact All.drew HA.out) hb (Ob.sys w.heap.size z s2 s3 s4) hp.1 hp.2.1 hp.2.2)
       clear HA
       have HA := n_
       clear n_ hp hb
       refine hK.out _ _ ⟨HA.out.2.2.2.2.2.1.1, HA.out.2.2.2.2.1.1⟩ (fun hHeld => ?_)
       clear hK K
       refine norm_ (a' := ?_) ?_ ?_
       rotate_left
       · show Act.put _ (some 32) _ = _
         simp only [Act.put, List.setIfInBounds_toArray, List.set_cons_zero, List.set_cons_succ, i64_w, i32_w]
         rfl
       refine pure_ (i := 5) (N := some 27) (v := ?_) (a' := ?_) #[true, true, true, true, true, true, false, false, true, false, false] rfl rfl (any_of HT_.out (by kernel_rfl)) (fun _ _ _ h => h) (Or.inl ⟨by rfl, ?_⟩) ?_ ?_
       rotate_left
       · intro w'
         go_simp
         with_reducible rfl
       rotate_left
       · simp only [Act.put, List.setIfInBounds_toArray, List.set_cons_zero, List.set_cons_succ, i64_w, i32_w]
         rfl
       refine pure_ (i := 6) (N := some 33) (v := ?_) (a' := ?_) #[true, true, true, true, true, true, true, false, true, false, false] rfl rfl (any_of HT_.out (by kernel_rfl)) (fun _ _ _ h => h) (Or.inl ⟨by rfl, ?_⟩) ?_ ?_
       rotate_left
       · intro w'
         go_simp
         with_reducible rfl
       rotate_left
       · simp only [Act.put, List.setIfInBounds_toArray, List.set_cons_zero, List.set_cons_succ, i64_w, i32_w]
         rfl
       refine pure_ (i := 7) (N := some 34) (v := ?_) (a' := ?_) #[true, true, true, true, true, true, true, true, true, false, false] rfl rfl (any_of HT_.out (by kernel_rfl)) (fun _ _ _ h => h) (Or.inl ⟨by rfl, ?_⟩) ?_ ?_
       rotate_left
       · intro w'
         go_simp
         with_reducible rfl
       rotate_left
       · simp only [Act.put, List.setIfInBounds_toArray, List.set_cons_zero, List.set_cons_succ, i64_w, i32_w]
         rfl
       exact norm_ (by simp only [putAll, Act.put, List.setIfInBounds_toArray, List.set_cons_zero, List.set_cons_succ]) (hCont (xa, xb, z, gb) _ ⟨hHeld, (All.drop3 (All.drop3 HA.out))⟩)
     refine box_step ?hg (N := 6) ?hd (cs := #[.int .i64 0, .slice none 0 0, .slice none 0 0, .slice none 0 0]) (t := 27) ?hr ?_; (case hd => rfl); (case hg => rfl); (case hr => first | (go_simp; done) | (go_simp; rfl))
     intro gb hg w20 hbox hb
     have n_ := Aside0.mk (All.box (by first | exact HA.out | exact All.drewN HA.out _ | exact All.drew HA.out) hg hbox hb)
     clear HA
     have HA := n_
     clear n_ hg hbox hb
     refine hK.out _ _ ⟨HA.out.2.2.2.1.1, HA.out.2.2.1.1⟩ (fun hHeld => ?_)
     clear hK K
     refine norm_ (a' := ?_) ?_ ?_
     rotate_left
     · show Act.put _ (some 6) _ = _
       simp only [Act.put, List.setIfInBounds_toArray, List.set_cons_zero, List.set_cons_succ, i64_w, i32_w]
       rfl
     refine one_ (i := 3) (N := some 31) #[true, true, true, true, false, false, false, false, true, false, false] rfl rfl (one_of HT_.out (by kernel_rfl)) (by decide) (fun K hK => ?_)
     refine goes_ Try.func10 (by kernel_rfl) rfl #[.agg #[.int .i64 a1_0, .slice A1_1 l1_1.length c1_1, .slice A1_2 l1_2.length c1_2, .slice A1_3 l1_3.length c1_3]] (by rfl) rfl rfl la_ ?_
     refine (toS k HR1_1.out HC1_1.out HR1_2.out HC1_2.out HR1_3.out HC1_3.out _ (by first | exact All.base HA.out | exact pw_below_drewN (All.base HA.out) _ | exact below_drew1 (All.base HA.out)) Aq.out).mono ?_
     rintro e w21 ⟨xb, rfl, hp, hb⟩
     refine ⟨_, rfl, ?_⟩
     have n_ := Aside0.mk (All.push (by first | exact HA.out | exact All.drewN HA.out _ | exact All.drew HA.out) hb (Ob.sys w.heap.size xb q2 q3 q4) hp.1 hp.2.1 hp.2.2)
     clear HA
     have HA := n_
     clear n_ hp hb
     refine hK.out _ _ ⟨HA.out.2.2.2.2.1.1, HA.out.2.2.2.1.1⟩ (fun hHeld => ?_)
     clear hK K
     refine norm_ (a' := ?_) ?_ ?_
     rotate_left
     · show Act.put _ (some 31) _ = _
       simp only [Act.put, List.setIfInBounds_toArray, List.set_cons_zero, List.set_cons_succ, i64_w, i32_w]
       rfl
     refine one_ (i := 4) (N := some 32) #[true, true, true, true, true, false, false, false, true, false, false] rfl rfl (one_of HT_.out (by kernel_rfl)) (by decide) (fun K hK => ?_)
     refine goes_ Try.func9 (by kernel_rfl) rfl #[.agg #[.int .i64 p1, .slice xa.A1 xa.n1 xa.c1, .slice xa.A2 xa.n2 xa.c2, .slice xa.A3 xa.n3 xa.c3], .agg #[.int .i64 q1, .slice xb.A1 xb.n1 xb.c1, .slice xb.A2 xb.n2 xb.c2, .slice xb.A3 xb.n3 xb.c3]] (by rfl) rfl rfl la_ ?_
     refine (specPS k (by first | exact All.base HA.out | exact pw_below_drewN (All.base HA.out) _ | exact below_drew1 (All.base HA.out)) (sysP_move HA.out.2.2.1.1 (fun _ _ _ => rfl)) (sysP_move HA.out.1.1 (fun _ _ _ => rfl)) As.out).mono ?_
     rintro e w22 ⟨z, rfl, hp, hb⟩
     refine ⟨_, rfl, ?_⟩
     have n_ := Aside0.mk (All.push (by first | exact HA.out | exact All.drewN HA.out _ | exact All.drew HA.out) hb (Ob.sys w.heap.size z s2 s3 s4) hp.1 hp.2.1 hp.2.2)
     clear HA
     have HA := n_
     clear n_ hp hb
     refine hK.out _ _ ⟨HA.out.2.2.2.2.2.1.1, HA.out.2.2.2.2.1.1⟩ (fun hHeld => ?_)
     clear hK K
     refine norm_ (a' := ?_) ?_ ?_
     rotate_left
     · show Act.put _ (some 32) _ = _
       simp only [Act.put, List.setIfInBounds_toArray, List.set_cons_zero, List.set_cons_succ, i64_w, i32_w]
       rfl
     refine pure_ (i := 5) (N := some 27) (v := ?_) (a' := ?_) #[true, true, true, true, true, true, false, false, true, false, false] rfl rfl (any_of HT_.out (by kernel_rfl)) (fun _ _ _ h => h) (Or.inl ⟨by rfl, ?_⟩) ?_ ?_
     rotate_left
     · intro w'
       go_simp
       with_reducible rfl
     rotate_left
     · simp only [Act.put, List.setIfInBounds_toArray, List.set_cons_zero, List.set_cons_succ, i64_w, i32_w]
       rfl
     refine pure_ (i := 6) (N := some 33) (v := ?_) (a' := ?_) #[true, true, true, true, true, true, true, false, true, false, false] rfl rfl (any_of HT_.out (by kernel_rfl)) (fun _ _ _ h => h) (Or.inl ⟨by rfl, ?_⟩) ?_ ?_
     rotate_left
     · intro w'
       go_simp
       with_reducible rfl
     rotate_left
     · simp only [Act.put, List.setIfInBounds_toArray, List.set_cons_zero, List.set_cons_succ, i64_w, i32_w]
       rfl
     refine pure_ (i := 7) (N := some 34) (v := ?_) (a' := ?_) #[true, true, true, true, true, true, true, true, true, false, false] rfl rfl (any_of HT_.out (by kernel_rfl)) (fun _ _ _ h => h) (Or.inl ⟨by rfl, ?_⟩) ?_ ?_
     rotate_left
     · intro w'
       go_simp
       with_reducible rfl
     rotate_left
     · simp only [Act.put, List.setIfInBounds_toArray, List.set_cons_zero, List.set_cons_succ, i64_w, i32_w]
       rfl
     exact norm_ (by simp only [putAll, Act.put, List.setIfInBounds_toArray, List.set_cons_zero, List.set_cons_succ]) (hCont (xa, xb, z, gb) _ ⟨hHeld, (All.drop3 (All.drop2 HA.out))⟩)
   refine box_step ?hg (N := 6) ?hd (cs := #[.int .i64 0, .slice none 0 0, .slice none 0 0, .slice none 0 0]) (t := 27) ?hr ?_; (case hd => rfl); (case hg => rfl); (case hr => first | (go_simp; done) | (go_simp; rfl))
   intro gb hg w23 hbox hb
   have n_ := Aside0.mk (All.box (by first | exact HA.out | exact All.drewN HA.out _ | exact All.drew HA.out) hg hbox hb)
   clear HA
   have HA := n_
   clear n_ hg hbox hb
   refine hK.out _ _ ⟨HA.out.2.2.1.1, HA.out.2.1.1⟩ (fun hHeld => ?_)
   clear hK K
   refine norm_ (a' := ?_) ?_ ?_
   rotate_left
   · show Act.put _ (some 6) _ = _
     simp only [Act.put, List.setIfInBounds_toArray, List.set_cons_zero, List.set_cons_succ, i64_w, i32_w]
     rfl
   refine one_ (i := 1) (N := some 29) #[true, true, true, false, false, false, false, false, true, false, false] rfl rfl (one_of HT_.out (by kernel_rfl)) (by decide) (fun K hK => ?_)
   refine goes_ Try.func10 (by kernel_rfl) rfl #[.agg #[.int .i64 a0_0, .slice A0_1 l0_1.length c0_1, .slice A0_2 l0_2.length c0_2, .slice A0_3 l0_3.length c0_3]] (by rfl) rfl rfl la_ ?_
   refine (toS k HR0_1.out HC0_1.out HR0_2.out HC0_2.out HR0_3.out HC0_3.out _ (by first | exact All.base HA.out | exact pw_below_drewN (All.base HA.out) _ | exact below_drew1 (All.base HA.out)) Ap.out).mono ?_
   rintro e w24 ⟨xa, rfl, hp, hb⟩
   refine ⟨_, rfl, ?_⟩
   have n_ := Aside0.mk (All.push (by first | exact HA.out | exact All.drewN HA.out _ | exact All.drew HA.out) hb (Ob.sys w.heap.size xa p2 p3 p4) hp.1 hp.2.1 hp.2.2)
   clear HA
   have HA := n_
   clear n_ hp hb
   refine hK.out _ _ ⟨HA.out.2.2.2.1.1, HA.out.2.2.1.1⟩ (fun hHeld => ?_)
   clear hK K
   refine norm_ (a' := ?_) ?_ ?_
   rotate_left
   · show Act.put _ (some 29) _ = _
     simp only [Act.put, List.setIfInBounds_toArray, List.set_cons_zero, List.set_cons_succ, i64_w, i32_w]
     rfl
   refine one_ (i := 3) (N := some 31) #[true, true, true, true, false, false, false, false, true, false, false] rfl rfl (one_of HT_.out (by kernel_rfl)) (by decide) (fun K hK => ?_)
   refine goes_ Try.func10 (by kernel_rfl) rfl #[.agg #[.int .i64 a1_0, .slice A1_1 l1_1.length c1_1, .slice A1_2 l1_2.length c1_2, .slice A1_3 l1_3.length c1_3]] (by rfl) rfl rfl la_ ?_
   refine (toS k HR1_1.out HC1_1.out HR1_2.out HC1_2.out HR1_3.out HC1_3.out _ (by first | exact All.base HA.out | exact pw_below_drewN (All.base HA.out) _ | exact below_drew1 (All.base HA.out)) Aq.out).mono ?_
   rintro e w25 ⟨xb, rfl, hp, hb⟩
   refine ⟨_, rfl, ?_⟩
   have n_ := Aside0.mk (All.push (by first | exact HA.out | exact All.drewN HA.out _ | exact All.drew HA.out) hb (Ob.sys w.heap.size xb q2 q3 q4) hp.1 hp.2.1 hp.2.2)
   clear HA
   have HA := n_
   clear n_ hp hb
   refine hK.out _ _ ⟨HA.out.2.2.2.2.1.1, HA.out.2.2.2.1.1⟩ (fun hHeld => ?_)
   clear hK K
   refine norm_ (a' := ?_) ?_ ?_
   rotate_left
   · show Act.put _ (some 31) _ = _
     simp only [Act.put, List.setIfInBounds_toArray, List.set_cons_zero, List.set_cons_succ, i64_w, i32_w]
     rfl
   refine one_ (i := 4) (N := some 32) #[true, true, true, true, true, false, false, false, true, false, false] rfl rfl (one_of HT_.out (by kernel_rfl)) (by decide) (fun K hK => ?_)
   refine goes_ Try.func9 (by kernel_rfl) rfl #[.agg #[.int .i64 p1, .slice xa.A1 xa.n1 xa.c1, .slice xa.A2 xa.n2 xa.c2, .slice xa.A3 xa.n3 xa.c3], .agg #[.int .i64 q1, .slice xb.A1 xb.n1 xb.c1, .slice xb.A2 xb.n2 xb.c2, .slice xb.A3 xb.n3 xb.c3]] (by rfl) rfl rfl la_ ?_
   refine (specPS k (by first | exact All.base HA.out | exact pw_below_drewN (All.base HA.out) _ | exact below_drew1 (All.base HA.out)) (sysP_move HA.out.2.1.1 (fun _ _ _ => rfl)) (sysP_move HA.out.1.1 (fun _ _ _ => rfl)) As.out).mono ?_
   rintro e w26 ⟨z, rfl, hp, hb⟩
   refine ⟨_, rfl, ?_⟩
   have n_ := Aside0.mk (All.push (by first | exact HA.out | exact All.drewN HA.out _ | exact All.drew HA.out) hb (Ob.sys w.heap.size z s2 s3 s4) hp.1 hp.2.1 hp.2.2)
   clear HA
   have HA := n_
   clear n_ hp hb
   refine hK.out _ _ ⟨HA.out.2.2.2.2.2.1.1, HA.out.2.2.2.2.1.1⟩ (fun hHeld => ?_)
   clear hK K
   refine norm_ (a' := ?_) ?_ ?_
   rotate_left
   · show Act.put _ (some 32) _ = _
     simp only [Act.put, List.setIfInBounds_toArray, List.set_cons_zero, List.set_cons_succ, i64_w, i32_w]
     rfl
   refine pure_ (i := 5) (N := some 27) (v := ?_) (a' := ?_) #[true, true, true, true, true, true, false, false, true, false, false] rfl rfl (any_of HT_.out (by kernel_rfl)) (fun _ _ _ h => h) (Or.inl ⟨by rfl, ?_⟩) ?_ ?_
   rotate_left
   · intro w'
     go_simp
     with_reducible rfl
   rotate_left
   · simp only [Act.put, List.setIfInBounds_toArray, List.set_cons_zero, List.set_cons_succ, i64_w, i32_w]
     rfl
   refine pure_ (i := 6) (N := some 33) (v := ?_) (a' := ?_) #[true, true, true, true, true, true, true, false, true, false, false] rfl rfl (any_of HT_.out (by kernel_rfl)) (fun _ _ _ h => h) (Or.inl ⟨by rfl, ?_⟩) ?_ ?_
   rotate_left
   · intro w'
     go_simp
     with_reducible rfl
   rotate_left
   · simp only [Act.put, List.setIfInBounds_toArray, List.set_cons_zero, List.set_cons_succ, i64_w, i32_w]
     rfl
   refine pure_ (i := 7) (N := some 34) (v := ?_) (a' := ?_) #[true, true, true, true, true, true, true, true, true, false, false] rfl rfl (any_of HT_.out (by kernel_rfl)) (fun _ _ _ h => h) (Or.inl ⟨by rfl, ?_⟩) ?_ ?_
   rotate_left
   · intro w'
     go_simp
     with_reducible rfl
   rotate_left
   · simp only [Act.put, List.setIfInBounds_toArray, List.set_cons_zero, List.set_cons_succ, i64_w, i32_w]
     rfl
   exact norm_ (by simp only [putAll, Act.put, List.setIfInBounds_toArray, List.set_cons_zero, List.set_cons_succ]) (hCont (xa, xb, z, gb) _ ⟨hHeld, (All.drop2 (All.drop2 HA.out))⟩)
 rintro ⟨xa, xb, xw, g6⟩ w27 ⟨hHeld, hA⟩
 dsimp only at hHeld hA ⊢
 clear HA
 have HA := Aside0.mk hA
 clear hA
 refine norm_ (a' := ?_) ?_ ?_
 rotate_left
 · simp only [putAll, Act.put, List.setIfInBounds_toArray, List.set_cons_zero, List.set_cons_succ]
   rfl
 refine one_ (i := 9) (N := none) #[true, true, true, true, true, true, true, true, true, true, false] rfl rfl (one_of HT_.out (by kernel_rfl)) (by decide) (fun K hK => ?_)
 obtain ⟨cz0, cz1, cz2, cz3, cz4, cz5, cz6, cz7⟩ := bf4_ HA.out.2.1.1
 have nA := All.set4 (l1 := [_]) HA.out (.int .i64 s1) (.slice xw.A1 xw.n1 xw.c1) (.slice xw.A2 xw.n2 xw.c2) (.slice xw.A3 xw.n3 xw.c3)
 refine skip_ (w1 := ?_) (by rfl) rfl ?_ ?_
 rotate_left
 · go_simp
   rfl
 refine hK.out _ _ ⟨nA.2.2.2.1.1, nA.2.2.1.1⟩ (fun hHeld => ?_)
 clear hK K
 refine gen_any (All w _) nA ?_
 clear HA nA hHeld cz0 cz1 cz2 cz3 cz4 cz5 cz6 cz7
 intro w28 hA
 have HA := Aside0.mk hA
 clear hA
 refine pure_ (i := 10) (N := some 7) (v := ?_) (a' := ?_) #[true, true, true, true, true, true, true, true, true, true, true] rfl rfl (any_of HT_.out (by kernel_rfl)) (fun _ _ _ h => h) (Or.inl ⟨by rfl, ?_⟩) ?_ ?_
 rotate_left
 · intro w'
   go_simp
   with_reducible rfl
 rotate_left
 · simp only [Act.put, List.setIfInBounds_toArray, List.set_cons_zero, List.set_cons_succ, i64_w, i32_w]
   rfl
 refine done_ (done_of HT_.out (by kernel_rfl)) ?_
 obtain ⟨ci0, ci1, ci2, ci3⟩ := bc4_ HA.out.2.2.2.1.1
 go_upto_region 10 with (first | ((with_reducible refine gate_callee (f := 10) rfl ?_); refine goesL_ (some 36) rfl rfl Try.func10 (by kernel_rfl) rfl #[.agg #[.int .i64 a0_0, .slice A0_1 l0_1.length c0_1, .slice A0_2 l0_2.length c0_2, .slice A0_3 l0_3.length c0_3]] rfl la_ ?_; (refine (toS k HR0_1.out HC0_1.out HR0_2.out HC0_2.out HR0_3.out HC0_3.out _ (by first | exact All.base HA.out | exact pw_below_drewN (All.base HA.out) _ | exact below_drew1 (All.base HA.out)) Ap.out).mono ?_); rintro e w29 ⟨x0, rfl, hp, hb⟩; refine ⟨_, rfl, ?_⟩; have n_ := Aside0.mk (All.push (by first | exact HA.out | exact All.drewN HA.out _ | exact All.drew HA.out) hb (Ob.sys w.heap.size x0 p2 p3 p4) hp.1 hp.2.1 hp.2.2); clear HA; have HA := n_; clear n_ hp hb) | ((with_reducible refine gate_dst (N := 8) rfl ?_); (try (refine gate_guard (by rfl) ?_; dsimp only)); refine box_event ?hg (N := 8) ?hd (cs := #[.int .i64 0, .slice none 0 0, .slice none 0 0, .slice none 0 0]) (t := 27) ?hr ?_; (case hd => rfl); (case hg => rfl); (case hr => first | (go_simp; done) | (go_simp; rfl)); intro g8 hg w30 hbox hb; have n_ := Aside0.mk (All.box (by first | exact HA.out | exact All.drewN HA.out _ | exact All.drew HA.out) hg hbox hb); clear HA; have HA := n_; clear n_ hg hbox hb; obtain ⟨cz0, cz1, cz2, cz3, cz4, cz5, cz6, cz7⟩ := bf4_ HA.out.1.1))
 refine gen_wp (All w _) (All.set4 (l1 := []) HA.out (.int .i64 p1) (.slice x0.A1 x0.n1 x0.c1) (.slice x0.A2 x0.n2 x0.c2) (.slice x0.A3 x0.n3 x0.c3)) ?_
 clear HA ci0 ci1 ci2 ci3 cz0 cz1 cz2 cz3 cz4 cz5 cz6 cz7
 intro w31 hA
 have HA := Aside0.mk hA
 clear hA
 obtain ⟨ci0, ci1, ci2, ci3⟩ := bc4_ HA.out.2.2.2.2.1.1
 go_upto_region 11 with (first | ((with_reducible refine gate_callee (f := 10) rfl ?_); refine goesL_ (some 38) rfl rfl Try.func10 (by kernel_rfl) rfl #[.agg #[.int .i64 a1_0, .slice A1_1 l1_1.length c1_1, .slice A1_2 l1_2.length c1_2, .slice A1_3 l1_3.length c1_3]] rfl la_ ?_; (refine (toS k HR1_1.out HC1_1.out HR1_2.out HC1_2.out HR1_3.out HC1_3.out _ (by first | exact All.base HA.out | exact pw_below_drewN (All.base HA.out) _ | exact below_drew1 (All.base HA.out)) Aq.out).mono ?_); rintro e w32 ⟨x1, rfl, hp, hb⟩; refine ⟨_, rfl, ?_⟩; have n_ := Aside0.mk (All.push (by first | exact HA.out | exact All.drewN HA.out _ | exact All.drew HA.out) hb (Ob.sys w.heap.size x1 q2 q3 q4) hp.1 hp.2.1 hp.2.2); clear HA; have HA := n_; clear n_ hp hb) | ((with_reducible refine gate_dst (N := 9) rfl ?_); (try (refine gate_guard (by rfl) ?_; dsimp only)); refine box_event ?hg (N := 9) ?hd (cs := #[.int .i64 0, .slice none 0 0, .slice none 0 0, .slice none 0 0]) (t := 27) ?hr ?_; (case hd => rfl); (case hg => rfl); (case hr => first | (go_simp; done) | (go_simp; rfl)); intro g9 hg w33 hbox hb; have n_ := Aside0.mk (All.box (by first | exact HA.out | exact All.drewN HA.out _ | exact All.drew HA.out) hg hbox hb); clear HA; have HA := n_; clear n_ hg hbox hb; obtain ⟨cz0, cz1, cz2, cz3, cz4, cz5, cz6, cz7⟩ := bf4_ HA.out.1.1))
 refine gen_wp (All w _) (All.set4 (l1 := []) HA.out (.int .i64 q1) (.slice x1.A1 x1.n1 x1.c1) (.slice x1.A2 x1.n2 x1.c2) (.slice x1.A3 x1.n3 x1.c3)) ?_
 clear HA ci0 ci1 ci2 ci3 cz0 cz1 cz2 cz3 cz4 cz5 cz6 cz7
 intro w34 hA
 have HA := Aside0.mk hA
 clear hA
 obtain ⟨ci0, ci1, ci2, ci3⟩ := bc4_ HA.out.2.2.1.1
 obtain ⟨cj0, cj1, cj2, cj3⟩ := bc4_ HA.out.1.1
 go_upto_region 12 with (first | ((with_reducible refine gate_callee (f := 11) rfl ?_); refine goesL_ (some 42) rfl rfl Try.func11 (by kernel_rfl) rfl #[.agg #[.int .i64 p1, .slice x0.A1 x0.n1 x0.c1, .slice x0.A2 x0.n2 x0.c2, .slice x0.A3 x0.n3 x0.c3], .agg #[.int .i64 q1, .slice x1.A1 x1.n1 x1.c1, .slice x1.A2 x1.n2 x1.c2, .slice x1.A3 x1.n3 x1.c3]] rfl la_ ?_; (refine (implPS k (by first | exact All.base HA.out | exact pw_below_drewN (All.base HA.out) _ | exact below_drew1 (All.base HA.out)) (sysP_move HA.out.2.2.2.1.1 (fun _ _ _ => rfl)) (sysP_move HA.out.2.1.1 (fun _ _ _ => rfl)) Ag.out).mono ?_); rintro e w35 ⟨xg, rfl, hp, hb⟩; refine ⟨_, rfl, ?_⟩; have n_ := Aside0.mk (All.push (by first | exact HA.out | exact All.drewN HA.out _ | exact All.drew HA.out) hb (Ob.sys w.heap.size xg g2' g3' g4) hp.1 hp.2.1 hp.2.2); clear HA; have HA := n_; clear n_ hp hb) | ((with_reducible refine gate_dst (N := 10) rfl ?_); (try (refine gate_guard (by rfl) ?_; dsimp only)); refine box_event ?hg (N := 10) ?hd (cs := #[.int .i64 0, .slice none 0 0, .slice none 0 0, .slice none 0 0]) (t := 27) ?hr ?_; (case hd => rfl); (case hg => rfl); (case hr => first | (go_simp; done) | (go_simp; rfl)); intro g10 hg w36 hbox hb; have n_ := Aside0.mk (All.box (by first | exact HA.out | exact All.drewN HA.out _ | exact All.drew HA.out) hg hbox hb); clear HA; have HA := n_; clear n_ hg hbox hb; obtain ⟨cz0, cz1, cz2, cz3, cz4, cz5, cz6, cz7⟩ := bf4_ HA.out.1.1))
 refine gen_wp (All w _) (All.set4 (l1 := []) HA.out (.int .i64 g1) (.slice xg.A1 xg.n1 xg.c1) (.slice xg.A2 xg.n2 xg.c2) (.slice xg.A3 xg.n3 xg.c3)) ?_
 clear HA ci0 ci1 ci2 ci3 cj0 cj1 cj2 cj3 cz0 cz1 cz2 cz3 cz4 cz5 cz6 cz7
 intro w37 hA
 have HA := Aside0.mk hA
 clear hA
 obtain ⟨ci0, ci1, ci2, ci3⟩ := bc4_ HA.out.1.1
 obtain ⟨cj0, cj1, cj2, cj3⟩ := bc4_ HA.out.2.2.2.2.2.2.2.1.1
 go_wp2_with (first | ((with_reducible refine gate_callee (f := 12) rfl ?_); refine goesL_ (some 47) rfl rfl Try.func12 (by kernel_rfl) rfl #[.agg #[.int .i64 g1, .slice xg.A1 xg.n1 xg.c1, .slice xg.A2 xg.n2 xg.c2, .slice xg.A3 xg.n3 xg.c3], .agg #[.int .i64 s1, .slice xw.A1 xw.n1 xw.c1, .slice xw.A2 xw.n2 xw.c2, .slice xw.A3 xw.n3 xw.c3]] rfl la_ ?_; (refine (eqS k (sysP_move HA.out.2.1.1 (fun _ _ _ => rfl)) (sysP_move HA.out.2.2.2.2.2.2.1.1 (fun _ _ _ => rfl)) Ae1.out).mono ?_); rintro e w38 ⟨rfl, hb⟩; refine ⟨_, rfl, ?_⟩; have n_ := Aside0.mk (All.below (by first | exact HA.out | exact All.drewN HA.out _ | exact All.drew HA.out) hb); clear HA; have HA := n_; clear n_ hb))
 clear ci0 ci1 ci2 ci3 cj0 cj1 cj2 cj3
 replace HA := Aside0.mk (All.drew HA.out)
 refine start_ (n := 5) (S := (fun w' => w'.heap[g8]? = some (.cells #[.int .i64 p1, .slice x0.A1 x0.n1 x0.c1, .slice x0.A2 x0.n2 x0.c2, .slice x0.A3 x0.n3 x0.c3] 27 (0, 0)) ∧ w'.heap[g2]? = some (.cells #[.int .i64 a0_0, .slice A0_1 l0_1.length c0_1, .slice A0_2 l0_2.length c0_2, .slice A0_3 l0_3.length c0_3] 25 (0, 0)))) (ds := []) #[false, false, false, false, false] (by kernel_rfl) rfl rfl ⟨HA.out.2.2.2.2.1.1, HA.out.2.2.2.2.2.2.2.2.2.1.1⟩ (fun hHeld => ?_)
 generalize w38.drew = w39 at HA hHeld ⊢
 refine take_ (i := 0) (N := some 54) (v := ?_) (a' := ?_) #[true, false, false, false, false] rfl rfl (by kernel_rfl) (fun _ _ _ h => h) (Or.inl ⟨by rfl, ?_⟩) hHeld ?_ ?_
 rotate_left
 · rintro w' ⟨s0, s1⟩
   obtain ⟨q0, q1, q2, q3⟩ := bc4_ s0
   go_simp
   with_reducible rfl
 rotate_left
 · simp only [Act.put, List.setIfInBounds_toArray, List.set_cons_zero, List.set_cons_succ, i64_w, i32_w]
   rfl
 refine take_ (i := 1) (N := some 55) (v := ?_) (a' := ?_) #[true, true, false, false, false] rfl rfl (by kernel_rfl) (fun _ _ _ h => h) (Or.inl ⟨by rfl, ?_⟩) hHeld ?_ ?_
 rotate_left
 · rintro w' ⟨s0, s1⟩
   obtain ⟨q0, q1, q2, q3⟩ := bc4_ s1
   go_simp
   with_reducible rfl
 rotate_left
 · simp only [Act.put, List.setIfInBounds_toArray, List.set_cons_zero, List.set_cons_succ, i64_w, i32_w]
   rfl
 refine one_ (i := 2) (N := some 56) #[true, true, true, false, false] rfl rfl (by kernel_rfl) (by decide) (fun K hK => ?_)
 refine goes_ Try.func10 (by kernel_rfl) rfl #[.agg #[.int .i64 a0_0, .slice A0_1 l0_1.length c0_1, .slice A0_2 l0_2.length c0_2, .slice A0_3 l0_3.length c0_3]] (by rfl) rfl rfl la_ ?_
 refine (toS k HR0_1.out HC0_1.out HR0_2.out HC0_2.out HR0_3.out HC0_3.out _ (by first | exact All.base HA.out | exact pw_below_drewN (All.base HA.out) _ | exact below_drew1 (All.base HA.out)) Ap.out).mono ?_
 rintro e w40 ⟨xt, rfl, hp, hb⟩
 refine ⟨_, rfl, ?_⟩
 have n_ := Aside0.mk (All.push (by first | exact HA.out | exact All.drewN HA.out _ | exact All.drew HA.out) hb (Ob.sys w.heap.size xt p2 p3 p4) hp.1 hp.2.1 hp.2.2)
 clear HA
 have HA := n_
 clear n_ hp hb
 refine hK.out _ _ ⟨HA.out.2.2.2.2.2.1.1, HA.out.2.2.2.2.2.2.2.2.2.2.1.1⟩ (fun hHeld => ?_)
 clear hK K
 refine norm_ (a' := ?_) ?_ ?_
 rotate_left
 · show Act.put _ (some 56) _ = _
   simp only [Act.put, List.setIfInBounds_toArray, List.set_cons_zero, List.set_cons_succ, i64_w, i32_w]
   rfl
 refine one_ (i := 3) (N := some 57) #[true, true, true, true, false] rfl rfl (by kernel_rfl) (by decide) (fun K hK => ?_)
 refine goes_ Try.func12 (by kernel_rfl) rfl #[.agg #[.int .i64 p1, .slice x0.A1 x0.n1 x0.c1, .slice x0.A2 x0.n2 x0.c2, .slice x0.A3 x0.n3 x0.c3], .agg #[.int .i64 p1, .slice xt.A1 xt.n1 xt.c1, .slice xt.A2 xt.n2 xt.c2, .slice xt.A3 xt.n3 xt.c3]] (by rfl) rfl rfl la_ ?_
 refine (eqS k (sysP_move HA.out.2.2.2.2.2.2.1.1 (fun _ _ _ => rfl)) (sysP_move HA.out.1.1 (fun _ _ _ => rfl)) Ae2.out).mono ?_
 rintro e w41 ⟨rfl, hb⟩
 refine ⟨_, rfl, ?_⟩
 have n_ := Aside0.mk (All.below (by first | exact HA.out | exact All.drewN HA.out _ | exact All.drew HA.out) hb)
 clear HA
 have HA := n_
 clear n_ hb
 refine hK.out _ _ ⟨HA.out.2.2.2.2.2.1.1, HA.out.2.2.2.2.2.2.2.2.2.2.1.1⟩ (fun hHeld => ?_)
 clear hK K
 refine norm_ (a' := ?_) ?_ ?_
 rotate_left
 · show Act.put _ (some 57) _ = _
   simp only [Act.put, List.setIfInBounds_toArray, List.set_cons_zero, List.set_cons_succ, i64_w, i32_w]
   rfl
 refine pure_ (i := 4) (N := some 58) (v := ?_) (a' := ?_) #[true, true, true, true, true] rfl rfl (by kernel_rfl) (fun _ _ _ h => h) (Or.inl ⟨by rfl, ?_⟩) ?_ ?_
 rotate_left
 · intro w'
   go_simp
   with_reducible rfl
 rotate_left
 · simp only [Act.put, List.setIfInBounds_toArray, List.set_cons_zero, List.set_cons_succ, i64_w, i32_w]
   rfl
 refine done_ (by kernel_rfl) ?_
 have n_ := Aside0.mk (HA.out.2)
 clear HA hHeld
 have HA := n_
 clear n_
 go_wp2
 replace HA := Aside0.mk (All.drew HA.out)
 refine start_ (n := 5) (S := (fun w' => w'.heap[g9]? = some (.cells #[.int .i64 q1, .slice x1.A1 x1.n1 x1.c1, .slice x1.A2 x1.n2 x1.c2, .slice x1.A3 x1.n3 x1.c3] 27 (0, 0)) ∧ w'.heap[g3]? = some (.cells #[.int .i64 a1_0, .slice A1_1 l1_1.length c1_1, .slice A1_2 l1_2.length c1_2, .slice A1_3 l1_3.length c1_3] 25 (0, 0)))) (ds := []) #[false, false, false, false, false] (by kernel_rfl) rfl rfl ⟨HA.out.2.2.1.1, HA.out.2.2.2.2.2.2.2.2.1.1⟩ (fun hHeld => ?_)
 generalize w41.drew = w42 at HA hHeld ⊢
 refine take_ (i := 0) (N := some 59) (v := ?_) (a' := ?_) #[true, false, false, false, false] rfl rfl (by kernel_rfl) (fun _ _ _ h => h) (Or.inl ⟨by rfl, ?_⟩) hHeld ?_ ?_
 rotate_left
 · rintro w' ⟨s0, s1⟩
   obtain ⟨q0, q1, q2, q3⟩ := bc4_ s0
   go_simp
   with_reducible rfl
 rotate_left
 · simp only [Act.put, List.setIfInBounds_toArray, List.set_cons_zero, List.set_cons_succ, i64_w, i32_w]
   rfl
 refine take_ (i := 1) (N := some 60) (v := ?_) (a' := ?_) #[true, true, false, false, false] rfl rfl (by kernel_rfl) (fun _ _ _ h => h) (Or.inl ⟨by rfl, ?_⟩) hHeld ?_ ?_
 rotate_left
 · rintro w' ⟨s0, s1⟩
   obtain ⟨q0, q1, q2, q3⟩ := bc4_ s1
   go_simp
   with_reducible rfl
 rotate_left
 · simp only [Act.put, List.setIfInBounds_toArray, List.set_cons_zero, List.set_cons_succ, i64_w, i32_w]
   rfl
 refine one_ (i := 2) (N := some 61) #[true, true, true, false, false] rfl rfl (by kernel_rfl) (by decide) (fun K hK => ?_)
 refine goes_ Try.func10 (by kernel_rfl) rfl #[.agg #[.int .i64 a1_0, .slice A1_1 l1_1.length c1_1, .slice A1_2 l1_2.length c1_2, .slice A1_3 l1_3.length c1_3]] (by rfl) rfl rfl la_ ?_
 refine (toS k HR1_1.out HC1_1.out HR1_2.out HC1_2.out HR1_3.out HC1_3.out _ (by first | exact All.base HA.out | exact pw_below_drewN (All.base HA.out) _ | exact below_drew1 (All.base HA.out)) Aq.out).mono ?_
 rintro e w43 ⟨xt, rfl, hp, hb⟩
 refine ⟨_, rfl, ?_⟩
 have n_ := Aside0.mk (All.push (by first | exact HA.out | exact All.drewN HA.out _ | exact All.drew HA.out) hb (Ob.sys w.heap.size xt q2 q3 q4) hp.1 hp.2.1 hp.2.2)
 clear HA
 have HA := n_
 clear n_ hp hb
 refine hK.out _ _ ⟨HA.out.2.2.2.1.1, HA.out.2.2.2.2.2.2.2.2.2.1.1⟩ (fun hHeld => ?_)
 clear hK K
 refine norm_ (a' := ?_) ?_ ?_
 rotate_left
 · show Act.put _ (some 61) _ = _
   simp only [Act.put, List.setIfInBounds_toArray, List.set_cons_zero, List.set_cons_succ, i64_w, i32_w]
   rfl
 refine one_ (i := 3) (N := some 62) #[true, true, true, true, false] rfl rfl (by kernel_rfl) (by decide) (fun K hK => ?_)
 refine goes_ Try.func12 (by kernel_rfl) rfl #[.agg #[.int .i64 q1, .slice x1.A1 x1.n1 x1.c1, .slice x1.A2 x1.n2 x1.c2, .slice x1.A3 x1.n3 x1.c3], .agg #[.int .i64 q1, .slice xt.A1 xt.n1 xt.c1, .slice xt.A2 xt.n2 xt.c2, .slice xt.A3 xt.n3 xt.c3]] (by rfl) rfl rfl la_ ?_
 refine (eqS k (sysP_move HA.out.2.2.2.2.1.1 (fun _ _ _ => rfl)) (sysP_move HA.out.1.1 (fun _ _ _ => rfl)) Ae3.out).mono ?_
 rintro e w44 ⟨rfl, hb⟩
 refine ⟨_, rfl, ?_⟩
 have n_ := Aside0.mk (All.below (by first | exact HA.out | exact All.drewN HA.out _ | exact All.drew HA.out) hb)
 clear HA
 have HA := n_
 clear n_ hb
 refine hK.out _ _ ⟨HA.out.2.2.2.1.1, HA.out.2.2.2.2.2.2.2.2.2.1.1⟩ (fun hHeld => ?_)
 clear hK K
 refine norm_ (a' := ?_) ?_ ?_
 rotate_left
 · show Act.put _ (some 62) _ = _
   simp only [Act.put, List.setIfInBounds_toArray, List.set_cons_zero, List.set_cons_succ, i64_w, i32_w]
   rfl
 refine pure_ (i := 4) (N := some 63) (v := ?_) (a' := ?_) #[true, true, true, true, true] rfl rfl (by kernel_rfl) (fun _ _ _ h => h) (Or.inl ⟨by rfl, ?_⟩) ?_ ?_
 rotate_left
 · intro w'
   go_simp
   with_reducible rfl
 rotate_left
 · simp only [Act.put, List.setIfInBounds_toArray, List.set_cons_zero, List.set_cons_succ, i64_w, i32_w]
   rfl
 refine done_ (by kernel_rfl) ?_
 have n_ := Aside0.mk (HA.out.2)
 clear HA hHeld
 have HA := n_
 clear n_
 go_upto_region 19 with (fail)
 obtain ⟨ci0, ci1, ci2, ci3⟩ := bc4_ HA.out.2.2.2.2.1.1
 go_upto_region 20 with (first | ((with_reducible refine gate_callee (f := 13) rfl ?_); refine goesL_ (some 66) rfl rfl Try.func13 (by kernel_rfl) rfl #[.agg #[.int .i64 p1, .slice x0.A1 x0.n1 x0.c1, .slice x0.A2 x0.n2 x0.c2, .slice x0.A3 x0.n3 x0.c3], .int .i64 1] rfl la_ ?_; (refine (markS k (by first | exact All.base HA.out | exact pw_below_drewN (All.base HA.out) _ | exact below_drew1 (All.base HA.out)) (sysP_move HA.out.2.2.2.2.2.1.1 (fun _ _ _ => rfl)) Am.out).mono ?_); rintro e w45 ⟨rfl, hp, hb, hk⟩; refine ⟨_, rfl, ?_⟩; have n_ := Aside0.mk (All.mark (l1 := [_, _, _, _, _]) (o := Ob.sys w.heap.size x0 p2 p3 p4) (o' := Ob.sys w.heap.size x0 m2 m3 m4) hk (fun _ => hb) (fun _ h => h) rfl rfl hp (by first | exact HA.out | exact All.drewN HA.out _ | exact All.drew HA.out)); clear HA; have HA := n_; clear n_ hp hb hk))
 clear ci0 ci1 ci2 ci3
 obtain ⟨ci0, ci1, ci2, ci3⟩ := bc4_ HA.out.2.2.1.1
 go_upto_region 21 with (first | ((with_reducible refine gate_callee (f := 13) rfl ?_); refine goesL_ (some 69) rfl rfl Try.func13 (by kernel_rfl) rfl #[.agg #[.int .i64 q1, .slice x1.A1 x1.n1 x1.c1, .slice x1.A2 x1.n2 x1.c2, .slice x1.A3 x1.n3 x1.c3], .int .i64 m1] rfl la_ ?_; (refine (markS k (by first | exact All.base HA.out | exact pw_below_drewN (All.base HA.out) _ | exact below_drew1 (All.base HA.out)) (sysP_move HA.out.2.2.2.1.1 (fun _ _ _ => rfl)) An.out).mono ?_); rintro e w46 ⟨rfl, hp, hb, hk⟩; refine ⟨_, rfl, ?_⟩; have n_ := Aside0.mk (All.mark (l1 := [_, _, _]) (o := Ob.sys w.heap.size x1 q2 q3 q4) (o' := Ob.sys w.heap.size x1 n2 n3 n4) hk (fun _ => hb) (fun _ h => h) rfl rfl hp (by first | exact HA.out | exact All.drewN HA.out _ | exact All.drew HA.out)); clear HA; have HA := n_; clear n_ hp hb hk))
 clear ci0 ci1 ci2 ci3
 obtain ⟨ci0, ci1, ci2, ci3⟩ := bc4_ HA.out.1.1
 obtain ⟨cj0, cj1, cj2, cj3⟩ := bc4_ HA.out.2.2.2.2.2.2.2.1.1
 go_upto_region 24 with (first | (go_at_call 12; (refine (eqS k (sysP_move HA.out.2.1.1 (fun _ _ _ => rfl)) (sysP_move HA.out.2.2.2.2.2.2.1.1 (fun _ _ _ => rfl)) Ae1.out).mono ?_); rintro e w47 ⟨rfl, hb⟩; have n_ := Aside0.mk (All.below (by first | exact HA.out | exact All.drewN HA.out _ | exact All.drew HA.out) hb); clear HA; have HA := n_; clear n_ hb) | ((with_reducible refine gate_callee (f := 12) rfl ?_); refine goesL_ (some 75) rfl rfl Try.func12 (by kernel_rfl) rfl #[.agg #[.int .i64 g1, .slice xg.A1 xg.n1 xg.c1, .slice xg.A2 xg.n2 xg.c2, .slice xg.A3 xg.n3 xg.c3], .agg #[.int .i64 s1, .slice xw.A1 xw.n1 xw.c1, .slice xw.A2 xw.n2 xw.c2, .slice xw.A3 xw.n3 xw.c3]] rfl la_ ?_; (refine (eqS k (sysP_move HA.out.2.1.1 (fun _ _ _ => rfl)) (sysP_move HA.out.2.2.2.2.2.2.1.1 (fun _ _ _ => rfl)) Ae1.out).mono ?_); rintro e w47 ⟨rfl, hb⟩; refine ⟨_, rfl, ?_⟩; have n_ := Aside0.mk (All.below (by first | exact HA.out | exact All.drewN HA.out _ | exact All.drew HA.out) hb); clear HA; have HA := n_; clear n_ hb))
 clear ci0 ci1 ci2 ci3 cj0 cj1 cj2 cj3
 obtain ⟨ci0, ci1, ci2, ci3⟩ := bc4_ HA.out.1.1
 go_upto_region 26 with (first | ((with_reducible refine gate_callee (f := 13) rfl ?_); refine goesL_ (some 85) rfl rfl Try.func13 (by kernel_rfl) rfl #[.agg #[.int .i64 g1, .slice xg.A1 xg.n1 xg.c1, .slice xg.A2 xg.n2 xg.c2, .slice xg.A3 xg.n3 xg.c3], .int .i64 1] rfl la_ ?_; (refine (markS k (by first | exact All.base HA.out | exact pw_below_drewN (All.base HA.out) _ | exact below_drew1 (All.base HA.out)) (sysP_move HA.out.2.1.1 (fun _ _ _ => rfl)) Au.out).mono ?_); rintro e w48 ⟨rfl, hp, hb, hk⟩; refine ⟨_, rfl, ?_⟩; have n_ := Aside0.mk (All.mark (l1 := [_]) (o := Ob.sys w.heap.size xg g2' g3' g4) (o' := Ob.sys w.heap.size xg u2 u3 u4) hk (fun _ => hb) (fun _ h => h) rfl rfl hp (by first | exact HA.out | exact All.drewN HA.out _ | exact All.drew HA.out)); clear HA; have HA := n_; clear n_ hp hb hk))
 clear ci0 ci1 ci2 ci3
 obtain ⟨ci0, ci1, ci2, ci3⟩ := bc4_ HA.out.1.1
 go_wp2_with (first | ((with_reducible refine gate_callee (f := 14) rfl ?_); refine goesL_ (some 88) rfl rfl Try.func14 (by kernel_rfl) rfl #[.agg #[.int .i64 g1, .slice xg.A1 xg.n1 xg.c1, .slice xg.A2 xg.n2 xg.c2, .slice xg.A3 xg.n3 xg.c3], .int .i64 1] rfl la_ ?_; (refine (heldS k (sysP_move HA.out.2.1.1 (fun _ _ _ => rfl)) Ah.out).mono ?_); rintro e w49 ⟨rfl, hb⟩; refine ⟨_, rfl, ?_⟩; have n_ := Aside0.mk (All.below (by first | exact HA.out | exact All.drewN HA.out _ | exact All.drew HA.out) hb); clear HA; have HA := n_; clear n_ hb))
 clear ci0 ci1 ci2 ci3
 replace HA := Aside0.mk (All.drew HA.out)
 refine start_ (n := 11) (S := (fun w' => w'.heap[g2]? = some (.cells #[.int .i64 a0_0, .slice A0_1 l0_1.length c0_1, .slice A0_2 l0_2.length c0_2, .slice A0_3 l0_3.length c0_3] 25 (0, 0)) ∧ w'.heap[g3]? = some (.cells #[.int .i64 a1_0, .slice A1_1 l1_1.length c1_1, .slice A1_2 l1_2.length c1_2, .slice A1_3 l1_3.length c1_3] 25 (0, 0)))) (ds := []) #[false, false, false, false, false, false, false, false, false, false, false] (by kernel_rfl) rfl rfl ⟨HA.out.2.2.2.2.2.2.2.2.2.1.1, HA.out.2.2.2.2.2.2.2.2.1.1⟩ (fun hHeld => ?_); refine with_tabW laws_FnExactProductSystem.tab31 laws_FnExactProductSystem.bits31 (fun HT_ HW_ => ?_)
 generalize w49.drew = w50 at HA hHeld ⊢
 refine take_ (i := 0) (N := some 95) (v := ?_) (a' := ?_) #[true, false, false, false, false, false, false, false, false, false, false] rfl rfl (take_ofW HT_.out HW_.out (by kernel_rfl)) (fun _ _ _ h => h) (Or.inl ⟨by rfl, ?_⟩) hHeld ?_ ?_
 rotate_left
 · rintro w' ⟨s0, s1⟩
   obtain ⟨q0, q1, q2, q3⟩ := bc4_ s0
   go_simp
   with_reducible rfl
 rotate_left
 · simp only [Act.put, List.setIfInBounds_toArray, List.set_cons_zero, List.set_cons_succ, i64_w, i32_w]
   rfl
 refine take_ (i := 2) (N := some 97) (v := ?_) (a' := ?_) #[true, false, true, false, false, false, false, false, false, false, false] rfl rfl (take_ofW HT_.out HW_.out (by kernel_rfl)) (fun _ _ _ h => h) (Or.inl ⟨by rfl, ?_⟩) hHeld ?_ ?_
 rotate_left
 · rintro w' ⟨s0, s1⟩
   obtain ⟨q0, q1, q2, q3⟩ := bc4_ s1
   go_simp
   with_reducible rfl
 rotate_left
 · simp only [Act.put, List.setIfInBounds_toArray, List.set_cons_zero, List.set_cons_succ, i64_w, i32_w]
   rfl
 refine join_ (σ := Sx × Sx × Sx × Nat) 2 #[true, true, true, true, true, true, true, true, true, false, false] (fun s_ => [(96, .agg #[.int .i64 p1, .slice s_.1.A1 s_.1.n1 s_.1.c1, .slice s_.1.A2 s_.1.n2 s_.1.c2, .slice s_.1.A3 s_.1.n3 s_.1.c3]), (98, .agg #[.int .i64 q1, .slice s_.2.1.A1 s_.2.1.n1 s_.2.1.c1, .slice s_.2.1.A2 s_.2.1.n2 s_.2.1.c2, .slice s_.2.1.A3 s_.2.1.n3 s_.2.1.c3]), (99, (.tuple #[.agg #[.int .i64 g1, .slice s_.2.2.1.A1 s_.2.2.1.n1 s_.2.2.1.c1, .slice s_.2.2.1.A2 s_.2.2.1.n2 s_.2.2.1.c2, .slice s_.2.2.1.A3 s_.2.2.1.n3 s_.2.2.1.c3], .bool g5])), (15, .pointer (some ⟨s_.2.2.2, 0, none⟩)), (94, (.tuple #[.agg #[.int .i64 g1, .slice s_.2.2.1.A1 s_.2.2.1.n1 s_.2.2.1.c1, .slice s_.2.2.1.A2 s_.2.2.1.n2 s_.2.2.1.c2, .slice s_.2.2.1.A3 s_.2.2.1.n3 s_.2.2.1.c3], .bool g5])), (100, .agg #[.int .i64 g1, .slice s_.2.2.1.A1 s_.2.2.1.n1 s_.2.2.1.c1, .slice s_.2.2.1.A2 s_.2.2.1.n2 s_.2.2.1.c2, .slice s_.2.2.1.A3 s_.2.2.1.n3 s_.2.2.1.c3]), (101, .bool g5)]) (fun s_ w' => (fun w' => w'.heap[g2]? = some (.cells #[.int .i64 a0_0, .slice A0_1 l0_1.length c0_1, .slice A0_2 l0_2.length c0_2, .slice A0_3 l0_3.length c0_3] 25 (0, 0)) ∧ w'.heap[g3]? = some (.cells #[.int .i64 a1_0, .slice A1_1 l1_1.length c1_1, .slice A1_2 l1_2.length c1_2, .slice A1_3 l1_3.length c1_3] 25 (0, 0))) w' ∧ All w [Ob.sys w.heap.size s_.2.2.1 g2' g3' g4, Ob.box s_.2.2.2 #[.int .i64 0, .slice none 0 0, .slice none 0 0, .slice none 0 0] 27, Ob.box g10 #[.int .i64 g1, .slice xg.A1 xg.n1 xg.c1, .slice xg.A2 xg.n2 xg.c2, .slice xg.A3 xg.n3 xg.c3] 27, Ob.sys w.heap.size xg u2 u3 u4, Ob.box g9 #[.int .i64 q1, .slice x1.A1 x1.n1 x1.c1, .slice x1.A2 x1.n2 x1.c2, .slice x1.A3 x1.n3 x1.c3] 27, Ob.sys w.heap.size x1 n2 n3 n4, Ob.box g8 #[.int .i64 p1, .slice x0.A1 x0.n1 x0.c1, .slice x0.A2 x0.n2 x0.c2, .slice x0.A3 x0.n3 x0.c3] 27, Ob.sys w.heap.size x0 m2 m3 m4, Ob.sys w.heap.size xw s2 s3 s4, Ob.box g6 #[.int .i64 s1, .slice xw.A1 xw.n1 xw.c1, .slice xw.A2 xw.n2 xw.c2, .slice xw.A3 xw.n3 xw.c3] 27, Ob.box g3 #[.int .i64 a1_0, .slice A1_1 l1_1.length c1_1, .slice A1_2 l1_2.length c1_2, .slice A1_3 l1_3.length c1_3] 25, Ob.box g2 #[.int .i64 a0_0, .slice A0_1 l0_1.length c0_1, .slice A0_2 l0_2.length c0_2, .slice A0_3 l0_3.length c0_3] 25] w') ?_ ?_
 rotate_left
 · intro hCont
   refine two_ (i := 1) (j := 8) (Ni := some 96) (Nj := some 15) #[true, true, true, false, false, false, false, false, false, false, false] #[true, false, true, false, false, false, false, false, true, false, false] rfl rfl rfl rfl (two_of HT_.out (by kernel_rfl)) (by decide) (by decide) (fun K hK => ?_) (fun K hK => ?_)
   · skip
     refine goes_ Try.func10 (by kernel_rfl) rfl #[.agg #[.int .i64 a0_0, .slice A0_1 l0_1.length c0_1, .slice A0_2 l0_2.length c0_2, .slice A0_3 l0_3.length c0_3]] (by rfl) rfl rfl la_ ?_
     refine (toS k HR0_1.out HC0_1.out HR0_2.out HC0_2.out HR0_3.out HC0_3.out _ (by first | exact All.base HA.out | exact pw_below_drewN (All.base HA.out) _ | exact below_drew1 (All.base HA.out)) Ap.out).mono ?_
     rintro e w51 ⟨xa, rfl, hp, hb⟩
     refine ⟨_, rfl, ?_⟩
     have n_ := Aside0.mk (All.push (by first | exact HA.out | exact All.drewN HA.out _ | exact All.drew HA.out) hb (Ob.sys w.heap.size xa p2 p3 p4) hp.1 hp.2.1 hp.2.2)
     clear HA
     have HA := n_
     clear n_ hp hb
     refine hK.out _ _ ⟨HA.out.2.2.2.2.2.2.2.2.2.2.1.1, HA.out.2.2.2.2.2.2.2.2.2.1.1⟩ (fun hHeld => ?_)
     clear hK K
     refine norm_ (a' := ?_) ?_ ?_
     rotate_left
     · show Act.put _ (some 96) _ = _
       simp only [Act.put, List.setIfInBounds_toArray, List.set_cons_zero, List.set_cons_succ, i64_w, i32_w]
       rfl
     refine two_ (i := 3) (j := 8) (Ni := some 98) (Nj := some 15) #[true, true, true, true, false, false, false, false, false, false, false] #[true, true, true, false, false, false, false, false, true, false, false] rfl rfl rfl rfl (two_of HT_.out (by kernel_rfl)) (by decide) (by decide) (fun K hK => ?_) (fun K hK => ?_)
     · skip
       refine goes_ Try.func10 (by kernel_rfl) rfl #[.agg #[.int .i64 a1_0, .slice A1_1 l1_1.length c1_1, .slice A1_2 l1_2.length c1_2, .slice A1_3 l1_3.length c1_3]] (by rfl) rfl rfl la_ ?_
       refine (toS k HR1_1.out HC1_1.out HR1_2.out HC1_2.out HR1_3.out HC1_3.out _ (by first | exact All.base HA.out | exact pw_below_drewN (All.base HA.out) _ | exact below_drew1 (All.base HA.out)) Aq.out).mono ?_
       rintro e w52 ⟨xb, rfl, hp, hb⟩
       refine ⟨_, rfl, ?_⟩
       have n_ := Aside0.mk (All.push (by first | exact HA.out | exact All.drewN HA.out _ | exact All.drew HA.out) hb (Ob.sys w.heap.size xb q2 q3 q4) hp.1 hp.2.1 hp.2.2)
       clear HA
       have HA := n_
       clear n_ hp hb
       refine hK.out _ _ ⟨HA.out.2.2.2.2.2.2.2.2.2.2.2.1.1, HA.out.2.2.2.2.2.2.2.2.2.2.1.1⟩ (fun hHeld => ?_)
       clear hK K
       refine norm_ (a' := ?_) ?_ ?_
       rotate_left
       · show Act.put _ (some 98) _ = _
         simp only [Act.put, List.setIfInBounds_toArray, List.set_cons_zero, List.set_cons_succ, i64_w, i32_w]
         rfl
       refine two_ (i := 4) (j := 8) (Ni := some 99) (Nj := some 15) #[true, true, true, true, true, false, false, false, false, false, false] #[true, true, true, true, false, false, false, false, true, false, false] rfl rfl rfl rfl (two_of HT_.out (by kernel_rfl)) (by decide) (by decide) (fun K hK => ?_) (fun K hK => ?_)
       · skip
         refine goes_ Try.func11 (by kernel_rfl) rfl #[.agg #[.int .i64 p1, .slice xa.A1 xa.n1 xa.c1, .slice xa.A2 xa.n2 xa.c2, .slice xa.A3 xa.n3 xa.c3], .agg #[.int .i64 q1, .slice xb.A1 xb.n1 xb.c1, .slice xb.A2 xb.n2 xb.c2, .slice xb.A3 xb.n3 xb.c3]] (by rfl) rfl rfl la_ ?_
         refine (implPS k (by first | exact All.base HA.out | exact pw_below_drewN (All.base HA.out) _ | exact below_drew1 (All.base HA.out)) (sysP_move HA.out.2.1.1 (fun _ _ _ => rfl)) (sysP_move HA.out.1.1 (fun _ _ _ => rfl)) Ag.out).mono ?_
         rintro e w53 ⟨z, rfl, hp, hb⟩
         refine ⟨_, rfl, ?_⟩
         have n_ := Aside0.mk (All.push (by first | exact HA.out | exact All.drewN HA.out _ | exact All.drew HA.out) hb (Ob.sys w.heap.size z g2' g3' g4) hp.1 hp.2.1 hp.2.2)
         clear HA
         have HA := n_
         clear n_ hp hb
         refine hK.out _ _ ⟨HA.out.2.2.2.2.2.2.2.2.2.2.2.2.1.1, HA.out.2.2.2.2.2.2.2.2.2.2.2.1.1⟩ (fun hHeld => ?_)
         clear hK K
         refine norm_ (a' := ?_) ?_ ?_
         rotate_left
         · show Act.put _ (some 99) _ = _
           simp only [Act.put, List.setIfInBounds_toArray, List.set_cons_zero, List.set_cons_succ, i64_w, i32_w]
           rfl
         refine pure_ (i := 5) (N := some 94) (v := ?_) (a' := ?_) #[true, true, true, true, true, true, false, false, false, false, false] rfl rfl (any_of HT_.out (by kernel_rfl)) (fun _ _ _ h => h) (Or.inl ⟨by rfl, ?_⟩) ?_ ?_
         rotate_left
         · intro w'
           go_simp
           with_reducible rfl
         rotate_left
         · simp only [Act.put, List.setIfInBounds_toArray, List.set_cons_zero, List.set_cons_succ, i64_w, i32_w]
           rfl
         refine pure_ (i := 6) (N := some 100) (v := ?_) (a' := ?_) #[true, true, true, true, true, true, true, false, false, false, false] rfl rfl (any_of HT_.out (by kernel_rfl)) (fun _ _ _ h => h) (Or.inl ⟨by rfl, ?_⟩) ?_ ?_
         rotate_left
         · intro w'
           go_simp
           with_reducible rfl
         rotate_left
         · simp only [Act.put, List.setIfInBounds_toArray, List.set_cons_zero, List.set_cons_succ, i64_w, i32_w]
           rfl
         refine pure_ (i := 7) (N := some 101) (v := ?_) (a' := ?_) #[true, true, true, true, true, true, true, true, false, false, false] rfl rfl (any_of HT_.out (by kernel_rfl)) (fun _ _ _ h => h) (Or.inl ⟨by rfl, ?_⟩) ?_ ?_
         rotate_left
         · intro w'
           go_simp
           with_reducible rfl
         rotate_left
         · simp only [Act.put, List.setIfInBounds_toArray, List.set_cons_zero, List.set_cons_succ, i64_w, i32_w]
           rfl
         refine one_ (i := 8) (N := some 15) #[true, true, true, true, true, true, true, true, true, false, false] rfl rfl (one_of HT_.out (by kernel_rfl)) (by decide) (fun K hK => ?_)
         refine box_step ?hg (N := 15) ?hd (cs := #[.int .i64 0, .slice none 0 0, .slice none 0 0, .slice none 0 0]) (t := 27) ?hr ?_; (case hd => rfl); (case hg => rfl); (case hr => first | (go_simp; done) | (go_simp; rfl))
         intro gb hg w54 hbox hb
         have n_ := Aside0.mk (All.box (by first | exact HA.out | exact All.drewN HA.out _ | exact All.drew HA.out) hg hbox hb)
         clear HA
         have HA := n_
         clear n_ hg hbox hb
         refine hK.out _ _ ⟨HA.out.2.2.2.2.2.2.2.2.2.2.2.2.2.1.1, HA.out.2.2.2.2.2.2.2.2.2.2.2.2.1.1⟩ (fun hHeld => ?_)
         clear hK K
         refine norm_ (a' := ?_) ?_ ?_
         rotate_left
         · show Act.put _ (some 15) _ = _
           simp only [Act.put, List.setIfInBounds_toArray, List.set_cons_zero, List.set_cons_succ, i64_w, i32_w]
           rfl
         exact norm_ (by simp only [putAll, Act.put, List.setIfInBounds_toArray, List.set_cons_zero, List.set_cons_succ]) (hCont (xa, xb, z, gb) _ ⟨hHeld, (All.drop3 (All.drop3 (All.swap HA.out)))⟩)
       refine box_step ?hg (N := 15) ?hd (cs := #[.int .i64 0, .slice none 0 0, .slice none 0 0, .slice none 0 0]) (t := 27) ?hr ?_; (case hd => rfl); (case hg => rfl); (case hr => first | (go_simp; done) | (go_simp; rfl))
       intro gb hg w55 hbox hb
       have n_ := Aside0.mk (All.box (by first | exact HA.out | exact All.drewN HA.out _ | exact All.drew HA.out) hg hbox hb)
       clear HA
       have HA := n_
       clear n_ hg hbox hb
       refine hK.out _ _ ⟨HA.out.2.2.2.2.2.2.2.2.2.2.2.2.1.1, HA.out.2.2.2.2.2.2.2.2.2.2.2.1.1⟩ (fun hHeld => ?_)
       clear hK K
       refine norm_ (a' := ?_) ?_ ?_
       rotate_left
       · show Act.put _ (some 15) _ = _
         simp only [Act.put, List.setIfInBounds_toArray, List.set_cons_zero, List.set_cons_succ, i64_w, i32_w]
         rfl
       refine one_ (i := 4) (N := some 99) #[true, true, true, true, true, false, false, false, true, false, false] rfl rfl (one_of HT_.out (by kernel_rfl)) (by decide) (fun K hK => ?_)
       refine goes_ Try.func11 (by kernel_rfl) rfl #[.agg #[.int .i64 p1, .slice xa.A1 xa.n1 xa.c1, .slice xa.A2 xa.n2 xa.c2, .slice xa.A3 xa.n3 xa.c3], .agg #[.int .i64 q1, .slice xb.A1 xb.n1 xb.c1, .slice xb.A2 xb.n2 xb.c2, .slice xb.A3 xb.n3 xb.c3]] (by rfl) rfl rfl la_ ?_
       refine (implPS k (by first | exact All.base HA.out | exact pw_below_drewN (All.base HA.out) _ | exact below_drew1 (All.base HA.out)) (sysP_move HA.out.2.2.1.1 (fun _ _ _ => rfl)) (sysP_move HA.out.2.1.1 (fun _ _ _ => rfl)) Ag.out).mono ?_
       rintro e w56 ⟨z, rfl, hp, hb⟩
       refine ⟨_, rfl, ?_⟩
       have n_ := Aside0.mk (All.push (by first | exact HA.out | exact All.drewN HA.out _ | exact All.drew HA.out) hb (Ob.sys w.heap.size z g2' g3' g4) hp.1 hp.2.1 hp.2.2)
       clear HA
       have HA := n_
       clear n_ hp hb
       refine hK.out _ _ ⟨HA.out.2.2.2.2.2.2.2.2.2.2.2.2.2.1.1, HA.out.2.2.2.2.2.2.2.2.2.2.2.2.1.1⟩ (fun hHeld => ?_)
       clear hK K
       refine norm_ (a' := ?_) ?_ ?_
       rotate_left
       · show Act.put _ (some 99) _ = _
         simp only [Act.put, List.setIfInBounds_toArray, List.set_cons_zero, List.set_cons_succ, i64_w, i32_w]
         rfl
       refine pure_ (i := 5) (N := some 94) (v := ?_) (a' := ?_) #[true, true, true, true, true, true, false, false, true, false, false] rfl rfl (any_of HT_.out (by kernel_rfl)) (fun _ _ _ h => h) (Or.inl ⟨by rfl, ?_⟩) ?_ ?_
       rotate_left
       · intro w'
         go_simp
         with_reducible rfl
       rotate_left
       · simp only [Act.put, List.setIfInBounds_toArray, List.set_cons_zero, List.set_cons_succ, i64_w, i32_w]
         rfl
       refine pure_ (i := 6) (N := some 100) (v := ?_) (a' := ?_) #[true, true, true, true, true, true, true, false, true, false, false] rfl rfl (any_of HT_.out (by kernel_rfl)) (fun _ _ _ h => h) (Or.inl ⟨by rfl, ?_⟩) ?_ ?_
       rotate_left
       · intro w'
         go_simp
         with_reducible rfl
       rotate_left
       · simp only [Act.put, List.setIfInBounds_toArray, List.set_cons_zero, List.set_cons_succ, i64_w, i32_w]
         rfl
       refine pure_ (i := 7) (N := some 101) (v := ?_) (a' := ?_) #[true, true, true, true, true, true, true, true, true, false, false] rfl rfl (any_of HT_.out (by kernel_rfl)) (fun _ _ _ h => h) (Or.inl ⟨by rfl, ?_⟩) ?_ ?_
       rotate_left
       · intro w'
         go_simp
         with_reducible rfl
       rotate_left
       · simp only [Act.put, List.setIfInBounds_toArray, List.set_cons_zero, List.set_cons_succ, i64_w, i32_w]
         rfl
       exact norm_ (by simp only [putAll, Act.put, List.setIfInBounds_toArray, List.set_cons_zero, List.set_cons_succ]) (hCont (xa, xb, z, gb) _ ⟨hHeld, (All.drop3 (All.drop3 HA.out))⟩)
     refine box_step ?hg (N := 15) ?hd (cs := #[.int .i64 0, .slice none 0 0, .slice none 0 0, .slice none 0 0]) (t := 27) ?hr ?_; (case hd => rfl); (case hg => rfl); (case hr => first | (go_simp; done) | (go_simp; rfl))
     intro gb hg w57 hbox hb
     have n_ := Aside0.mk (All.box (by first | exact HA.out | exact All.drewN HA.out _ | exact All.drew HA.out) hg hbox hb)
     clear HA
     have HA := n_
     clear n_ hg hbox hb
     refine hK.out _ _ ⟨HA.out.2.2.2.2.2.2.2.2.2.2.2.1.1, HA.out.2.2.2.2.2.2.2.2.2.2.1.1⟩ (fun hHeld => ?_)
     clear hK K
     refine norm_ (a' := ?_) ?_ ?_
     rotate_left
     · show Act.put _ (some 15) _ = _
       simp only [Act.put, List.setIfInBounds_toArray, List.set_cons_zero, List.set_cons_succ, i64_w, i32_w]
       rfl
     refine one_ (i := 3) (N := some 98) #[true, true, true, true, false, false, false, false, true, false, false] rfl rfl (one_of HT_.out (by kernel_rfl)) (by decide) (fun K hK => ?_)
     refine goes_ Try.func10 (by kernel_rfl) rfl #[.agg #[.int .i64 a1_0, .slice A1_1 l1_1.length c1_1, .slice A1_2 l1_2.length c1_2, .slice A1_3 l1_3.length c1_3]] (by rfl) rfl rfl la_ ?_
     refine (toS k HR1_1.out HC1_1.out HR1_2.out HC1_2.out HR1_3.out HC1_3.out _ (by first | exact All.base HA.out | exact pw_below_drewN (All.base HA.out) _ | exact below_drew1 (All.base HA.out)) Aq.out).mono ?_
     rintro e w58 ⟨xb, rfl, hp, hb⟩
     refine ⟨_, rfl, ?_⟩
     have n_ := Aside0.mk (All.push (by first | exact HA.out | exact All.drewN HA.out _ | exact All.drew HA.out) hb (Ob.sys w.heap.size xb q2 q3 q4) hp.1 hp.2.1 hp.2.2)
     clear HA
     have HA := n_
     clear n_ hp hb
     refine hK.out _ _ ⟨HA.out.2.2.2.2.2.2.2.2.2.2.2.2.1.1, HA.out.2.2.2.2.2.2.2.2.2.2.2.1.1⟩ (fun hHeld => ?_)
     clear hK K
     refine norm_ (a' := ?_) ?_ ?_
     rotate_left
     · show Act.put _ (some 98) _ = _
       simp only [Act.put, List.setIfInBounds_toArray, List.set_cons_zero, List.set_cons_succ, i64_w, i32_w]
       rfl
     refine one_ (i := 4) (N := some 99) #[true, true, true, true, true, false, false, false, true, false, false] rfl rfl (one_of HT_.out (by kernel_rfl)) (by decide) (fun K hK => ?_)
     refine goes_ Try.func11 (by kernel_rfl) rfl #[.agg #[.int .i64 p1, .slice xa.A1 xa.n1 xa.c1, .slice xa.A2 xa.n2 xa.c2, .slice xa.A3 xa.n3 xa.c3], .agg #[.int .i64 q1, .slice xb.A1 xb.n1 xb.c1, .slice xb.A2 xb.n2 xb.c2, .slice xb.A3 xb.n3 xb.c3]] (by rfl) rfl rfl la_ ?_
     refine (implPS k (by first | exact All.base HA.out | exact pw_below_drewN (All.base HA.out) _ | exact below_drew1 (All.base HA.out)) (sysP_move HA.out.2.2.1.1 (fun _ _ _ => rfl)) (sysP_move HA.out.1.1 (fun _ _ _ => rfl)) Ag.out).mono ?_
     rintro e w59 ⟨z, rfl, hp, hb⟩
     refine ⟨_, rfl, ?_⟩
     have n_ := Aside0.mk (All.push (by first | exact HA.out | exact All.drewN HA.out _ | exact All.drew HA.out) hb (Ob.sys w.heap.size z g2' g3' g4) hp.1 hp.2.1 hp.2.2)
     clear HA
     have HA := n_
     clear n_ hp hb
     refine hK.out _ _ ⟨HA.out.2.2.2.2.2.2.2.2.2.2.2.2.2.1.1, HA.out.2.2.2.2.2.2.2.2.2.2.2.2.1.1⟩ (fun hHeld => ?_)
     clear hK K
     refine norm_ (a' := ?_) ?_ ?_
     rotate_left
     · show Act.put _ (some 99) _ = _
       simp only [Act.put, List.setIfInBounds_toArray, List.set_cons_zero, List.set_cons_succ, i64_w, i32_w]
       rfl
     refine pure_ (i := 5) (N := some 94) (v := ?_) (a' := ?_) #[true, true, true, true, true, true, false, false, true, false, false] rfl rfl (any_of HT_.out (by kernel_rfl)) (fun _ _ _ h => h) (Or.inl ⟨by rfl, ?_⟩) ?_ ?_
     rotate_left
     · intro w'
       go_simp
       with_reducible rfl
     rotate_left
     · simp only [Act.put, List.setIfInBounds_toArray, List.set_cons_zero, List.set_cons_succ, i64_w, i32_w]
       rfl
     refine pure_ (i := 6) (N := some 100) (v := ?_) (a' := ?_) #[true, true, true, true, true, true, true, false, true, false, false] rfl rfl (any_of HT_.out (by kernel_rfl)) (fun _ _ _ h => h) (Or.inl ⟨by rfl, ?_⟩) ?_ ?_
     rotate_left
     · intro w'
       go_simp
       with_reducible rfl
     rotate_left
     · simp only [Act.put, List.setIfInBounds_toArray, List.set_cons_zero, List.set_cons_succ, i64_w, i32_w]
       rfl
     refine pure_ (i := 7) (N := some 101) (v := ?_) (a' := ?_) #[true, true, true, true, true, true, true, true, true, false, false] rfl rfl (any_of HT_.out (by kernel_rfl)) (fun _ _ _ h => h) (Or.inl ⟨by rfl, ?_⟩) ?_ ?_
     rotate_left
     · intro w'
       go_simp
       with_reducible rfl
     rotate_left
     · simp only [Act.put, List.setIfInBounds_toArray, List.set_cons_zero, List.set_cons_succ, i64_w, i32_w]
       rfl
     exact norm_ (by simp only [putAll, Act.put, List.setIfInBounds_toArray, List.set_cons_zero, List.set_cons_succ]) (hCont (xa, xb, z, gb) _ ⟨hHeld, (All.drop3 (All.drop2 HA.out))⟩)
   refine box_step ?hg (N := 15) ?hd (cs := #[.int .i64 0, .slice none 0 0, .slice none 0 0, .slice none 0 0]) (t := 27) ?hr ?_; (case hd => rfl); (case hg => rfl); (case hr => first | (go_simp; done) | (go_simp; rfl))
   intro gb hg w60 hbox hb
   have n_ := Aside0.mk (All.box (by first | exact HA.out | exact All.drewN HA.out _ | exact All.drew HA.out) hg hbox hb)
   clear HA
   have HA := n_
   clear n_ hg hbox hb
   refine hK.out _ _ ⟨HA.out.2.2.2.2.2.2.2.2.2.2.1.1, HA.out.2.2.2.2.2.2.2.2.2.1.1⟩ (fun hHeld => ?_)
   clear hK K
   refine norm_ (a' := ?_) ?_ ?_
   rotate_left
   · show Act.put _ (some 15) _ = _
     simp only [Act.put, List.setIfInBounds_toArray, List.set_cons_zero, List.set_cons_succ, i64_w, i32_w]
     rfl
   refine one_ (i := 1) (N := some 96) #[true, true, true, false, false, false, false, false, true, false, false] rfl rfl (one_of HT_.out (by kernel_rfl)) (by decide) (fun K hK => ?_)
   refine goes_ Try.func10 (by kernel_rfl) rfl #[.agg #[.int .i64 a0_0, .slice A0_1 l0_1.length c0_1, .slice A0_2 l0_2.length c0_2, .slice A0_3 l0_3.length c0_3]] (by rfl) rfl rfl la_ ?_
   refine (toS k HR0_1.out HC0_1.out HR0_2.out HC0_2.out HR0_3.out HC0_3.out _ (by first | exact All.base HA.out | exact pw_below_drewN (All.base HA.out) _ | exact below_drew1 (All.base HA.out)) Ap.out).mono ?_
   rintro e w61 ⟨xa, rfl, hp, hb⟩
   refine ⟨_, rfl, ?_⟩
   have n_ := Aside0.mk (All.push (by first | exact HA.out | exact All.drewN HA.out _ | exact All.drew HA.out) hb (Ob.sys w.heap.size xa p2 p3 p4) hp.1 hp.2.1 hp.2.2)
   clear HA
   have HA := n_
   clear n_ hp hb
   refine hK.out _ _ ⟨HA.out.2.2.2.2.2.2.2.2.2.2.2.1.1, HA.out.2.2.2.2.2.2.2.2.2.2.1.1⟩ (fun hHeld => ?_)
   clear hK K
   refine norm_ (a' := ?_) ?_ ?_
   rotate_left
   · show Act.put _ (some 96) _ = _
     simp only [Act.put, List.setIfInBounds_toArray, List.set_cons_zero, List.set_cons_succ, i64_w, i32_w]
     rfl
   refine one_ (i := 3) (N := some 98) #[true, true, true, true, false, false, false, false, true, false, false] rfl rfl (one_of HT_.out (by kernel_rfl)) (by decide) (fun K hK => ?_)
   refine goes_ Try.func10 (by kernel_rfl) rfl #[.agg #[.int .i64 a1_0, .slice A1_1 l1_1.length c1_1, .slice A1_2 l1_2.length c1_2, .slice A1_3 l1_3.length c1_3]] (by rfl) rfl rfl la_ ?_
   refine (toS k HR1_1.out HC1_1.out HR1_2.out HC1_2.out HR1_3.out HC1_3.out _ (by first | exact All.base HA.out | exact pw_below_drewN (All.base HA.out) _ | exact below_drew1 (All.base HA.out)) Aq.out).mono ?_
   rintro e w62 ⟨xb, rfl, hp, hb⟩
   refine ⟨_, rfl, ?_⟩
   have n_ := Aside0.mk (All.push (by first | exact HA.out | exact All.drewN HA.out _ | exact All.drew HA.out) hb (Ob.sys w.heap.size xb q2 q3 q4) hp.1 hp.2.1 hp.2.2)
   clear HA
   have HA := n_
   clear n_ hp hb
   refine hK.out _ _ ⟨HA.out.2.2.2.2.2.2.2.2.2.2.2.2.1.1, HA.out.2.2.2.2.2.2.2.2.2.2.2.1.1⟩ (fun hHeld => ?_)
   clear hK K
   refine norm_ (a' := ?_) ?_ ?_
   rotate_left
   · show Act.put _ (some 98) _ = _
     simp only [Act.put, List.setIfInBounds_toArray, List.set_cons_zero, List.set_cons_succ, i64_w, i32_w]
     rfl
   refine one_ (i := 4) (N := some 99) #[true, true, true, true, true, false, false, false, true, false, false] rfl rfl (one_of HT_.out (by kernel_rfl)) (by decide) (fun K hK => ?_)
   refine goes_ Try.func11 (by kernel_rfl) rfl #[.agg #[.int .i64 p1, .slice xa.A1 xa.n1 xa.c1, .slice xa.A2 xa.n2 xa.c2, .slice xa.A3 xa.n3 xa.c3], .agg #[.int .i64 q1, .slice xb.A1 xb.n1 xb.c1, .slice xb.A2 xb.n2 xb.c2, .slice xb.A3 xb.n3 xb.c3]] (by rfl) rfl rfl la_ ?_
   refine (implPS k (by first | exact All.base HA.out | exact pw_below_drewN (All.base HA.out) _ | exact below_drew1 (All.base HA.out)) (sysP_move HA.out.2.1.1 (fun _ _ _ => rfl)) (sysP_move HA.out.1.1 (fun _ _ _ => rfl)) Ag.out).mono ?_
   rintro e w63 ⟨z, rfl, hp, hb⟩
   refine ⟨_, rfl, ?_⟩
   have n_ := Aside0.mk (All.push (by first | exact HA.out | exact All.drewN HA.out _ | exact All.drew HA.out) hb (Ob.sys w.heap.size z g2' g3' g4) hp.1 hp.2.1 hp.2.2)
   clear HA
   have HA := n_
   clear n_ hp hb
   refine hK.out _ _ ⟨HA.out.2.2.2.2.2.2.2.2.2.2.2.2.2.1.1, HA.out.2.2.2.2.2.2.2.2.2.2.2.2.1.1⟩ (fun hHeld => ?_)
   clear hK K
   refine norm_ (a' := ?_) ?_ ?_
   rotate_left
   · show Act.put _ (some 99) _ = _
     simp only [Act.put, List.setIfInBounds_toArray, List.set_cons_zero, List.set_cons_succ, i64_w, i32_w]
     rfl
   refine pure_ (i := 5) (N := some 94) (v := ?_) (a' := ?_) #[true, true, true, true, true, true, false, false, true, false, false] rfl rfl (any_of HT_.out (by kernel_rfl)) (fun _ _ _ h => h) (Or.inl ⟨by rfl, ?_⟩) ?_ ?_
   rotate_left
   · intro w'
     go_simp
     with_reducible rfl
   rotate_left
   · simp only [Act.put, List.setIfInBounds_toArray, List.set_cons_zero, List.set_cons_succ, i64_w, i32_w]
     rfl
   refine pure_ (i := 6) (N := some 100) (v := ?_) (a' := ?_) #[true, true, true, true, true, true, true, false, true, false, false] rfl rfl (any_of HT_.out (by kernel_rfl)) (fun _ _ _ h => h) (Or.inl ⟨by rfl, ?_⟩) ?_ ?_
   rotate_left
   · intro w'
     go_simp
     with_reducible rfl
   rotate_left
   · simp only [Act.put, List.setIfInBounds_toArray, List.set_cons_zero, List.set_cons_succ, i64_w, i32_w]
     rfl
   refine pure_ (i := 7) (N := some 101) (v := ?_) (a' := ?_) #[true, true, true, true, true, true, true, true, true, false, false] rfl rfl (any_of HT_.out (by kernel_rfl)) (fun _ _ _ h => h) (Or.inl ⟨by rfl, ?_⟩) ?_ ?_
   rotate_left
   · intro w'
     go_simp
     with_reducible rfl
   rotate_left
   · simp only [Act.put, List.setIfInBounds_toArray, List.set_cons_zero, List.set_cons_succ, i64_w, i32_w]
     rfl
   exact norm_ (by simp only [putAll, Act.put, List.setIfInBounds_toArray, List.set_cons_zero, List.set_cons_succ]) (hCont (xa, xb, z, gb) _ ⟨hHeld, (All.drop2 (All.drop2 HA.out))⟩)
 rintro ⟨xa, xb, xh, g15⟩ w64 ⟨hHeld, hA⟩
 dsimp only at hHeld hA ⊢
 clear HA
 have HA := Aside0.mk hA
 clear hA
 refine norm_ (a' := ?_) ?_ ?_
 rotate_left
 · simp only [putAll, Act.put, List.setIfInBounds_toArray, List.set_cons_zero, List.set_cons_succ]
   rfl
 refine one_ (i := 9) (N := none) #[true, true, true, true, true, true, true, true, true, true, false] rfl rfl (one_of HT_.out (by kernel_rfl)) (by decide) (fun K hK => ?_)
 obtain ⟨cz0, cz1, cz2, cz3, cz4, cz5, cz6, cz7⟩ := bf4_ HA.out.2.1.1
 have nA := All.set4 (l1 := [_]) HA.out (.int .i64 g1) (.slice xh.A1 xh.n1 xh.c1) (.slice xh.A2 xh.n2 xh.c2) (.slice xh.A3 xh.n3 xh.c3)
 refine skip_ (w1 := ?_) (by rfl) rfl ?_ ?_
 rotate_left
 · go_simp
   rfl
 refine hK.out _ _ ⟨nA.2.2.2.2.2.2.2.2.2.2.2.1.1, nA.2.2.2.2.2.2.2.2.2.2.1.1⟩ (fun hHeld => ?_)
 clear hK K
 refine gen_any (All w _) nA ?_
 clear HA nA hHeld cz0 cz1 cz2 cz3 cz4 cz5 cz6 cz7
 intro w65 hA
 have HA := Aside0.mk hA
 clear hA
 refine pure_ (i := 10) (N := some 16) (v := ?_) (a' := ?_) #[true, true, true, true, true, true, true, true, true, true, true] rfl rfl (any_of HT_.out (by kernel_rfl)) (fun _ _ _ h => h) (Or.inl ⟨by rfl, ?_⟩) ?_ ?_
 rotate_left
 · intro w'
   go_simp
   with_reducible rfl
 rotate_left
 · simp only [Act.put, List.setIfInBounds_toArray, List.set_cons_zero, List.set_cons_succ, i64_w, i32_w]
   rfl
 refine done_ (done_of HT_.out (by kernel_rfl)) ?_
 obtain ⟨ci0, ci1, ci2, ci3⟩ := bc4_ HA.out.2.1.1
 obtain ⟨cj0, cj1, cj2, cj3⟩ := bc4_ HA.out.2.2.2.2.2.2.2.2.2.1.1
 go_upto_region 35 with (first | ((with_reducible refine gate_callee (f := 12) rfl ?_); refine goesL_ (some 104) rfl rfl Try.func12 (by kernel_rfl) rfl #[.agg #[.int .i64 g1, .slice xh.A1 xh.n1 xh.c1, .slice xh.A2 xh.n2 xh.c2, .slice xh.A3 xh.n3 xh.c3], .agg #[.int .i64 s1, .slice xw.A1 xw.n1 xw.c1, .slice xw.A2 xw.n2 xw.c2, .slice xw.A3 xw.n3 xw.c3]] rfl la_ ?_; (refine (eqS k (sysP_move HA.out.1.1 (fun _ _ _ => rfl)) (sysP_move HA.out.2.2.2.2.2.2.2.2.1.1 (fun _ _ _ => rfl)) Ae1.out).mono ?_); rintro e w66 ⟨rfl, hb⟩; refine ⟨_, rfl, ?_⟩; have n_ := Aside0.mk (All.below (by first | exact HA.out | exact All.drewN HA.out _ | exact All.drew HA.out) hb); clear HA; have HA := n_; clear n_ hb))
 clear ci0 ci1 ci2 ci3 cj0 cj1 cj2 cj3
 obtain ⟨ci0, ci1, ci2, ci3⟩ := bc4_ HA.out.2.2.1.1
 go_wp2_with (first | ((with_reducible refine gate_callee (f := 14) rfl ?_); refine goesL_ (some 113) rfl rfl Try.func14 (by kernel_rfl) rfl #[.agg #[.int .i64 g1, .slice xg.A1 xg.n1 xg.c1, .slice xg.A2 xg.n2 xg.c2, .slice xg.A3 xg.n3 xg.c3], .int .i64 1] rfl la_ ?_; (refine (heldS k (sysP_move HA.out.2.2.2.1.1 (fun _ _ _ => rfl)) Ah.out).mono ?_); rintro e w67 ⟨rfl, hb⟩; refine ⟨_, rfl, ?_⟩; have n_ := Aside0.mk (All.below (by first | exact HA.out | exact All.drewN HA.out _ | exact All.drew HA.out) hb); clear HA; have HA := n_; clear n_ hb))
 go_ret
 exact ⟨rfl, (by first | exact All.base HA.out | exact pw_below_drewN (All.base HA.out) _ | exact below_drew1 (All.base HA.out))⟩
def laws_FnExactProductSystem.Pure : Prop := ∀ (a0_0 : Int) (l0_1 : List Int) (l0_2 : List Int) (l0_3 : List Bool) (a1_0 : Int) (l1_1 : List Int) (l1_2 : List Int) (l1_3 : List Bool), (Lit.int .i64 a0_0).wf = true → ((∀ z ∈ l0_1, (Lit.int .i64 z).wf = true) ∧ l0_1.length ≤ maxLen) → ((∀ z ∈ l0_2, (Lit.int .i64 z).wf = true) ∧ l0_2.length ≤ maxLen) → ((∀ z ∈ l0_3, True) ∧ l0_3.length ≤ maxLen) → (Lit.int .i64 a1_0).wf = true → ((∀ z ∈ l1_1, (Lit.int .i64 z).wf = true) ∧ l1_1.length ≤ maxLen) → ((∀ z ∈ l1_2, (Lit.int .i64 z).wf = true) ∧ l1_2.length ≤ maxLen) → ((∀ z ∈ l1_3, True) ∧ l1_3.length ≤ maxLen) → ∃ k, laws_FnExactProductSystem.f k a0_0 l0_1 l0_2 l0_3 a1_0 l1_1 l1_2 l1_3 = some true
end Go.Proofs.Ytipfkicndjddgaa.P
