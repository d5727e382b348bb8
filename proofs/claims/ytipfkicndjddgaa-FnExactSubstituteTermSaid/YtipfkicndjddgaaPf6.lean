-- by hand: laws.FnExactSubstituteTerm
import Derived.Test.YtipfkicndjddgaaM11
import Derived.Test.YtipfkicndjddgaaK9
import Derived.Test.YtipfkicndjddgaaK10
namespace Go.Proofs.Ytipfkicndjddgaa.P
open Go.RowKit Go.Proofs.YtipfkicndjddgaaW.PrintWords Go.Proofs.YtipfkicndjddgaaW.PrintLast Go.Proofs.YtipfkicndjddgaaW.PrintMore
attribute [local go_sem] max2_int min2_int max_two min_two max_three min_three max_four min_four
set_option linter.unusedVariables false
set_option linter.unusedSimpArgs false
theorem specW (k : Nat) {w W : World} {x0 : Tx} {p01 p02 : Int} {p03 : List Int} {p04 : List S40} {a1 : Int} {x2 : Tx} {p21 p22 : Int} {p23 : List Int} {p24 : List S40} {r1 r2 : Int} {r3 : List Int} {r4 : List S40} {r5 : Bool} (hB : Below w.heap.size w W) (h0 : termP w.heap.size x0 p03 p04 W) (h2 : termP w.heap.size x2 p23 p24 W) (h : spec_SubstituteTerm.f k p01 p02 p03 p04 a1 p21 p22 p23 p24 = some (r1, r2, r3, r4, r5)) :
    Calls Try.prog 27 #[.agg #[.int .i64 p01, .int .i64 p02, .slice x0.A2 x0.n2 x0.c2, .slice x0.A3 x0.n3 x0.c3], .int .i64 a1, .agg #[.int .i64 p21, .int .i64 p22, .slice x2.A2 x2.n2 x2.c2, .slice x2.A3 x2.n3 x2.c3]] W fun e w' => ∃ z : Tx, e = .returned (.tuple #[.agg #[.int .i64 r1, .int .i64 r2, .slice z.A2 z.n2 z.c2, .slice z.A3 z.n3 z.c3], .bool r5]) ∧ (termP w.heap.size z r3 r4 w' ∧ W.heap.size ≤ z.lo ∧ z.hi ≤ w'.heap.size) ∧ Below W.heap.size W w' := by
  obtain ⟨⟨e02, e03⟩, ⟨u02, q02⟩, ⟨u03, q03⟩⟩ := term_reads h0
  obtain ⟨⟨e22, e23⟩, ⟨u22, q22⟩, ⟨u23, q23⟩⟩ := term_reads h2
  rw [e02, e03, e22, e23]
  refine (spec_SubstituteTerm.calls k _ _ _ _ p03 _ _ p04 _ _ _ _ _ p23 _ _ p24 r1 r2 r3 r4 r5 W u02 q02 u03 q03 u22 q22 u23 q23 h).mono ?_
  rintro e w' ⟨v2, v3, f, rfl, hm, hb'⟩
  obtain ⟨z, rfl, rfl, hp⟩ := term_new hB.size hb'.size hm
  exact ⟨z, rfl, hp, hb'⟩
theorem implW (k : Nat) {w W : World} {x0 : Tx} {p01 p02 : Int} {p03 : List Int} {p04 : List S40} {a1 : Int} {x2 : Tx} {p21 p22 : Int} {p23 : List Int} {p24 : List S40} {r1 r2 : Int} {r3 : List Int} {r4 : List S40} {r5 : Bool} (hB : Below w.heap.size w W) (h0 : termP w.heap.size x0 p03 p04 W) (h2 : termP w.heap.size x2 p23 p24 W) (h : impl_SubstituteTerm.f k p01 p02 p03 p04 a1 p21 p22 p23 p24 = some (r1, r2, r3, r4, r5)) :
    Calls Try.prog 28 #[.agg #[.int .i64 p01, .int .i64 p02, .slice x0.A2 x0.n2 x0.c2, .slice x0.A3 x0.n3 x0.c3], .int .i64 a1, .agg #[.int .i64 p21, .int .i64 p22, .slice x2.A2 x2.n2 x2.c2, .slice x2.A3 x2.n3 x2.c3]] W fun e w' => ∃ z : Tx, e = .returned (.tuple #[.agg #[.int .i64 r1, .int .i64 r2, .slice z.A2 z.n2 z.c2, .slice z.A3 z.n3 z.c3], .bool r5]) ∧ (termP w.heap.size z r3 r4 w' ∧ W.heap.size ≤ z.lo ∧ z.hi ≤ w'.heap.size) ∧ Below W.heap.size W w' := by
  obtain ⟨⟨e02, e03⟩, ⟨u02, q02⟩, ⟨u03, q03⟩⟩ := term_reads h0
  obtain ⟨⟨e22, e23⟩, ⟨u22, q22⟩, ⟨u23, q23⟩⟩ := term_reads h2
  rw [e02, e03, e22, e23]
  refine (impl_SubstituteTerm.calls k _ _ _ _ p03 _ _ p04 _ _ _ _ _ p23 _ _ p24 r1 r2 r3 r4 r5 W u02 q02 u03 q03 u22 q22 u23 q23 h).mono ?_
  rintro e w' ⟨v2, v3, f, rfl, hm, hb'⟩
  obtain ⟨z, rfl, rfl, hp⟩ := term_new hB.size hb'.size hm
  exact ⟨z, rfl, hp, hb'⟩
def laws_FnExactSubstituteTerm.f (k : Nat) (a0_0 : Int) (a0_1 : Int) (l0_2 : List Int) (l0_3 : List (S36)) (a1 : Int) (a2_0 : Int) (a2_1 : Int) (l2_2 : List Int) (l2_3 : List (S36)) : Option (Bool) :=
  (laws_szTerm.f k a0_0 a0_1 l0_2 l0_3 1048576).bind fun z0 => if z0 < 0 then some true else (laws_szTerm.f k a2_0 a2_1 l2_2 l2_3 z0).bind fun z1 => if z1 < 0 then some true else 
  (laws_toTerm.f k a0_0 a0_1 l0_2 l0_3).bind fun p0 => 
  (laws_toTerm.f k a2_0 a2_1 l2_2 l2_3).bind fun p2 => 
  (spec_SubstituteTerm.f k p0.1 p0.2.1 p0.2.2.1 p0.2.2.2 a1 p2.1 p2.2.1 p2.2.2.1 p2.2.2.2).bind fun s => (impl_SubstituteTerm.f k p0.1 p0.2.1 p0.2.2.1 p0.2.2.2 a1 p2.1 p2.2.1 p2.2.2.1 p2.2.2.2).bind fun g => (laws_eqTerm.f k g.1 g.2.1 g.2.2.1 g.2.2.2.1 s.1 s.2.1 s.2.2.1 s.2.2.2.1).bind fun e => 
  (laws_eqTerm.f k p0.1 p0.2.1 p0.2.2.1 p0.2.2.2 p0.1 p0.2.1 p0.2.2.1 p0.2.2.2).bind fun e0 => 
  (laws_eqTerm.f k p2.1 p2.2.1 p2.2.2.1 p2.2.2.2 p2.1 p2.2.1 p2.2.2.1 p2.2.2.2).bind fun e2 => 
  (laws_markTerm.f k p0.2.2.1 p0.2.2.2 1).bind fun m0 => 
  (laws_markTerm.f k p2.2.2.1 p2.2.2.2 m0.1).bind fun m2 => 
  (laws_markTerm.f k g.2.2.1 g.2.2.2.1 1).bind fun u => (laws_heldTerm.f k g.1 g.2.1 u.2.1 u.2.2 1).bind fun h => some (e && (e0 && (e2 && ((decide (g.2.2.2.2 = s.2.2.2.2) && (decide (¬ m2.1 < 0) && (decide (¬ h < 0) && decide (h = u.1))))))))
def laws_FnExactSubstituteTerm.T8 : Bool × List (List Nat × List Nat) := (true, [([], []), ([0], [0]), ([], []), ([], []), ([3, 1], [3]), ([1, 2, 4, 4], [1, 2, 4]), ([5], [5]), ([6], [6]), ([6], [6]), ([], []), ([9, 7, 5, 0, 1, 2, 3, 4, 5, 6, 7, 9], [7, 9]), ([8, 10, 0, 1, 2, 3, 4, 5, 6, 7, 8, 9, 10], [8])])
def laws_FnExactSubstituteTerm.B8 : List Nat := [0, 1, 0, 0, 11, 31, 63, 127, 127, 0, 767, 2047]
theorem laws_FnExactSubstituteTerm.tab8 : rtab .any (opsOf Try.f6 8) = laws_FnExactSubstituteTerm.T8 := by kernel_rfl
theorem laws_FnExactSubstituteTerm.bits8 : waitsOk laws_FnExactSubstituteTerm.T8.2 laws_FnExactSubstituteTerm.B8 = true := by kernel_rfl
def laws_FnExactSubstituteTerm.T31 : Bool × List (List Nat × List Nat) := (true, [([], []), ([0], [0]), ([], []), ([], []), ([3, 1], [3]), ([1, 2, 4, 4], [1, 2, 4]), ([5], [5]), ([6], [6]), ([6], [6]), ([], []), ([9, 7, 5, 0, 1, 2, 3, 4, 5, 6, 7, 9], [7, 9]), ([8, 10, 0, 1, 2, 3, 4, 5, 6, 7, 8, 9, 10], [8])])
def laws_FnExactSubstituteTerm.B31 : List Nat := [0, 1, 0, 0, 11, 31, 63, 127, 127, 0, 767, 2047]
theorem laws_FnExactSubstituteTerm.tab31 : rtab .any (opsOf Try.f6 31) = laws_FnExactSubstituteTerm.T31 := by kernel_rfl
theorem laws_FnExactSubstituteTerm.bits31 : waitsOk laws_FnExactSubstituteTerm.T31.2 laws_FnExactSubstituteTerm.B31 = true := by kernel_rfl
set_option maxHeartbeats 8000000 in
set_option maxRecDepth 100000 in
theorem laws_FnExactSubstituteTerm.calls (k : Nat) (a0_0 : Int) (a0_1 : Int) (A0_2 : Option Addr) (c0_2 : Nat) (l0_2 : List Int) (A0_3 : Option Addr) (c0_3 : Nat) (l0_3 : List (S36)) (a1 : Int) (a2_0 : Int) (a2_1 : Int) (A2_2 : Option Addr) (c2_2 : Nat) (l2_2 : List Int) (A2_3 : Option Addr) (c2_3 : Nat) (l2_3 : List (S36)) (r : Bool) (w : World) (hr0_2 : Kd.C (Kd.int .i64) w A0_2 l0_2.length l0_2) (hc0_2 : l0_2.length ≤ c0_2) (hr0_3 : Kd.C k36 w A0_3 l0_3.length l0_3) (hc0_3 : l0_3.length ≤ c0_3) (hr2_2 : Kd.C (Kd.int .i64) w A2_2 l2_2.length l2_2) (hc2_2 : l2_2.length ≤ c2_2) (hr2_3 : Kd.C k36 w A2_3 l2_3.length l2_3) (hc2_3 : l2_3.length ≤ c2_3) (h : laws_FnExactSubstituteTerm.f k a0_0 a0_1 l0_2 l0_3 a1 a2_0 a2_1 l2_2 l2_3 = some r) (hr_ : r = true) :
    Calls Try.prog 6 #[.agg #[.int .i64 a0_0, .int .i64 a0_1, .slice A0_2 l0_2.length c0_2, .slice A0_3 l0_3.length c0_3], .int .i64 a1, .agg #[.int .i64 a2_0, .int .i64 a2_1, .slice A2_2 l2_2.length c2_2, .slice A2_3 l2_3.length c2_3]] w fun e w' => e = .returned (.bool r) ∧ Below w.heap.size w w' := by
 have HR0_2 := Aside0.mk hr0_2
 have HC0_2 := Aside0.mk hc0_2
 clear hr0_2 hc0_2
 have HR0_3 := Aside0.mk hr0_3
 have HC0_3 := Aside0.mk hc0_3
 clear hr0_3 hc0_3
 have HR2_2 := Aside0.mk hr2_2
 have HC2_2 := Aside0.mk hc2_2
 clear hr2_2 hc2_2
 have HR2_3 := Aside0.mk hr2_3
 have HC2_3 := Aside0.mk hc2_3
 clear hr2_3 hc2_3
 have HA := Aside0.mk (show All w [] w from Below.refl w.heap.size w)
 unfold laws_FnExactSubstituteTerm.f at h
 have H := Aside0.mk h
 clear h
 go_enter Try.func6, Try.ntmps6
 go_upto_region 2 with (first | ((with_reducible refine gate_dst (N := 3) rfl ?_); (try (refine gate_guard (by rfl) ?_; dsimp only)); refine box_event ?hg (N := 3) ?hd (cs := #[.int .i64 a0_0, .int .i64 a0_1, .slice A0_2 l0_2.length c0_2, .slice A0_3 l0_3.length c0_3]) (t := 36) ?hr ?_; (case hd => rfl); (case hg => rfl); (case hr => first | (go_simp; done) | (go_simp; rfl)); intro ga0 hg w11 hbox hb; have n_ := Aside0.mk (All.box (by first | exact HA.out | exact All.drewN HA.out _ | exact All.drew HA.out) hg hbox hb); clear HA; have HA := n_; clear n_ hg hbox hb) | ((with_reducible refine gate_dst (N := 5) rfl ?_); (try (refine gate_guard (by rfl) ?_; dsimp only)); refine box_event ?hg (N := 5) ?hd (cs := #[.int .i64 a2_0, .int .i64 a2_1, .slice A2_2 l2_2.length c2_2, .slice A2_3 l2_3.length c2_3]) (t := 36) ?hr ?_; (case hd => rfl); (case hg => rfl); (case hr => first | (go_simp; done) | (go_simp; rfl)); intro ga2 hg w12 hbox hb; have n_ := Aside0.mk (All.box (by first | exact HA.out | exact All.drewN HA.out _ | exact All.drew HA.out) hg hbox hb); clear HA; have HA := n_; clear n_ hg hbox hb))
 have h := H.out
 clear H
 obtain ⟨z0, Z0, h⟩ := Option.bind_eq_some_iff.mp h
 replace Z0 := Aside0.mk Z0
 have H := Aside0.mk h
 clear h
 obtain ⟨ca0, ca1, ca2, ca3⟩ := bc4_ HA.out.2.1.1
 go_upto_if 23 with (first | ((with_reducible refine gate_callee (f := 15) rfl ?_); refine goesL_ (some 21) rfl rfl Try.func15 (by kernel_rfl) rfl #[.agg #[.int .i64 a0_0, .int .i64 a0_1, .slice A0_2 l0_2.length c0_2, .slice A0_3 l0_3.length c0_3], .int .i64 1048576] rfl la_ ?_; (refine (laws_szTerm.calls k _ _ _ _ l0_2 _ _ l0_3 1048576 z0 _ (Kd.C_below HR0_2.out (by first | exact All.base HA.out | exact pw_below_drewN (All.base HA.out) _ | exact below_drew1 (All.base HA.out))) HC0_2.out (Kd.C_below HR0_3.out (by first | exact All.base HA.out | exact pw_below_drewN (All.base HA.out) _ | exact below_drew1 (All.base HA.out))) HC0_3.out Z0.out).mono ?_); rintro e w13 ⟨rfl, hb⟩; refine ⟨_, rfl, ?_⟩; have n_ := Aside0.mk (All.below (by first | exact HA.out | exact All.drewN HA.out _ | exact All.drew HA.out) hb); clear HA; have HA := n_; clear n_ hb))
 clear ca0 ca1 ca2 ca3
 have h := H.out
 clear H
 by_cases d0 : z0 < 0
 · rw [if_pos d0] at h
   have d0b : decide (z0 < 0) = true := decide_eq_true d0
   (first | rw [d0b] | (simp only [i64_w, i32_w]; rw [d0b]) | skip)
   obtain rfl := Option.some.inj h
   go_wp2
   go_ret
   exact ⟨rfl, (by first | exact All.base HA.out | exact pw_below_drewN (All.base HA.out) _ | exact below_drew1 (All.base HA.out))⟩
 rw [if_neg d0] at h
 have d0b : decide (z0 < 0) = false := decide_eq_false d0
 (first | rw [d0b] | (simp only [i64_w, i32_w]; rw [d0b]) | skip)
 clear d0
 have H := Aside0.mk h
 clear h
 have h := H.out
 clear H
 obtain ⟨z1, Z1, h⟩ := Option.bind_eq_some_iff.mp h
 replace Z1 := Aside0.mk Z1
 have H := Aside0.mk h
 clear h
 obtain ⟨ca0, ca1, ca2, ca3⟩ := bc4_ HA.out.1.1
 go_upto_if 28 with (first | ((with_reducible refine gate_callee (f := 15) rfl ?_); refine goesL_ (some 26) rfl rfl Try.func15 (by kernel_rfl) rfl #[.agg #[.int .i64 a2_0, .int .i64 a2_1, .slice A2_2 l2_2.length c2_2, .slice A2_3 l2_3.length c2_3], .int .i64 z0] rfl la_ ?_; (refine (laws_szTerm.calls k _ _ _ _ l2_2 _ _ l2_3 z0 z1 _ (Kd.C_below HR2_2.out (by first | exact All.base HA.out | exact pw_below_drewN (All.base HA.out) _ | exact below_drew1 (All.base HA.out))) HC2_2.out (Kd.C_below HR2_3.out (by first | exact All.base HA.out | exact pw_below_drewN (All.base HA.out) _ | exact below_drew1 (All.base HA.out))) HC2_3.out Z1.out).mono ?_); rintro e w14 ⟨rfl, hb⟩; refine ⟨_, rfl, ?_⟩; have n_ := Aside0.mk (All.below (by first | exact HA.out | exact All.drewN HA.out _ | exact All.drew HA.out) hb); clear HA; have HA := n_; clear n_ hb))
 clear ca0 ca1 ca2 ca3
 have h := H.out
 clear H
 by_cases d1 : z1 < 0
 · rw [if_pos d1] at h
   have d1b : decide (z1 < 0) = true := decide_eq_true d1
   (first | rw [d1b] | (simp only [i64_w, i32_w]; rw [d1b]) | skip)
   obtain rfl := Option.some.inj h
   go_wp2
   go_ret
   exact ⟨rfl, (by first | exact All.base HA.out | exact pw_below_drewN (All.base HA.out) _ | exact below_drew1 (All.base HA.out))⟩
 rw [if_neg d1] at h
 have d1b : decide (z1 < 0) = false := decide_eq_false d1
 (first | rw [d1b] | (simp only [i64_w, i32_w]; rw [d1b]) | skip)
 clear d1
 have H := Aside0.mk h
 clear h
 have h := H.out
 clear H
 obtain ⟨⟨p01, p02, p03, p04⟩, A0p, h⟩ := Option.bind_eq_some_iff.mp h
 obtain ⟨⟨p21, p22, p23, p24⟩, A2p, h⟩ := Option.bind_eq_some_iff.mp h
 obtain ⟨⟨s1, s2, s3, s4, s5⟩, As, h⟩ := Option.bind_eq_some_iff.mp h
 obtain ⟨⟨g1, g2, g3, g4, g5⟩, Ag, h⟩ := Option.bind_eq_some_iff.mp h
 obtain ⟨e, Ae, h⟩ := Option.bind_eq_some_iff.mp h
 obtain ⟨e0, E0, h⟩ := Option.bind_eq_some_iff.mp h
 obtain ⟨e2, E2, h⟩ := Option.bind_eq_some_iff.mp h
 obtain ⟨⟨m01, m03, m04⟩, M0, h⟩ := Option.bind_eq_some_iff.mp h
 obtain ⟨⟨m21, m23, m24⟩, M2, h⟩ := Option.bind_eq_some_iff.mp h
 obtain ⟨⟨u1, u3, u4⟩, Au, h⟩ := Option.bind_eq_some_iff.mp h
 obtain ⟨hh, Ah, h⟩ := Option.bind_eq_some_iff.mp h
 obtain rfl := hr_
 replace h := Option.some.inj h
 simp only [Bool.and_eq_true, decide_eq_true_eq] at h
 obtain ⟨rfl, rfl, rfl, cg, cn, ch, cu⟩ := h
 try dsimp only at cg cn ch cu
 subst cg cu
 replace A0p := Aside0.mk A0p
 replace A2p := Aside0.mk A2p
 replace As := Aside0.mk As
 replace Ag := Aside0.mk Ag
 replace Ae := Aside0.mk Ae
 replace E0 := Aside0.mk E0
 replace E2 := Aside0.mk E2
 replace M0 := Aside0.mk M0
 replace M2 := Aside0.mk M2
 replace Au := Aside0.mk Au
 replace Ah := Aside0.mk Ah
 have cnb : decide (m21 < 0) = false := decide_eq_false cn
 have chb : decide (hh < 0) = false := decide_eq_false ch
 have cgb : (g5 != g5) = false := bne_self_eq_false g5
 have chh : (hh != hh) = false := bne_self_eq_false hh
 clear cn ch
 try dsimp only at A0p A2p As Ag Ae E0 E2 M0 M2 Au Ah
 go_upto_region 8 with (fail)
 replace HA := Aside0.mk (All.drew HA.out)
 refine start_ (n := 12) (S := (fun w' => w'.heap[ga0]? = some (.cells #[.int .i64 a0_0, .int .i64 a0_1, .slice A0_2 l0_2.length c0_2, .slice A0_3 l0_3.length c0_3] 36 (0, 0)) ∧ w'.heap[ga2]? = some (.cells #[.int .i64 a2_0, .int .i64 a2_1, .slice A2_2 l2_2.length c2_2, .slice A2_3 l2_3.length c2_3] 36 (0, 0)))) (ds := []) #[false, false, false, false, false, false, false, false, false, false, false, false] (by kernel_rfl) rfl rfl ⟨HA.out.2.1.1, HA.out.1.1⟩ (fun hHeld => ?_); refine with_tabW laws_FnExactSubstituteTerm.tab8 laws_FnExactSubstituteTerm.bits8 (fun HT_ HW_ => ?_)
 generalize w14.drew = w15 at HA hHeld ⊢
 refine take_ (i := 0) (N := some 30) (v := ?_) (a' := ?_) #[true, false, false, false, false, false, false, false, false, false, false, false] rfl rfl (take_ofW HT_.out HW_.out (by kernel_rfl)) (fun _ _ _ h => h) (Or.inl ⟨by rfl, ?_⟩) hHeld ?_ ?_
 rotate_left
 · rintro w' ⟨s0, s1⟩
   obtain ⟨q0, q1, q2, q3⟩ := bc4_ s0
   go_simp
   with_reducible rfl
 rotate_left
 · simp only [Act.put, List.setIfInBounds_toArray, List.set_cons_zero, List.set_cons_succ, i64_w, i32_w]
   rfl
 refine pure_ (i := 2) (N := some 32) (v := ?_) (a' := ?_) #[true, false, true, false, false, false, false, false, false, false, false, false] rfl rfl (any_of HT_.out (by kernel_rfl)) (fun _ _ _ h => h) (Or.inl ⟨by rfl, ?_⟩) ?_ ?_
 rotate_left
 · intro w'
   go_simp
   with_reducible rfl
 rotate_left
 · simp only [Act.put, List.setIfInBounds_toArray, List.set_cons_zero, List.set_cons_succ, i64_w, i32_w]
   rfl
 refine take_ (i := 3) (N := some 33) (v := ?_) (a' := ?_) #[true, false, true, true, false, false, false, false, false, false, false, false] rfl rfl (take_ofW HT_.out HW_.out (by kernel_rfl)) (fun _ _ _ h => h) (Or.inl ⟨by rfl, ?_⟩) hHeld ?_ ?_
 rotate_left
 · rintro w' ⟨s0, s1⟩
   obtain ⟨q0, q1, q2, q3⟩ := bc4_ s1
   go_simp
   with_reducible rfl
 rotate_left
 · simp only [Act.put, List.setIfInBounds_toArray, List.set_cons_zero, List.set_cons_succ, i64_w, i32_w]
   rfl
 refine join_ (σ := Tx × Tx × Tx × Nat) 2 #[true, true, true, true, true, true, true, true, true, true, false, false] (fun s_ => [(31, .agg #[.int .i64 p01, .int .i64 p02, .slice s_.1.A2 s_.1.n2 s_.1.c2, .slice s_.1.A3 s_.1.n3 s_.1.c3]), (34, .agg #[.int .i64 p21, .int .i64 p22, .slice s_.2.1.A2 s_.2.1.n2 s_.2.1.c2, .slice s_.2.1.A3 s_.2.1.n3 s_.2.1.c3]), (35, (.tuple #[.agg #[.int .i64 s1, .int .i64 s2, .slice s_.2.2.1.A2 s_.2.2.1.n2 s_.2.2.1.c2, .slice s_.2.2.1.A3 s_.2.2.1.n3 s_.2.2.1.c3], .bool g5])), (8, .pointer (some ⟨s_.2.2.2, 0, none⟩)), (29, (.tuple #[.agg #[.int .i64 s1, .int .i64 s2, .slice s_.2.2.1.A2 s_.2.2.1.n2 s_.2.2.1.c2, .slice s_.2.2.1.A3 s_.2.2.1.n3 s_.2.2.1.c3], .bool g5])), (36, .agg #[.int .i64 s1, .int .i64 s2, .slice s_.2.2.1.A2 s_.2.2.1.n2 s_.2.2.1.c2, .slice s_.2.2.1.A3 s_.2.2.1.n3 s_.2.2.1.c3]), (37, .bool g5)]) (fun s_ w' => (fun w' => w'.heap[ga0]? = some (.cells #[.int .i64 a0_0, .int .i64 a0_1, .slice A0_2 l0_2.length c0_2, .slice A0_3 l0_3.length c0_3] 36 (0, 0)) ∧ w'.heap[ga2]? = some (.cells #[.int .i64 a2_0, .int .i64 a2_1, .slice A2_2 l2_2.length c2_2, .slice A2_3 l2_3.length c2_3] 36 (0, 0))) w' ∧ All w [Ob.term w.heap.size s_.2.2.1 s3 s4, Ob.box s_.2.2.2 #[.int .i64 0, .int .i64 0, .slice none 0 0, .slice none 0 0] 40, Ob.box ga2 #[.int .i64 a2_0, .int .i64 a2_1, .slice A2_2 l2_2.length c2_2, .slice A2_3 l2_3.length c2_3] 36, Ob.box ga0 #[.int .i64 a0_0, .int .i64 a0_1, .slice A0_2 l0_2.length c0_2, .slice A0_3 l0_3.length c0_3] 36] w') ?_ ?_
 rotate_left
 · intro hCont
   refine two_ (i := 1) (j := 9) (Ni := some 31) (Nj := some 8) #[true, true, true, true, false, false, false, false, false, false, false, false] #[true, false, true, true, false, false, false, false, false, true, false, false] rfl rfl rfl rfl (two_of HT_.out (by kernel_rfl)) (by decide) (by decide) (fun K hK => ?_) (fun K hK => ?_)
   · skip
     refine goes_ Try.func18 (by kernel_rfl) rfl #[.agg #[.int .i64 a0_0, .int .i64 a0_1, .slice A0_2 l0_2.length c0_2, .slice A0_3 l0_3.length c0_3]] (by rfl) rfl rfl la_ ?_
     refine (toT k HR0_2.out HC0_2.out HR0_3.out HC0_3.out _ (by first | exact All.base HA.out | exact pw_below_drewN (All.base HA.out) _ | exact below_drew1 (All.base HA.out)) A0p.out).mono ?_
     rintro e w16 ⟨xa0, rfl, hp, hb⟩
     refine ⟨_, rfl, ?_⟩
     have n_ := Aside0.mk (All.push (by first | exact HA.out | exact All.drewN HA.out _ | exact All.drew HA.out) hb (Ob.term w.heap.size xa0 p03 p04) hp.1 hp.2.1 hp.2.2)
     clear HA
     have HA := n_
     clear n_ hp hb
     refine hK.out _ _ ⟨HA.out.2.2.1.1, HA.out.2.1.1⟩ (fun hHeld => ?_)
     clear hK K
     refine norm_ (a' := ?_) ?_ ?_
     rotate_left
     · show Act.put _ (some 31) _ = _
       simp only [Act.put, List.setIfInBounds_toArray, List.set_cons_zero, List.set_cons_succ, i64_w, i32_w]
       rfl
     refine two_ (i := 4) (j := 9) (Ni := some 34) (Nj := some 8) #[true, true, true, true, true, false, false, false, false, false, false, false] #[true, true, true, true, false, false, false, false, false, true, false, false] rfl rfl rfl rfl (two_of HT_.out (by kernel_rfl)) (by decide) (by decide) (fun K hK => ?_) (fun K hK => ?_)
     · skip
       refine goes_ Try.func18 (by kernel_rfl) rfl #[.agg #[.int .i64 a2_0, .int .i64 a2_1, .slice A2_2 l2_2.length c2_2, .slice A2_3 l2_3.length c2_3]] (by rfl) rfl rfl la_ ?_
       refine (toT k HR2_2.out HC2_2.out HR2_3.out HC2_3.out _ (by first | exact All.base HA.out | exact pw_below_drewN (All.base HA.out) _ | exact below_drew1 (All.base HA.out)) A2p.out).mono ?_
       rintro e w17 ⟨xa2, rfl, hp, hb⟩
       refine ⟨_, rfl, ?_⟩
       have n_ := Aside0.mk (All.push (by first | exact HA.out | exact All.drewN HA.out _ | exact All.drew HA.out) hb (Ob.term w.heap.size xa2 p23 p24) hp.1 hp.2.1 hp.2.2)
       clear HA
       have HA := n_
       clear n_ hp hb
       refine hK.out _ _ ⟨HA.out.2.2.2.1.1, HA.out.2.2.1.1⟩ (fun hHeld => ?_)
       clear hK K
       refine norm_ (a' := ?_) ?_ ?_
       rotate_left
       · show Act.put _ (some 34) _ = _
         simp only [Act.put, List.setIfInBounds_toArray, List.set_cons_zero, List.set_cons_succ, i64_w, i32_w]
         rfl
       refine two_ (i := 5) (j := 9) (Ni := some 35) (Nj := some 8) #[true, true, true, true, true, true, false, false, false, false, false, false] #[true, true, true, true, true, false, false, false, false, true, false, false] rfl rfl rfl rfl (two_of HT_.out (by kernel_rfl)) (by decide) (by decide) (fun K hK => ?_) (fun K hK => ?_)
       · skip
         refine goes_ Try.func27 (by kernel_rfl) rfl #[.agg #[.int .i64 p01, .int .i64 p02, .slice xa0.A2 xa0.n2 xa0.c2, .slice xa0.A3 xa0.n3 xa0.c3], .int .i64 a1, .agg #[.int .i64 p21, .int .i64 p22, .slice xa2.A2 xa2.n2 xa2.c2, .slice xa2.A3 xa2.n3 xa2.c3]] (by rfl) rfl rfl la_ ?_
         refine (specW k (by first | exact All.base HA.out | exact pw_below_drewN (All.base HA.out) _ | exact below_drew1 (All.base HA.out)) (termP_move HA.out.2.1.1 (fun _ _ _ => rfl)) (termP_move HA.out.1.1 (fun _ _ _ => rfl)) As.out).mono ?_
         rintro e w18 ⟨z, rfl, hp, hb⟩
         refine ⟨_, rfl, ?_⟩
         have n_ := Aside0.mk (All.push (by first | exact HA.out | exact All.drewN HA.out _ | exact All.drew HA.out) hb (Ob.term w.heap.size z s3 s4) hp.1 hp.2.1 hp.2.2)
         clear HA
         have HA := n_
         clear n_ hp hb
         refine hK.out _ _ ⟨HA.out.2.2.2.2.1.1, HA.out.2.2.2.1.1⟩ (fun hHeld => ?_)
         clear hK K
         refine norm_ (a' := ?_) ?_ ?_
         rotate_left
         · show Act.put _ (some 35) _ = _
           simp only [Act.put, List.setIfInBounds_toArray, List.set_cons_zero, List.set_cons_succ, i64_w, i32_w]
           rfl
         refine pure_ (i := 6) (N := some 29) (v := ?_) (a' := ?_) #[true, true, true, true, true, true, true, false, false, false, false, false] rfl rfl (any_of HT_.out (by kernel_rfl)) (fun _ _ _ h => h) (Or.inl ⟨by rfl, ?_⟩) ?_ ?_
         rotate_left
         · intro w'
           go_simp
           with_reducible rfl
         rotate_left
         · simp only [Act.put, List.setIfInBounds_toArray, List.set_cons_zero, List.set_cons_succ, i64_w, i32_w]
           rfl
         refine pure_ (i := 7) (N := some 36) (v := ?_) (a' := ?_) #[true, true, true, true, true, true, true, true, false, false, false, false] rfl rfl (any_of HT_.out (by kernel_rfl)) (fun _ _ _ h => h) (Or.inl ⟨by rfl, ?_⟩) ?_ ?_
         rotate_left
         · intro w'
           go_simp
           with_reducible rfl
         rotate_left
         · simp only [Act.put, List.setIfInBounds_toArray, List.set_cons_zero, List.set_cons_succ, i64_w, i32_w]
           rfl
         refine pure_ (i := 8) (N := some 37) (v := ?_) (a' := ?_) #[true, true, true, true, true, true, true, true, true, false, false, false] rfl rfl (any_of HT_.out (by kernel_rfl)) (fun _ _ _ h => h) (Or.inl ⟨by rfl, ?_⟩) ?_ ?_
         rotate_left
         · intro w'
           go_simp
           with_reducible rfl
         rotate_left
         · simp only [Act.put, List.setIfInBounds_toArray, List.set_cons_zero, List.set_cons_succ, i64_w, i32_w]
           rfl
         refine one_ (i := 9) (N := some 8) #[true, true, true, true, true, true, true, true, true, true, false, false] rfl rfl (one_of HT_.out (by kernel_rfl)) (by decide) (fun K hK => ?_)
         refine box_step ?hg (N := 8) ?hd (cs := #[.int .i64 0, .int .i64 0, .slice none 0 0, .slice none 0 0]) (t := 40) ?hr ?_; (case hd => rfl); (case hg => rfl); (case hr => first | (go_simp; done) | (go_simp; rfl))
         intro gb hg w19 hbox hb
         have n_ := Aside0.mk (All.box (by first | exact HA.out | exact All.drewN HA.out _ | exact All.drew HA.out) hg hbox hb)
         clear HA
         have HA := n_
         clear n_ hg hbox hb
         refine hK.out _ _ ⟨HA.out.2.2.2.2.2.1.1, HA.out.2.2.2.2.1.1⟩ (fun hHeld => ?_)
         clear hK K
         refine norm_ (a' := ?_) ?_ ?_
         rotate_left
         · show Act.put _ (some 8) _ = _
           simp only [Act.put, List.setIfInBounds_toArray, List.set_cons_zero, List.set_cons_succ, i64_w, i32_w]
           rfl
         exact norm_ (by simp only [putAll, Act.put, List.setIfInBounds_toArray, List.set_cons_zero, List.set_cons_succ]) (hCont (xa0, xa2, z, gb) _ ⟨hHeld, (All.drop3 (All.drop3 (All.swap HA.out)))⟩)
       refine box_step ?hg (N := 8) ?hd (cs := #[.int .i64 0, .int .i64 0, .slice none 0 0, .slice none 0 0]) (t := 40) ?hr ?_; (case hd => rfl); (case hg => rfl); (case hr => first | (go_simp; done) | (go_simp; rfl))
       intro gb hg w20 hbox hb
       have n_ := Aside0.mk (All.box (by first | exact HA.out | exact All.drewN HA.out _ | exact All.drew HA.out) hg hbox hb)
       clear HA
       have HA := n_
       clear n_ hg hbox hb
       refine hK.out _ _ ⟨HA.out.2.2.2.2.1.1, HA.out.2.2.2.1.1⟩ (fun hHeld => ?_)
       clear hK K
       refine norm_ (a' := ?_) ?_ ?_
       rotate_left
       · show Act.put _ (some 8) _ = _
         simp only [Act.put, List.setIfInBounds_toArray, List.set_cons_zero, List.set_cons_succ, i64_w, i32_w]
         rfl
       refine one_ (i := 5) (N := some 35) #[true, true, true, true, true, true, false, false, false, true, false, false] rfl rfl (one_of HT_.out (by kernel_rfl)) (by decide) (fun K hK => ?_)
       refine goes_ Try.func27 (by kernel_rfl) rfl #[.agg #[.int .i64 p01, .int .i64 p02, .slice xa0.A2 xa0.n2 xa0.c2, .slice xa0.A3 xa0.n3 xa0.c3], .int .i64 a1, .agg #[.int .i64 p21, .int .i64 p22, .slice xa2.A2 xa2.n2 xa2.c2, .slice xa2.A3 xa2.n3 xa2.c3]] (by rfl) rfl rfl la_ ?_
       refine (specW k (by first | exact All.base HA.out | exact pw_below_drewN (All.base HA.out) _ | exact below_drew1 (All.base HA.out)) (termP_move HA.out.2.2.1.1 (fun _ _ _ => rfl)) (termP_move HA.out.2.1.1 (fun _ _ _ => rfl)) As.out).mono ?_
       rintro e w21 ⟨z, rfl, hp, hb⟩
       refine ⟨_, rfl, ?_⟩
       have n_ := Aside0.mk (All.push (by first | exact HA.out | exact All.drewN HA.out _ | exact All.drew HA.out) hb (Ob.term w.heap.size z s3 s4) hp.1 hp.2.1 hp.2.2)
       clear HA
       have HA := n_
       clear n_ hp hb
       refine hK.out _ _ ⟨HA.out.2.2.2.2.2.1.1, HA.out.2.2.2.2.1.1⟩ (fun hHeld => ?_)
       clear hK K
       refine norm_ (a' := ?_) ?_ ?_
       rotate_left
       · show Act.put _ (some 35) _ = _
         simp only [Act.put, List.setIfInBounds_toArray, List.set_cons_zero, List.set_cons_succ, i64_w, i32_w]
         rfl
       refine pure_ (i := 6) (N := some 29) (v := ?_) (a' := ?_) #[true, true, true, true, true, true, true, false, false, true, false, false] rfl rfl (any_of HT_.out (by kernel_rfl)) (fun _ _ _ h => h) (Or.inl ⟨by rfl, ?_⟩) ?_ ?_
       rotate_left
       · intro w'
         go_simp
         with_reducible rfl
       rotate_left
       · simp only [Act.put, List.setIfInBounds_toArray, List.set_cons_zero, List.set_cons_succ, i64_w, i32_w]
         rfl
       refine pure_ (i := 7) (N := some 36) (v := ?_) (a' := ?_) #[true, true, true, true, true, true, true, true, false, true, false, false] rfl rfl (any_of HT_.out (by kernel_rfl)) (fun _ _ _ h => h) (Or.inl ⟨by rfl, ?_⟩) ?_ ?_
       rotate_left
       · intro w'
         go_simp
         with_reducible rfl
       rotate_left
       · simp only [Act.put, List.setIfInBounds_toArray, List.set_cons_zero, List.set_cons_succ, i64_w, i32_w]
         rfl
       refine pure_ (i := 8) (N := some 37) (v := ?_) (a' := ?_) #[true, true, true, true, true, true, true, true, true, true, false, false] rfl rfl (any_of HT_.out (by kernel_rfl)) (fun _ _ _ h => h) (Or.inl ⟨by rfl, ?_⟩) ?_ ?_
       rotate_left
       · intro w'
         go_simp
         with_reducible rfl
       rotate_left
       · simp only [Act.put, List.setIfInBounds_toArray, List.set_cons_zero, List.set_cons_succ, i64_w, i32_w]
         rfl
       exact norm_ (by simp only [putAll, Act.put, List.setIfInBounds_toArray, List.set_cons_zero, List.set_cons_succ]) (hCont (xa0, xa2, z, gb) _ ⟨hHeld, (All.drop3 (All.drop3 HA.out))⟩)
     refine box_step ?hg (N := 8) ?hd (cs := #[.int .i64 0, .int .i64 0, .slice none 0 0, .slice none 0 0]) (t := 40) ?hr ?_; (case hd => rfl); (case hg => rfl); (case hr => first | (go_simp; done) | (go_simp; rfl))
     intro gb hg w22 hbox hb
     have n_ := Aside0.mk (All.box (by first | exact HA.out | exact All.drewN HA.out _ | exact All.drew HA.out) hg hbox hb)
     clear HA
     have HA := n_
     clear n_ hg hbox hb
     refine hK.out _ _ ⟨HA.out.2.2.2.1.1, HA.out.2.2.1.1⟩ (fun hHeld => ?_)
     clear hK K
     refine norm_ (a' := ?_) ?_ ?_
     rotate_left
     · show Act.put _ (some 8) _ = _
       simp only [Act.put, List.setIfInBounds_toArray, List.set_cons_zero, List.set_cons_succ, i64_w, i32_w]
       rfl
     refine one_ (i := 4) (N := some 34) #[true, true, true, true, true, false, false, false, false, true, false, false] rfl rfl (one_of HT_.out (by kernel_rfl)) (by decide) (fun K hK => ?_)
     refine goes_ Try.func18 (by kernel_rfl) rfl #[.agg #[.int .i64 a2_0, .int .i64 a2_1, .slice A2_2 l2_2.length c2_2, .slice A2_3 l2_3.length c2_3]] (by rfl) rfl rfl la_ ?_
     refine (toT k HR2_2.out HC2_2.out HR2_3.out HC2_3.out _ (by first | exact All.base HA.out | exact pw_below_drewN (All.base HA.out) _ | exact below_drew1 (All.base HA.out)) A2p.out).mono ?_
     rintro e w23 ⟨xa2, rfl, hp, hb⟩
     refine ⟨_, rfl, ?_⟩
     have n_ := Aside0.mk (All.push (by first | exact HA.out | exact All.drewN HA.out _ | exact All.drew HA.out) hb (Ob.term w.heap.size xa2 p23 p24) hp.1 hp.2.1 hp.2.2)
     clear HA
     have HA := n_
     clear n_ hp hb
     refine hK.out _ _ ⟨HA.out.2.2.2.2.1.1, HA.out.2.2.2.1.1⟩ (fun hHeld => ?_)
     clear hK K
     refine norm_ (a' := ?_) ?_ ?_
     rotate_left
     · show Act.put _ (some 34) _ = _
       simp only [Act.put, List.setIfInBounds_toArray, List.set_cons_zero, List.set_cons_succ, i64_w, i32_w]
       rfl
     refine one_ (i := 5) (N := some 35) #[true, true, true, true, true, true, false, false, false, true, false, false] rfl rfl (one_of HT_.out (by kernel_rfl)) (by decide) (fun K hK => ?_)
     refine goes_ Try.func27 (by kernel_rfl) rfl #[.agg #[.int .i64 p01, .int .i64 p02, .slice xa0.A2 xa0.n2 xa0.c2, .slice xa0.A3 xa0.n3 xa0.c3], .int .i64 a1, .agg #[.int .i64 p21, .int .i64 p22, .slice xa2.A2 xa2.n2 xa2.c2, .slice xa2.A3 xa2.n3 xa2.c3]] (by rfl) rfl rfl la_ ?_
     refine (specW k (by first | exact All.base HA.out | exact pw_below_drewN (All.base HA.out) _ | exact below_drew1 (All.base HA.out)) (termP_move HA.out.2.2.1.1 (fun _ _ _ => rfl)) (termP_move HA.out.1.1 (fun _ _ _ => rfl)) As.out).mono ?_
     rintro e w24 ⟨z, rfl, hp, hb⟩
     refine ⟨_, rfl, ?_⟩
     have n_ := Aside0.mk (All.push (by first | exact HA.out | exact All.drewN HA.out _ | exact All.drew HA.out) hb (Ob.term w.heap.size z s3 s4) hp.1 hp.2.1 hp.2.2)
     clear HA
     have HA := n_
     clear n_ hp hb
     refine hK.out _ _ ⟨HA.out.2.2.2.2.2.1.1, HA.out.2.2.2.2.1.1⟩ (fun hHeld => ?_)
     clear hK K
     refine norm_ (a' := ?_) ?_ ?_
     rotate_left
     · show Act.put _ (some 35) _ = _
       simp only [Act.put, List.setIfInBounds_toArray, List.set_cons_zero, List.set_cons_succ, i64_w, i32_w]
       rfl
     refine pure_ (i := 6) (N := some 29) (v := ?_) (a' := ?_) #[true, true, true, true, true, true, true, false, false, true, false, false] rfl rfl (any_of HT_.out (by kernel_rfl)) (fun _ _ _ h => h) (Or.inl ⟨by rfl, ?_⟩) ?_ ?_
     rotate_left
     · intro w'
       go_simp
       with_reducible rfl
     rotate_left
     · simp only [Act.put, List.setIfInBounds_toArray, List.set_cons_zero, List.set_cons_succ, i64_w, i32_w]
       rfl
     refine pure_ (i := 7) (N := some 36) (v := ?_) (a' := ?_) #[true, true, true, true, true, true, true, true, false, true, false, false] rfl rfl (any_of HT_.out (by kernel_rfl)) (fun _ _ _ h => h) (Or.inl ⟨by rfl, ?_⟩) ?_ ?_
     rotate_left
     · intro w'
       go_simp
       with_reducible rfl
     rotate_left
     · simp only [Act.put, List.setIfInBounds_toArray, List.set_cons_zero, List.set_cons_succ, i64_w, i32_w]
       rfl
     refine pure_ (i := 8) (N := some 37) (v := ?_) (a' := ?_) #[true, true, true, true, true, true, true, true, true, true, false, false] rfl rfl (any_of HT_.out (by kernel_rfl)) (fun _ _ _ h => h) (Or.inl ⟨by rfl, ?_⟩) ?_ ?_
     rotate_left
     · intro w'
       go_simp
       with_reducible rfl
     rotate_left
     · simp only [Act.put, List.setIfInBounds_toArray, List.set_cons_zero, List.set_cons_succ, i64_w, i32_w]
       rfl
     exact norm_ (by simp only [putAll, Act.put, List.setIfInBounds_toArray, List.set_cons_zero, List.set_cons_succ]) (hCont (xa0, xa2, z, gb) _ ⟨hHeld, (All.drop3 (All.drop2 HA.out))⟩)
   refine box_step ?hg (N := 8) ?hd (cs := #[.int .i64 0, .int .i64 0, .slice none 0 0, .slice none 0 0]) (t := 40) ?hr ?_; (case hd => rfl); (case hg => rfl); (case hr => first | (go_simp; done) | (go_simp; rfl))
   intro gb hg w25 hbox hb
   have n_ := Aside0.mk (All.box (by first | exact HA.out | exact All.drewN HA.out _ | exact All.drew HA.out) hg hbox hb)
   clear HA
   have HA := n_
   clear n_ hg hbox hb
   refine hK.out _ _ ⟨HA.out.2.2.1.1, HA.out.2.1.1⟩ (fun hHeld => ?_)
   clear hK K
   refine norm_ (a' := ?_) ?_ ?_
   rotate_left
   · show Act.put _ (some 8) _ = _
     simp only [Act.put, List.setIfInBounds_toArray, List.set_cons_zero, List.set_cons_succ, i64_w, i32_w]
     rfl
   refine one_ (i := 1) (N := some 31) #[true, true, true, true, false, false, false, false, false, true, false, false] rfl rfl (one_of HT_.out (by kernel_rfl)) (by decide) (fun K hK => ?_)
   refine goes_ Try.func18 (by kernel_rfl) rfl #[.agg #[.int .i64 a0_0, .int .i64 a0_1, .slice A0_2 l0_2.length c0_2, .slice A0_3 l0_3.length c0_3]] (by rfl) rfl rfl la_ ?_
   refine (toT k HR0_2.out HC0_2.out HR0_3.out HC0_3.out _ (by first | exact All.base HA.out | exact pw_below_drewN (All.base HA.out) _ | exact below_drew1 (All.base HA.out)) A0p.out).mono ?_
   rintro e w26 ⟨xa0, rfl, hp, hb⟩
   refine ⟨_, rfl, ?_⟩
   have n_ := Aside0.mk (All.push (by first | exact HA.out | exact All.drewN HA.out _ | exact All.drew HA.out) hb (Ob.term w.heap.size xa0 p03 p04) hp.1 hp.2.1 hp.2.2)
   clear HA
   have HA := n_
   clear n_ hp hb
   refine hK.out _ _ ⟨HA.out.2.2.2.1.1, HA.out.2.2.1.1⟩ (fun hHeld => ?_)
   clear hK K
   refine norm_ (a' := ?_) ?_ ?_
   rotate_left
   · show Act.put _ (some 31) _ = _
     simp only [Act.put, List.setIfInBounds_toArray, List.set_cons_zero, List.set_cons_succ, i64_w, i32_w]
     rfl
   refine one_ (i := 4) (N := some 34) #[true, true, true, true, true, false, false, false, false, true, false, false] rfl rfl (one_of HT_.out (by kernel_rfl)) (by decide) (fun K hK => ?_)
   refine goes_ Try.func18 (by kernel_rfl) rfl #[.agg #[.int .i64 a2_0, .int .i64 a2_1, .slice A2_2 l2_2.length c2_2, .slice A2_3 l2_3.length c2_3]] (by rfl) rfl rfl la_ ?_
   refine (toT k HR2_2.out HC2_2.out HR2_3.out HC2_3.out _ (by first | exact All.base HA.out | exact pw_below_drewN (All.base HA.out) _ | exact below_drew1 (All.base HA.out)) A2p.out).mono ?_
   rintro e w27 ⟨xa2, rfl, hp, hb⟩
   refine ⟨_, rfl, ?_⟩
   have n_ := Aside0.mk (All.push (by first | exact HA.out | exact All.drewN HA.out _ | exact All.drew HA.out) hb (Ob.term w.heap.size xa2 p23 p24) hp.1 hp.2.1 hp.2.2)
   clear HA
   have HA := n_
   clear n_ hp hb
   refine hK.out _ _ ⟨HA.out.2.2.2.2.1.1, HA.out.2.2.2.1.1⟩ (fun hHeld => ?_)
   clear hK K
   refine norm_ (a' := ?_) ?_ ?_
   rotate_left
   · show Act.put _ (some 34) _ = _
     simp only [Act.put, List.setIfInBounds_toArray, List.set_cons_zero, List.set_cons_succ, i64_w, i32_w]
     rfl
   refine one_ (i := 5) (N := some 35) #[true, true, true, true, true, true, false, false, false, true, false, false] rfl rfl (one_of HT_.out (by kernel_rfl)) (by decide) (fun K hK => ?_)
   refine goes_ Try.func27 (by kernel_rfl) rfl #[.agg #[.int .i64 p01, .int .i64 p02, .slice xa0.A2 xa0.n2 xa0.c2, .slice xa0.A3 xa0.n3 xa0.c3], .int .i64 a1, .agg #[.int .i64 p21, .int .i64 p22, .slice xa2.A2 xa2.n2 xa2.c2, .slice xa2.A3 xa2.n3 xa2.c3]] (by rfl) rfl rfl la_ ?_
   refine (specW k (by first | exact All.base HA.out | exact pw_below_drewN (All.base HA.out) _ | exact below_drew1 (All.base HA.out)) (termP_move HA.out.2.1.1 (fun _ _ _ => rfl)) (termP_move HA.out.1.1 (fun _ _ _ => rfl)) As.out).mono ?_
   rintro e w28 ⟨z, rfl, hp, hb⟩
   refine ⟨_, rfl, ?_⟩
   have n_ := Aside0.mk (All.push (by first | exact HA.out | exact All.drewN HA.out _ | exact All.drew HA.out) hb (Ob.term w.heap.size z s3 s4) hp.1 hp.2.1 hp.2.2)
   clear HA
   have HA := n_
   clear n_ hp hb
   refine hK.out _ _ ⟨HA.out.2.2.2.2.2.1.1, HA.out.2.2.2.2.1.1⟩ (fun hHeld => ?_)
   clear hK K
   refine norm_ (a' := ?_) ?_ ?_
   rotate_left
   · show Act.put _ (some 35) _ = _
     simp only [Act.put, List.setIfInBounds_toArray, List.set_cons_zero, List.set_cons_succ, i64_w, i32_w]
     rfl
   refine pure_ (i := 6) (N := some 29) (v := ?_) (a' := ?_) #[true, true, true, true, true, true, true, false, false, true, false, false] rfl rfl (any_of HT_.out (by kernel_rfl)) (fun _ _ _ h => h) (Or.inl ⟨by rfl, ?_⟩) ?_ ?_
   rotate_left
   · intro w'
     go_simp
     with_reducible rfl
   rotate_left
   · simp only [Act.put, List.setIfInBounds_toArray, List.set_cons_zero, List.set_cons_succ, i64_w, i32_w]
     rfl
   refine pure_ (i := 7) (N := some 36) (v := ?_) (a' := ?_) #[true, true, true, true, true, true, true, true, false, true, false, false] rfl rfl (any_of HT_.out (by kernel_rfl)) (fun _ _ _ h => h) (Or.inl ⟨by rfl, ?_⟩) ?_ ?_
   rotate_left
   · intro w'
     go_simp
     with_reducible rfl
   rotate_left
   · simp only [Act.put, List.setIfInBounds_toArray, List.set_cons_zero, List.set_cons_succ, i64_w, i32_w]
     rfl
   refine pure_ (i := 8) (N := some 37) (v := ?_) (a' := ?_) #[true, true, true, true, true, true, true, true, true, true, false, false] rfl rfl (any_of HT_.out (by kernel_rfl)) (fun _ _ _ h => h) (Or.inl ⟨by rfl, ?_⟩) ?_ ?_
   rotate_left
   · intro w'
     go_simp
     with_reducible rfl
   rotate_left
   · simp only [Act.put, List.setIfInBounds_toArray, List.set_cons_zero, List.set_cons_succ, i64_w, i32_w]
     rfl
   exact norm_ (by simp only [putAll, Act.put, List.setIfInBounds_toArray, List.set_cons_zero, List.set_cons_succ]) (hCont (xa0, xa2, z, gb) _ ⟨hHeld, (All.drop2 (All.drop2 HA.out))⟩)
 rintro ⟨xa0, xa2, xw, gw⟩ w29 ⟨hHeld, hA⟩
 dsimp only at hHeld hA ⊢
 clear HA
 have HA := Aside0.mk hA
 clear hA
 refine norm_ (a' := ?_) ?_ ?_
 rotate_left
 · simp only [putAll, Act.put, List.setIfInBounds_toArray, List.set_cons_zero, List.set_cons_succ]
   rfl
 refine one_ (i := 10) (N := none) #[true, true, true, true, true, true, true, true, true, true, true, false] rfl rfl (one_of HT_.out (by kernel_rfl)) (by decide) (fun K hK => ?_)
 obtain ⟨cz0, cz1, cz2, cz3, cz4, cz5, cz6, cz7⟩ := bf4_ HA.out.2.1.1
 have nA := All.set4 (l1 := [_]) HA.out (.int .i64 s1) (.int .i64 s2) (.slice xw.A2 xw.n2 xw.c2) (.slice xw.A3 xw.n3 xw.c3)
 refine skip_ (w1 := ?_) (by rfl) rfl ?_ ?_
 rotate_left
 · go_simp
   rfl
 refine hK.out _ _ ⟨nA.2.2.2.1.1, nA.2.2.1.1⟩ (fun hHeld => ?_)
 clear hK K
 refine gen_any (All w _) nA ?_
 clear HA nA hHeld cz0 cz1 cz2 cz3 cz4 cz5 cz6 cz7
 intro w30 hA
 have HA := Aside0.mk hA
 clear hA
 refine pure_ (i := 11) (N := some 9) (v := ?_) (a' := ?_) #[true, true, true, true, true, true, true, true, true, true, true, true] rfl rfl (any_of HT_.out (by kernel_rfl)) (fun _ _ _ h => h) (Or.inl ⟨by rfl, ?_⟩) ?_ ?_
 rotate_left
 · intro w'
   go_simp
   with_reducible rfl
 rotate_left
 · simp only [Act.put, List.setIfInBounds_toArray, List.set_cons_zero, List.set_cons_succ, i64_w, i32_w]
   rfl
 refine done_ (done_of HT_.out (by kernel_rfl)) ?_
 obtain ⟨ci0, ci1, ci2, ci3⟩ := bc4_ HA.out.2.2.2.1.1
 go_upto_region 10 with (first | ((with_reducible refine gate_callee (f := 18) rfl ?_); refine goesL_ (some 39) rfl rfl Try.func18 (by kernel_rfl) rfl #[.agg #[.int .i64 a0_0, .int .i64 a0_1, .slice A0_2 l0_2.length c0_2, .slice A0_3 l0_3.length c0_3]] rfl la_ ?_; (refine (toT k HR0_2.out HC0_2.out HR0_3.out HC0_3.out _ (by first | exact All.base HA.out | exact pw_below_drewN (All.base HA.out) _ | exact below_drew1 (All.base HA.out)) A0p.out).mono ?_); rintro e w31 ⟨x0, rfl, hp, hb⟩; refine ⟨_, rfl, ?_⟩; have n_ := Aside0.mk (All.push (by first | exact HA.out | exact All.drewN HA.out _ | exact All.drew HA.out) hb (Ob.term w.heap.size x0 p03 p04) hp.1 hp.2.1 hp.2.2); clear HA; have HA := n_; clear n_ hp hb) | ((with_reducible refine gate_dst (N := 10) rfl ?_); (try (refine gate_guard (by rfl) ?_; dsimp only)); refine box_event ?hg (N := 10) ?hd (cs := #[.int .i64 0, .int .i64 0, .slice none 0 0, .slice none 0 0]) (t := 40) ?hr ?_; (case hd => rfl); (case hg => rfl); (case hr => first | (go_simp; done) | (go_simp; rfl)); intro gx0 hg w32 hbox hb; have n_ := Aside0.mk (All.box (by first | exact HA.out | exact All.drewN HA.out _ | exact All.drew HA.out) hg hbox hb); clear HA; have HA := n_; clear n_ hg hbox hb; obtain ⟨cz0, cz1, cz2, cz3, cz4, cz5, cz6, cz7⟩ := bf4_ HA.out.1.1))
 refine gen_wp (All w _) (All.set4 (l1 := []) HA.out (.int .i64 p01) (.int .i64 p02) (.slice x0.A2 x0.n2 x0.c2) (.slice x0.A3 x0.n3 x0.c3)) ?_
 clear HA
 intro w33 hA
 have HA := Aside0.mk hA
 clear hA
 clear ci0 ci1 ci2 ci3 cz0 cz1 cz2 cz3 cz4 cz5 cz6 cz7
 obtain ⟨ci0, ci1, ci2, ci3⟩ := bc4_ HA.out.2.2.2.2.1.1
 go_upto_region 11 with (first | ((with_reducible refine gate_callee (f := 18) rfl ?_); refine goesL_ (some 41) rfl rfl Try.func18 (by kernel_rfl) rfl #[.agg #[.int .i64 a2_0, .int .i64 a2_1, .slice A2_2 l2_2.length c2_2, .slice A2_3 l2_3.length c2_3]] rfl la_ ?_; (refine (toT k HR2_2.out HC2_2.out HR2_3.out HC2_3.out _ (by first | exact All.base HA.out | exact pw_below_drewN (All.base HA.out) _ | exact below_drew1 (All.base HA.out)) A2p.out).mono ?_); rintro e w34 ⟨x2, rfl, hp, hb⟩; refine ⟨_, rfl, ?_⟩; have n_ := Aside0.mk (All.push (by first | exact HA.out | exact All.drewN HA.out _ | exact All.drew HA.out) hb (Ob.term w.heap.size x2 p23 p24) hp.1 hp.2.1 hp.2.2); clear HA; have HA := n_; clear n_ hp hb) | ((with_reducible refine gate_dst (N := 11) rfl ?_); (try (refine gate_guard (by rfl) ?_; dsimp only)); refine box_event ?hg (N := 11) ?hd (cs := #[.int .i64 0, .int .i64 0, .slice none 0 0, .slice none 0 0]) (t := 40) ?hr ?_; (case hd => rfl); (case hg => rfl); (case hr => first | (go_simp; done) | (go_simp; rfl)); intro gx2 hg w35 hbox hb; have n_ := Aside0.mk (All.box (by first | exact HA.out | exact All.drewN HA.out _ | exact All.drew HA.out) hg hbox hb); clear HA; have HA := n_; clear n_ hg hbox hb; obtain ⟨cz0, cz1, cz2, cz3, cz4, cz5, cz6, cz7⟩ := bf4_ HA.out.1.1))
 refine gen_wp (All w _) (All.set4 (l1 := []) HA.out (.int .i64 p21) (.int .i64 p22) (.slice x2.A2 x2.n2 x2.c2) (.slice x2.A3 x2.n3 x2.c3)) ?_
 clear HA
 intro w36 hA
 have HA := Aside0.mk hA
 clear hA
 clear ci0 ci1 ci2 ci3 cz0 cz1 cz2 cz3 cz4 cz5 cz6 cz7
 obtain ⟨ci00, ci01, ci02, ci03⟩ := bc4_ HA.out.2.2.1.1
 obtain ⟨ci20, ci21, ci22, ci23⟩ := bc4_ HA.out.1.1
 go_upto_region 12 with (first | ((with_reducible refine gate_callee (f := 28) rfl ?_); refine goesL_ (some 46) rfl rfl Try.func28 (by kernel_rfl) rfl #[.agg #[.int .i64 p01, .int .i64 p02, .slice x0.A2 x0.n2 x0.c2, .slice x0.A3 x0.n3 x0.c3], .int .i64 a1, .agg #[.int .i64 p21, .int .i64 p22, .slice x2.A2 x2.n2 x2.c2, .slice x2.A3 x2.n3 x2.c3]] rfl la_ ?_; (refine (implW k (by first | exact All.base HA.out | exact pw_below_drewN (All.base HA.out) _ | exact below_drew1 (All.base HA.out)) (termP_move HA.out.2.2.2.1.1 (fun _ _ _ => rfl)) (termP_move HA.out.2.1.1 (fun _ _ _ => rfl)) Ag.out).mono ?_); rintro e w37 ⟨xg, rfl, hp, hb⟩; refine ⟨_, rfl, ?_⟩; have n_ := Aside0.mk (All.push (by first | exact HA.out | exact All.drewN HA.out _ | exact All.drew HA.out) hb (Ob.term w.heap.size xg g3 g4) hp.1 hp.2.1 hp.2.2); clear HA; have HA := n_; clear n_ hp hb) | ((with_reducible refine gate_dst (N := 12) rfl ?_); (try (refine gate_guard (by rfl) ?_; dsimp only)); refine box_event ?hg (N := 12) ?hd (cs := #[.int .i64 0, .int .i64 0, .slice none 0 0, .slice none 0 0]) (t := 40) ?hr ?_; (case hd => rfl); (case hg => rfl); (case hr => first | (go_simp; done) | (go_simp; rfl)); intro gg hg w38 hbox hb; have n_ := Aside0.mk (All.box (by first | exact HA.out | exact All.drewN HA.out _ | exact All.drew HA.out) hg hbox hb); clear HA; have HA := n_; clear n_ hg hbox hb; obtain ⟨cz0, cz1, cz2, cz3, cz4, cz5, cz6, cz7⟩ := bf4_ HA.out.1.1))
 refine gen_wp (All w _) (All.set4 (l1 := []) HA.out (.int .i64 g1) (.int .i64 g2) (.slice xg.A2 xg.n2 xg.c2) (.slice xg.A3 xg.n3 xg.c3)) ?_
 clear HA
 intro w39 hA
 have HA := Aside0.mk hA
 clear hA
 clear ci00 ci01 ci02 ci03 ci20 ci21 ci22 ci23 cz0 cz1 cz2 cz3 cz4 cz5 cz6 cz7
 obtain ⟨ci0, ci1, ci2, ci3⟩ := bc4_ HA.out.1.1
 obtain ⟨cj0, cj1, cj2, cj3⟩ := bc4_ HA.out.2.2.2.2.2.2.2.1.1
 go_upto_region 14 with (first | ((with_reducible refine gate_callee (f := 20) rfl ?_); refine goesL_ (some 51) rfl rfl Try.func20 (by kernel_rfl) rfl #[.agg #[.int .i64 g1, .int .i64 g2, .slice xg.A2 xg.n2 xg.c2, .slice xg.A3 xg.n3 xg.c3], .agg #[.int .i64 s1, .int .i64 s2, .slice xw.A2 xw.n2 xw.c2, .slice xw.A3 xw.n3 xw.c3]] rfl la_ ?_; (refine (eqT k (termP_move HA.out.2.1.1 (fun _ _ _ => rfl)) (termP_move HA.out.2.2.2.2.2.2.1.1 (fun _ _ _ => rfl)) Ae.out).mono ?_); rintro e w40 ⟨rfl, hb⟩; refine ⟨_, rfl, ?_⟩; have n_ := Aside0.mk (All.below (by first | exact HA.out | exact All.drewN HA.out _ | exact All.drew HA.out) hb); clear HA; have HA := n_; clear n_ hb))
 clear ci0 ci1 ci2 ci3 cj0 cj1 cj2 cj3
 replace HA := Aside0.mk (All.drew HA.out)
 refine start_ (n := 5) (S := (fun w' => w'.heap[gx0]? = some (.cells #[.int .i64 p01, .int .i64 p02, .slice x0.A2 x0.n2 x0.c2, .slice x0.A3 x0.n3 x0.c3] 40 (0, 0)) ∧ w'.heap[ga0]? = some (.cells #[.int .i64 a0_0, .int .i64 a0_1, .slice A0_2 l0_2.length c0_2, .slice A0_3 l0_3.length c0_3] 36 (0, 0)))) (ds := []) #[false, false, false, false, false] (by kernel_rfl) rfl rfl ⟨HA.out.2.2.2.2.1.1, HA.out.2.2.2.2.2.2.2.2.2.1.1⟩ (fun hHeld => ?_)
 generalize w40.drew = w41 at HA hHeld ⊢
 refine take_ (i := 0) (N := some 58) (v := ?_) (a' := ?_) #[true, false, false, false, false] rfl rfl (by kernel_rfl) (fun _ _ _ h => h) (Or.inl ⟨by rfl, ?_⟩) hHeld ?_ ?_
 rotate_left
 · rintro w' ⟨s0, s1⟩
   obtain ⟨q0, q1, q2, q3⟩ := bc4_ s0
   go_simp
   with_reducible rfl
 rotate_left
 · simp only [Act.put, List.setIfInBounds_toArray, List.set_cons_zero, List.set_cons_succ, i64_w, i32_w]
   rfl
 refine take_ (i := 1) (N := some 59) (v := ?_) (a' := ?_) #[true, true, false, false, false] rfl rfl (by kernel_rfl) (fun _ _ _ h => h) (Or.inl ⟨by rfl, ?_⟩) hHeld ?_ ?_
 rotate_left
 · rintro w' ⟨s0, s1⟩
   obtain ⟨q0, q1, q2, q3⟩ := bc4_ s1
   go_simp
   with_reducible rfl
 rotate_left
 · simp only [Act.put, List.setIfInBounds_toArray, List.set_cons_zero, List.set_cons_succ, i64_w, i32_w]
   rfl
 refine one_ (i := 2) (N := some 60) #[true, true, true, false, false] rfl rfl (by kernel_rfl) (by decide) (fun K hK => ?_)
 refine goes_ Try.func18 (by kernel_rfl) rfl #[.agg #[.int .i64 a0_0, .int .i64 a0_1, .slice A0_2 l0_2.length c0_2, .slice A0_3 l0_3.length c0_3]] (by rfl) rfl rfl la_ ?_
 refine (toT k HR0_2.out HC0_2.out HR0_3.out HC0_3.out _ (by first | exact All.base HA.out | exact pw_below_drewN (All.base HA.out) _ | exact below_drew1 (All.base HA.out)) A0p.out).mono ?_
 rintro e w42 ⟨xt, rfl, hp, hb⟩
 refine ⟨_, rfl, ?_⟩
 have n_ := Aside0.mk (All.push (by first | exact HA.out | exact All.drewN HA.out _ | exact All.drew HA.out) hb (Ob.term w.heap.size xt p03 p04) hp.1 hp.2.1 hp.2.2)
 clear HA
 have HA := n_
 clear n_ hp hb
 refine hK.out _ _ ⟨HA.out.2.2.2.2.2.1.1, HA.out.2.2.2.2.2.2.2.2.2.2.1.1⟩ (fun hHeld => ?_)
 clear hK K
 refine norm_ (a' := ?_) ?_ ?_
 rotate_left
 · show Act.put _ (some 60) _ = _
   simp only [Act.put, List.setIfInBounds_toArray, List.set_cons_zero, List.set_cons_succ, i64_w, i32_w]
   rfl
 refine one_ (i := 3) (N := some 61) #[true, true, true, true, false] rfl rfl (by kernel_rfl) (by decide) (fun K hK => ?_)
 refine goes_ Try.func20 (by kernel_rfl) rfl #[.agg #[.int .i64 p01, .int .i64 p02, .slice x0.A2 x0.n2 x0.c2, .slice x0.A3 x0.n3 x0.c3], .agg #[.int .i64 p01, .int .i64 p02, .slice xt.A2 xt.n2 xt.c2, .slice xt.A3 xt.n3 xt.c3]] (by rfl) rfl rfl la_ ?_
 refine (eqT k (termP_move HA.out.2.2.2.2.2.2.1.1 (fun _ _ _ => rfl)) (termP_move HA.out.1.1 (fun _ _ _ => rfl)) E0.out).mono ?_
 rintro e w43 ⟨rfl, hb⟩
 refine ⟨_, rfl, ?_⟩
 have n_ := Aside0.mk (All.below (by first | exact HA.out | exact All.drewN HA.out _ | exact All.drew HA.out) hb)
 clear HA
 have HA := n_
 clear n_ hb
 refine hK.out _ _ ⟨HA.out.2.2.2.2.2.1.1, HA.out.2.2.2.2.2.2.2.2.2.2.1.1⟩ (fun hHeld => ?_)
 clear hK K
 refine norm_ (a' := ?_) ?_ ?_
 rotate_left
 · show Act.put _ (some 61) _ = _
   simp only [Act.put, List.setIfInBounds_toArray, List.set_cons_zero, List.set_cons_succ, i64_w, i32_w]
   rfl
 refine pure_ (i := 4) (N := some 62) (v := ?_) (a' := ?_) #[true, true, true, true, true] rfl rfl (by kernel_rfl) (fun _ _ _ h => h) (Or.inl ⟨by rfl, ?_⟩) ?_ ?_
 rotate_left
 · intro w'
   go_simp
   with_reducible rfl
 rotate_left
 · simp only [Act.put, List.setIfInBounds_toArray, List.set_cons_zero, List.set_cons_succ, i64_w, i32_w]
   rfl
 refine done_ (by kernel_rfl) ?_
 have n_ := Aside0.mk (HA.out.2)
 clear HA hHeld
 have HA := n_
 clear n_
 go_upto_region 16 with (fail)
 replace HA := Aside0.mk (All.drew HA.out)
 refine start_ (n := 5) (S := (fun w' => w'.heap[gx2]? = some (.cells #[.int .i64 p21, .int .i64 p22, .slice x2.A2 x2.n2 x2.c2, .slice x2.A3 x2.n3 x2.c3] 40 (0, 0)) ∧ w'.heap[ga2]? = some (.cells #[.int .i64 a2_0, .int .i64 a2_1, .slice A2_2 l2_2.length c2_2, .slice A2_3 l2_3.length c2_3] 36 (0, 0)))) (ds := []) #[false, false, false, false, false] (by kernel_rfl) rfl rfl ⟨HA.out.2.2.1.1, HA.out.2.2.2.2.2.2.2.2.1.1⟩ (fun hHeld => ?_)
 generalize w43.drew = w44 at HA hHeld ⊢
 refine take_ (i := 0) (N := some 63) (v := ?_) (a' := ?_) #[true, false, false, false, false] rfl rfl (by kernel_rfl) (fun _ _ _ h => h) (Or.inl ⟨by rfl, ?_⟩) hHeld ?_ ?_
 rotate_left
 · rintro w' ⟨s0, s1⟩
   obtain ⟨q0, q1, q2, q3⟩ := bc4_ s0
   go_simp
   with_reducible rfl
 rotate_left
 · simp only [Act.put, List.setIfInBounds_toArray, List.set_cons_zero, List.set_cons_succ, i64_w, i32_w]
   rfl
 refine take_ (i := 1) (N := some 64) (v := ?_) (a' := ?_) #[true, true, false, false, false] rfl rfl (by kernel_rfl) (fun _ _ _ h => h) (Or.inl ⟨by rfl, ?_⟩) hHeld ?_ ?_
 rotate_left
 · rintro w' ⟨s0, s1⟩
   obtain ⟨q0, q1, q2, q3⟩ := bc4_ s1
   go_simp
   with_reducible rfl
 rotate_left
 · simp only [Act.put, List.setIfInBounds_toArray, List.set_cons_zero, List.set_cons_succ, i64_w, i32_w]
   rfl
 refine one_ (i := 2) (N := some 65) #[true, true, true, false, false] rfl rfl (by kernel_rfl) (by decide) (fun K hK => ?_)
 refine goes_ Try.func18 (by kernel_rfl) rfl #[.agg #[.int .i64 a2_0, .int .i64 a2_1, .slice A2_2 l2_2.length c2_2, .slice A2_3 l2_3.length c2_3]] (by rfl) rfl rfl la_ ?_
 refine (toT k HR2_2.out HC2_2.out HR2_3.out HC2_3.out _ (by first | exact All.base HA.out | exact pw_below_drewN (All.base HA.out) _ | exact below_drew1 (All.base HA.out)) A2p.out).mono ?_
 rintro e w45 ⟨xt, rfl, hp, hb⟩
 refine ⟨_, rfl, ?_⟩
 have n_ := Aside0.mk (All.push (by first | exact HA.out | exact All.drewN HA.out _ | exact All.drew HA.out) hb (Ob.term w.heap.size xt p23 p24) hp.1 hp.2.1 hp.2.2)
 clear HA
 have HA := n_
 clear n_ hp hb
 refine hK.out _ _ ⟨HA.out.2.2.2.1.1, HA.out.2.2.2.2.2.2.2.2.2.1.1⟩ (fun hHeld => ?_)
 clear hK K
 refine norm_ (a' := ?_) ?_ ?_
 rotate_left
 · show Act.put _ (some 65) _ = _
   simp only [Act.put, List.setIfInBounds_toArray, List.set_cons_zero, List.set_cons_succ, i64_w, i32_w]
   rfl
 refine one_ (i := 3) (N := some 66) #[true, true, true, true, false] rfl rfl (by kernel_rfl) (by decide) (fun K hK => ?_)
 refine goes_ Try.func20 (by kernel_rfl) rfl #[.agg #[.int .i64 p21, .int .i64 p22, .slice x2.A2 x2.n2 x2.c2, .slice x2.A3 x2.n3 x2.c3], .agg #[.int .i64 p21, .int .i64 p22, .slice xt.A2 xt.n2 xt.c2, .slice xt.A3 xt.n3 xt.c3]] (by rfl) rfl rfl la_ ?_
 refine (eqT k (termP_move HA.out.2.2.2.2.1.1 (fun _ _ _ => rfl)) (termP_move HA.out.1.1 (fun _ _ _ => rfl)) E2.out).mono ?_
 rintro e w46 ⟨rfl, hb⟩
 refine ⟨_, rfl, ?_⟩
 have n_ := Aside0.mk (All.below (by first | exact HA.out | exact All.drewN HA.out _ | exact All.drew HA.out) hb)
 clear HA
 have HA := n_
 clear n_ hb
 refine hK.out _ _ ⟨HA.out.2.2.2.1.1, HA.out.2.2.2.2.2.2.2.2.2.1.1⟩ (fun hHeld => ?_)
 clear hK K
 refine norm_ (a' := ?_) ?_ ?_
 rotate_left
 · show Act.put _ (some 66) _ = _
   simp only [Act.put, List.setIfInBounds_toArray, List.set_cons_zero, List.set_cons_succ, i64_w, i32_w]
   rfl
 refine pure_ (i := 4) (N := some 67) (v := ?_) (a' := ?_) #[true, true, true, true, true] rfl rfl (by kernel_rfl) (fun _ _ _ h => h) (Or.inl ⟨by rfl, ?_⟩) ?_ ?_
 rotate_left
 · intro w'
   go_simp
   with_reducible rfl
 rotate_left
 · simp only [Act.put, List.setIfInBounds_toArray, List.set_cons_zero, List.set_cons_succ, i64_w, i32_w]
   rfl
 refine done_ (by kernel_rfl) ?_
 have n_ := Aside0.mk (HA.out.2)
 clear HA hHeld
 have HA := n_
 clear n_
 go_upto_region 18 with (fail)
 go_upto_region 19 with (fail)
 obtain ⟨ci0, ci1, ci2, ci3⟩ := bc4_ HA.out.2.2.2.2.1.1
 go_upto_region 20 with (first | ((with_reducible refine gate_callee (f := 23) rfl ?_); refine goesL_ (some 70) rfl rfl Try.func23 (by kernel_rfl) rfl #[.agg #[.int .i64 p01, .int .i64 p02, .slice x0.A2 x0.n2 x0.c2, .slice x0.A3 x0.n3 x0.c3], .int .i64 1] rfl la_ ?_; (refine (markT k (by first | exact All.base HA.out | exact pw_below_drewN (All.base HA.out) _ | exact below_drew1 (All.base HA.out)) (termP_move HA.out.2.2.2.2.2.1.1 (fun _ _ _ => rfl)) M0.out).mono ?_); rintro e w47 ⟨rfl, hp, hb, hk⟩; refine ⟨_, rfl, ?_⟩; have n_ := Aside0.mk (All.mark (l1 := [_, _, _, _, _]) (o := Ob.term w.heap.size x0 p03 p04) (o' := Ob.term w.heap.size x0 m03 m04) hk (fun _ => hb) (fun _ h => h) rfl rfl hp (by first | exact HA.out | exact All.drewN HA.out _ | exact All.drew HA.out)); clear HA; have HA := n_; clear n_ hp hb hk))
 clear ci0 ci1 ci2 ci3
 obtain ⟨ci0, ci1, ci2, ci3⟩ := bc4_ HA.out.2.2.1.1
 go_upto_region 21 with (first | ((with_reducible refine gate_callee (f := 23) rfl ?_); refine goesL_ (some 73) rfl rfl Try.func23 (by kernel_rfl) rfl #[.agg #[.int .i64 p21, .int .i64 p22, .slice x2.A2 x2.n2 x2.c2, .slice x2.A3 x2.n3 x2.c3], .int .i64 m01] rfl la_ ?_; (refine (markT k (by first | exact All.base HA.out | exact pw_below_drewN (All.base HA.out) _ | exact below_drew1 (All.base HA.out)) (termP_move HA.out.2.2.2.1.1 (fun _ _ _ => rfl)) M2.out).mono ?_); rintro e w48 ⟨rfl, hp, hb, hk⟩; refine ⟨_, rfl, ?_⟩; have n_ := Aside0.mk (All.mark (l1 := [_, _, _]) (o := Ob.term w.heap.size x2 p23 p24) (o' := Ob.term w.heap.size x2 m23 m24) hk (fun _ => hb) (fun _ h => h) rfl rfl hp (by first | exact HA.out | exact All.drewN HA.out _ | exact All.drew HA.out)); clear HA; have HA := n_; clear n_ hp hb hk))
 clear ci0 ci1 ci2 ci3
 obtain ⟨ci0, ci1, ci2, ci3⟩ := bc4_ HA.out.1.1
 obtain ⟨cj0, cj1, cj2, cj3⟩ := bc4_ HA.out.2.2.2.2.2.2.2.1.1
 go_upto_region 23 with (first | (go_at_call 20; (refine (eqT k (termP_move HA.out.2.1.1 (fun _ _ _ => rfl)) (termP_move HA.out.2.2.2.2.2.2.1.1 (fun _ _ _ => rfl)) Ae.out).mono ?_); rintro e w49 ⟨rfl, hb⟩; have n_ := Aside0.mk (All.below (by first | exact HA.out | exact All.drewN HA.out _ | exact All.drew HA.out) hb); clear HA; have HA := n_; clear n_ hb) | ((with_reducible refine gate_callee (f := 20) rfl ?_); refine goesL_ (some 79) rfl rfl Try.func20 (by kernel_rfl) rfl #[.agg #[.int .i64 g1, .int .i64 g2, .slice xg.A2 xg.n2 xg.c2, .slice xg.A3 xg.n3 xg.c3], .agg #[.int .i64 s1, .int .i64 s2, .slice xw.A2 xw.n2 xw.c2, .slice xw.A3 xw.n3 xw.c3]] rfl la_ ?_; (refine (eqT k (termP_move HA.out.2.1.1 (fun _ _ _ => rfl)) (termP_move HA.out.2.2.2.2.2.2.1.1 (fun _ _ _ => rfl)) Ae.out).mono ?_); rintro e w50 ⟨rfl, hb⟩; refine ⟨_, rfl, ?_⟩; have n_ := Aside0.mk (All.below (by first | exact HA.out | exact All.drewN HA.out _ | exact All.drew HA.out) hb); clear HA; have HA := n_; clear n_ hb))
 clear ci0 ci1 ci2 ci3 cj0 cj1 cj2 cj3
 go_upto_region 24 with (fail)
 obtain ⟨ci0, ci1, ci2, ci3⟩ := bc4_ HA.out.1.1
 go_upto_region 25 with (first | ((with_reducible refine gate_callee (f := 23) rfl ?_); refine goesL_ (some 89) rfl rfl Try.func23 (by kernel_rfl) rfl #[.agg #[.int .i64 g1, .int .i64 g2, .slice xg.A2 xg.n2 xg.c2, .slice xg.A3 xg.n3 xg.c3], .int .i64 1] rfl la_ ?_; (refine (markT k (by first | exact All.base HA.out | exact pw_below_drewN (All.base HA.out) _ | exact below_drew1 (All.base HA.out)) (termP_move HA.out.2.1.1 (fun _ _ _ => rfl)) Au.out).mono ?_); rintro e w51 ⟨rfl, hp, hb, hk⟩; refine ⟨_, rfl, ?_⟩; have n_ := Aside0.mk (All.mark (l1 := [_]) (o := Ob.term w.heap.size xg g3 g4) (o' := Ob.term w.heap.size xg u3 u4) hk (fun _ => hb) (fun _ h => h) rfl rfl hp (by first | exact HA.out | exact All.drewN HA.out _ | exact All.drew HA.out)); clear HA; have HA := n_; clear n_ hp hb hk))
 clear ci0 ci1 ci2 ci3
 go_upto_region 26 with (fail)
 obtain ⟨ci0, ci1, ci2, ci3⟩ := bc4_ HA.out.1.1
 go_upto_region 31 with (first | ((with_reducible refine gate_callee (f := 24) rfl ?_); refine goesL_ (some 92) rfl rfl Try.func24 (by kernel_rfl) rfl #[.agg #[.int .i64 g1, .int .i64 g2, .slice xg.A2 xg.n2 xg.c2, .slice xg.A3 xg.n3 xg.c3], .int .i64 1] rfl la_ ?_; (refine (heldT k (termP_move HA.out.2.1.1 (fun _ _ _ => rfl)) Ah.out).mono ?_); rintro e w52 ⟨rfl, hb⟩; refine ⟨_, rfl, ?_⟩; have n_ := Aside0.mk (All.below (by first | exact HA.out | exact All.drewN HA.out _ | exact All.drew HA.out) hb); clear HA; have HA := n_; clear n_ hb))
 clear ci0 ci1 ci2 ci3
 replace HA := Aside0.mk (All.drew HA.out)
 refine start_ (n := 12) (S := (fun w' => w'.heap[ga0]? = some (.cells #[.int .i64 a0_0, .int .i64 a0_1, .slice A0_2 l0_2.length c0_2, .slice A0_3 l0_3.length c0_3] 36 (0, 0)) ∧ w'.heap[ga2]? = some (.cells #[.int .i64 a2_0, .int .i64 a2_1, .slice A2_2 l2_2.length c2_2, .slice A2_3 l2_3.length c2_3] 36 (0, 0)))) (ds := []) #[false, false, false, false, false, false, false, false, false, false, false, false] (by kernel_rfl) rfl rfl ⟨HA.out.2.2.2.2.2.2.2.2.2.1.1, HA.out.2.2.2.2.2.2.2.2.1.1⟩ (fun hHeld => ?_); refine with_tabW laws_FnExactSubstituteTerm.tab31 laws_FnExactSubstituteTerm.bits31 (fun HT_ HW_ => ?_)
 generalize w52.drew = w53 at HA hHeld ⊢
 refine take_ (i := 0) (N := some 99) (v := ?_) (a' := ?_) #[true, false, false, false, false, false, false, false, false, false, false, false] rfl rfl (take_ofW HT_.out HW_.out (by kernel_rfl)) (fun _ _ _ h => h) (Or.inl ⟨by rfl, ?_⟩) hHeld ?_ ?_
 rotate_left
 · rintro w' ⟨s0, s1⟩
   obtain ⟨q0, q1, q2, q3⟩ := bc4_ s0
   go_simp
   with_reducible rfl
 rotate_left
 · simp only [Act.put, List.setIfInBounds_toArray, List.set_cons_zero, List.set_cons_succ, i64_w, i32_w]
   rfl
 refine pure_ (i := 2) (N := some 101) (v := ?_) (a' := ?_) #[true, false, true, false, false, false, false, false, false, false, false, false] rfl rfl (any_of HT_.out (by kernel_rfl)) (fun _ _ _ h => h) (Or.inl ⟨by rfl, ?_⟩) ?_ ?_
 rotate_left
 · intro w'
   go_simp
   with_reducible rfl
 rotate_left
 · simp only [Act.put, List.setIfInBounds_toArray, List.set_cons_zero, List.set_cons_succ, i64_w, i32_w]
   rfl
 refine take_ (i := 3) (N := some 102) (v := ?_) (a' := ?_) #[true, false, true, true, false, false, false, false, false, false, false, false] rfl rfl (take_ofW HT_.out HW_.out (by kernel_rfl)) (fun _ _ _ h => h) (Or.inl ⟨by rfl, ?_⟩) hHeld ?_ ?_
 rotate_left
 · rintro w' ⟨s0, s1⟩
   obtain ⟨q0, q1, q2, q3⟩ := bc4_ s1
   go_simp
   with_reducible rfl
 rotate_left
 · simp only [Act.put, List.setIfInBounds_toArray, List.set_cons_zero, List.set_cons_succ, i64_w, i32_w]
   rfl
 refine join_ (σ := Tx × Tx × Tx × Nat) 2 #[true, true, true, true, true, true, true, true, true, true, false, false] (fun s_ => [(100, .agg #[.int .i64 p01, .int .i64 p02, .slice s_.1.A2 s_.1.n2 s_.1.c2, .slice s_.1.A3 s_.1.n3 s_.1.c3]), (103, .agg #[.int .i64 p21, .int .i64 p22, .slice s_.2.1.A2 s_.2.1.n2 s_.2.1.c2, .slice s_.2.1.A3 s_.2.1.n3 s_.2.1.c3]), (104, (.tuple #[.agg #[.int .i64 g1, .int .i64 g2, .slice s_.2.2.1.A2 s_.2.2.1.n2 s_.2.2.1.c2, .slice s_.2.2.1.A3 s_.2.2.1.n3 s_.2.2.1.c3], .bool g5])), (17, .pointer (some ⟨s_.2.2.2, 0, none⟩)), (98, (.tuple #[.agg #[.int .i64 g1, .int .i64 g2, .slice s_.2.2.1.A2 s_.2.2.1.n2 s_.2.2.1.c2, .slice s_.2.2.1.A3 s_.2.2.1.n3 s_.2.2.1.c3], .bool g5])), (105, .agg #[.int .i64 g1, .int .i64 g2, .slice s_.2.2.1.A2 s_.2.2.1.n2 s_.2.2.1.c2, .slice s_.2.2.1.A3 s_.2.2.1.n3 s_.2.2.1.c3]), (106, .bool g5)]) (fun s_ w' => (fun w' => w'.heap[ga0]? = some (.cells #[.int .i64 a0_0, .int .i64 a0_1, .slice A0_2 l0_2.length c0_2, .slice A0_3 l0_3.length c0_3] 36 (0, 0)) ∧ w'.heap[ga2]? = some (.cells #[.int .i64 a2_0, .int .i64 a2_1, .slice A2_2 l2_2.length c2_2, .slice A2_3 l2_3.length c2_3] 36 (0, 0))) w' ∧ All w [Ob.term w.heap.size s_.2.2.1 g3 g4, Ob.box s_.2.2.2 #[.int .i64 0, .int .i64 0, .slice none 0 0, .slice none 0 0] 40, Ob.box gg #[.int .i64 g1, .int .i64 g2, .slice xg.A2 xg.n2 xg.c2, .slice xg.A3 xg.n3 xg.c3] 40, Ob.term w.heap.size xg u3 u4, Ob.box gx2 #[.int .i64 p21, .int .i64 p22, .slice x2.A2 x2.n2 x2.c2, .slice x2.A3 x2.n3 x2.c3] 40, Ob.term w.heap.size x2 m23 m24, Ob.box gx0 #[.int .i64 p01, .int .i64 p02, .slice x0.A2 x0.n2 x0.c2, .slice x0.A3 x0.n3 x0.c3] 40, Ob.term w.heap.size x0 m03 m04, Ob.term w.heap.size xw s3 s4, Ob.box gw #[.int .i64 s1, .int .i64 s2, .slice xw.A2 xw.n2 xw.c2, .slice xw.A3 xw.n3 xw.c3] 40, Ob.box ga2 #[.int .i64 a2_0, .int .i64 a2_1, .slice A2_2 l2_2.length c2_2, .slice A2_3 l2_3.length c2_3] 36, Ob.box ga0 #[.int .i64 a0_0, .int .i64 a0_1, .slice A0_2 l0_2.length c0_2, .slice A0_3 l0_3.length c0_3] 36] w') ?_ ?_
 rotate_left
 · intro hCont
   refine two_ (i := 1) (j := 9) (Ni := some 100) (Nj := some 17) #[true, true, true, true, false, false, false, false, false, false, false, false] #[true, false, true, true, false, false, false, false, false, true, false, false] rfl rfl rfl rfl (two_of HT_.out (by kernel_rfl)) (by decide) (by decide) (fun K hK => ?_) (fun K hK => ?_)
   · skip
     refine goes_ Try.func18 (by kernel_rfl) rfl #[.agg #[.int .i64 a0_0, .int .i64 a0_1, .slice A0_2 l0_2.length c0_2, .slice A0_3 l0_3.length c0_3]] (by rfl) rfl rfl la_ ?_
     refine (toT k HR0_2.out HC0_2.out HR0_3.out HC0_3.out _ (by first | exact All.base HA.out | exact pw_below_drewN (All.base HA.out) _ | exact below_drew1 (All.base HA.out)) A0p.out).mono ?_
     rintro e w54 ⟨xa0, rfl, hp, hb⟩
     refine ⟨_, rfl, ?_⟩
     have n_ := Aside0.mk (All.push (by first | exact HA.out | exact All.drewN HA.out _ | exact All.drew HA.out) hb (Ob.term w.heap.size xa0 p03 p04) hp.1 hp.2.1 hp.2.2)
     clear HA
     have HA := n_
     clear n_ hp hb
     refine hK.out _ _ ⟨HA.out.2.2.2.2.2.2.2.2.2.2.1.1, HA.out.2.2.2.2.2.2.2.2.2.1.1⟩ (fun hHeld => ?_)
     clear hK K
     refine norm_ (a' := ?_) ?_ ?_
     rotate_left
     · show Act.put _ (some 100) _ = _
       simp only [Act.put, List.setIfInBounds_toArray, List.set_cons_zero, List.set_cons_succ, i64_w, i32_w]
       rfl
     refine two_ (i := 4) (j := 9) (Ni := some 103) (Nj := some 17) #[true, true, true, true, true, false, false, false, false, false, false, false] #[true, true, true, true, false, false, false, false, false, true, false, false] rfl rfl rfl rfl (two_of HT_.out (by kernel_rfl)) (by decide) (by decide) (fun K hK => ?_) (fun K hK => ?_)
     · skip
       refine goes_ Try.func18 (by kernel_rfl) rfl #[.agg #[.int .i64 a2_0, .int .i64 a2_1, .slice A2_2 l2_2.length c2_2, .slice A2_3 l2_3.length c2_3]] (by rfl) rfl rfl la_ ?_
       refine (toT k HR2_2.out HC2_2.out HR2_3.out HC2_3.out _ (by first | exact All.base HA.out | exact pw_below_drewN (All.base HA.out) _ | exact below_drew1 (All.base HA.out)) A2p.out).mono ?_
       rintro e w55 ⟨xa2, rfl, hp, hb⟩
       refine ⟨_, rfl, ?_⟩
       have n_ := Aside0.mk (All.push (by first | exact HA.out | exact All.drewN HA.out _ | exact All.drew HA.out) hb (Ob.term w.heap.size xa2 p23 p24) hp.1 hp.2.1 hp.2.2)
       clear HA
       have HA := n_
       clear n_ hp hb
       refine hK.out _ _ ⟨HA.out.2.2.2.2.2.2.2.2.2.2.2.1.1, HA.out.2.2.2.2.2.2.2.2.2.2.1.1⟩ (fun hHeld => ?_)
       clear hK K
       refine norm_ (a' := ?_) ?_ ?_
       rotate_left
       · show Act.put _ (some 103) _ = _
         simp only [Act.put, List.setIfInBounds_toArray, List.set_cons_zero, List.set_cons_succ, i64_w, i32_w]
         rfl
       refine two_ (i := 5) (j := 9) (Ni := some 104) (Nj := some 17) #[true, true, true, true, true, true, false, false, false, false, false, false] #[true, true, true, true, true, false, false, false, false, true, false, false] rfl rfl rfl rfl (two_of HT_.out (by kernel_rfl)) (by decide) (by decide) (fun K hK => ?_) (fun K hK => ?_)
       · skip
         refine goes_ Try.func28 (by kernel_rfl) rfl #[.agg #[.int .i64 p01, .int .i64 p02, .slice xa0.A2 xa0.n2 xa0.c2, .slice xa0.A3 xa0.n3 xa0.c3], .int .i64 a1, .agg #[.int .i64 p21, .int .i64 p22, .slice xa2.A2 xa2.n2 xa2.c2, .slice xa2.A3 xa2.n3 xa2.c3]] (by rfl) rfl rfl la_ ?_
         refine (implW k (by first | exact All.base HA.out | exact pw_below_drewN (All.base HA.out) _ | exact below_drew1 (All.base HA.out)) (termP_move HA.out.2.1.1 (fun _ _ _ => rfl)) (termP_move HA.out.1.1 (fun _ _ _ => rfl)) Ag.out).mono ?_
         rintro e w56 ⟨z, rfl, hp, hb⟩
         refine ⟨_, rfl, ?_⟩
         have n_ := Aside0.mk (All.push (by first | exact HA.out | exact All.drewN HA.out _ | exact All.drew HA.out) hb (Ob.term w.heap.size z g3 g4) hp.1 hp.2.1 hp.2.2)
         clear HA
         have HA := n_
         clear n_ hp hb
         refine hK.out _ _ ⟨HA.out.2.2.2.2.2.2.2.2.2.2.2.2.1.1, HA.out.2.2.2.2.2.2.2.2.2.2.2.1.1⟩ (fun hHeld => ?_)
         clear hK K
         refine norm_ (a' := ?_) ?_ ?_
         rotate_left
         · show Act.put _ (some 104) _ = _
           simp only [Act.put, List.setIfInBounds_toArray, List.set_cons_zero, List.set_cons_succ, i64_w, i32_w]
           rfl
         refine pure_ (i := 6) (N := some 98) (v := ?_) (a' := ?_) #[true, true, true, true, true, true, true, false, false, false, false, false] rfl rfl (any_of HT_.out (by kernel_rfl)) (fun _ _ _ h => h) (Or.inl ⟨by rfl, ?_⟩) ?_ ?_
         rotate_left
         · intro w'
           go_simp
           with_reducible rfl
         rotate_left
         · simp only [Act.put, List.setIfInBounds_toArray, List.set_cons_zero, List.set_cons_succ, i64_w, i32_w]
           rfl
         refine pure_ (i := 7) (N := some 105) (v := ?_) (a' := ?_) #[true, true, true, true, true, true, true, true, false, false, false, false] rfl rfl (any_of HT_.out (by kernel_rfl)) (fun _ _ _ h => h) (Or.inl ⟨by rfl, ?_⟩) ?_ ?_
         rotate_left
         · intro w'
           go_simp
           with_reducible rfl
         rotate_left
         · simp only [Act.put, List.setIfInBounds_toArray, List.set_cons_zero, List.set_cons_succ, i64_w, i32_w]
           rfl
         refine pure_ (i := 8) (N := some 106) (v := ?_) (a' := ?_) #[true, true, true, true, true, true, true, true, true, false, false, false] rfl rfl (any_of HT_.out (by kernel_rfl)) (fun _ _ _ h => h) (Or.inl ⟨by rfl, ?_⟩) ?_ ?_
         rotate_left
         · intro w'
           go_simp
           with_reducible rfl
         rotate_left
         · simp only [Act.put, List.setIfInBounds_toArray, List.set_cons_zero, List.set_cons_succ, i64_w, i32_w]
           rfl
         refine one_ (i := 9) (N := some 17) #[true, true, true, true, true, true, true, true, true, true, false, false] rfl rfl (one_of HT_.out (by kernel_rfl)) (by decide) (fun K hK => ?_)
         refine box_step ?hg (N := 17) ?hd (cs := #[.int .i64 0, .int .i64 0, .slice none 0 0, .slice none 0 0]) (t := 40) ?hr ?_; (case hd => rfl); (case hg => rfl); (case hr => first | (go_simp; done) | (go_simp; rfl))
         intro gb hg w57 hbox hb
         have n_ := Aside0.mk (All.box (by first | exact HA.out | exact All.drewN HA.out _ | exact All.drew HA.out) hg hbox hb)
         clear HA
         have HA := n_
         clear n_ hg hbox hb
         refine hK.out _ _ ⟨HA.out.2.2.2.2.2.2.2.2.2.2.2.2.2.1.1, HA.out.2.2.2.2.2.2.2.2.2.2.2.2.1.1⟩ (fun hHeld => ?_)
         clear hK K
         refine norm_ (a' := ?_) ?_ ?_
         rotate_left
         · show Act.put _ (some 17) _ = _
           simp only [Act.put, List.setIfInBounds_toArray, List.set_cons_zero, List.set_cons_succ, i64_w, i32_w]
           rfl
         exact norm_ (by simp only [putAll, Act.put, List.setIfInBounds_toArray, List.set_cons_zero, List.set_cons_succ]) (hCont (xa0, xa2, z, gb) _ ⟨hHeld, (All.drop3 (All.drop3 (All.swap HA.out)))⟩)
       refine box_step ?hg (N := 17) ?hd (cs := #[.int .i64 0, .int .i64 0, .slice none 0 0, .slice none 0 0]) (t := 40) ?hr ?_; (case hd => rfl); (case hg => rfl); (case hr => first | (go_simp; done) | (go_simp; rfl))
       intro gb hg w58 hbox hb
       have n_ := Aside0.mk (All.box (by first | exact HA.out | exact All.drewN HA.out _ | exact All.drew HA.out) hg hbox hb)
       clear HA
       have HA := n_
       clear n_ hg hbox hb
       refine hK.out _ _ ⟨HA.out.2.2.2.2.2.2.2.2.2.2.2.2.1.1, HA.out.2.2.2.2.2.2.2.2.2.2.2.1.1⟩ (fun hHeld => ?_)
       clear hK K
       refine norm_ (a' := ?_) ?_ ?_
       rotate_left
       · show Act.put _ (some 17) _ = _
         simp only [Act.put, List.setIfInBounds_toArray, List.set_cons_zero, List.set_cons_succ, i64_w, i32_w]
         rfl
       refine one_ (i := 5) (N := some 104) #[true, true, true, true, true, true, false, false, false, true, false, false] rfl rfl (one_of HT_.out (by kernel_rfl)) (by decide) (fun K hK => ?_)
       refine goes_ Try.func28 (by kernel_rfl) rfl #[.agg #[.int .i64 p01, .int .i64 p02, .slice xa0.A2 xa0.n2 xa0.c2, .slice xa0.A3 xa0.n3 xa0.c3], .int .i64 a1, .agg #[.int .i64 p21, .int .i64 p22, .slice xa2.A2 xa2.n2 xa2.c2, .slice xa2.A3 xa2.n3 xa2.c3]] (by rfl) rfl rfl la_ ?_
       refine (implW k (by first | exact All.base HA.out | exact pw_below_drewN (All.base HA.out) _ | exact below_drew1 (All.base HA.out)) (termP_move HA.out.2.2.1.1 (fun _ _ _ => rfl)) (termP_move HA.out.2.1.1 (fun _ _ _ => rfl)) Ag.out).mono ?_
       rintro e w59 ⟨z, rfl, hp, hb⟩
       refine ⟨_, rfl, ?_⟩
       have n_ := Aside0.mk (All.push (by first | exact HA.out | exact All.drewN HA.out _ | exact All.drew HA.out) hb (Ob.term w.heap.size z g3 g4) hp.1 hp.2.1 hp.2.2)
       clear HA
       have HA := n_
       clear n_ hp hb
       refine hK.out _ _ ⟨HA.out.2.2.2.2.2.2.2.2.2.2.2.2.2.1.1, HA.out.2.2.2.2.2.2.2.2.2.2.2.2.1.1⟩ (fun hHeld => ?_)
       clear hK K
       refine norm_ (a' := ?_) ?_ ?_
       rotate_left
       · show Act.put _ (some 104) _ = _
         simp only [Act.put, List.setIfInBounds_toArray, List.set_cons_zero, List.set_cons_succ, i64_w, i32_w]
         rfl
       refine pure_ (i := 6) (N := some 98) (v := ?_) (a' := ?_) #[true, true, true, true, true, true, true, false, false, true, false, false] rfl rfl (any_of HT_.out (by kernel_rfl)) (fun _ _ _ h => h) (Or.inl ⟨by rfl, ?_⟩) ?_ ?_
       rotate_left
       · intro w'
         go_simp
         with_reducible rfl
       rotate_left
       · simp only [Act.put, List.setIfInBounds_toArray, List.set_cons_zero, List.set_cons_succ, i64_w, i32_w]
         rfl
       refine pure_ (i := 7) (N := some 105) (v := ?_) (a' := ?_) #[true, true, true, true, true, true, true, true, false, true, false, false] rfl rfl (any_of HT_.out (by kernel_rfl)) (fun _ _ _ h => h) (Or.inl ⟨by rfl, ?_⟩) ?_ ?_
       rotate_left
       · intro w'
         go_simp
         with_reducible rfl
       rotate_left
       · simp only [Act.put, List.setIfInBounds_toArray, List.set_cons_zero, List.set_cons_succ, i64_w, i32_w]
         rfl
       refine pure_ (i := 8) (N := some 106) (v := ?_) (a' := ?_) #[true, true, true, true, true, true, true, true, true, true, false, false] rfl rfl (any_of HT_.out (by kernel_rfl)) (fun _ _ _ h => h) (Or.inl ⟨by rfl, ?_⟩) ?_ ?_
       rotate_left
       · intro w'
         go_simp
         with_reducible rfl
       rotate_left
       · simp only [Act.put, List.setIfInBounds_toArray, List.set_cons_zero, List.set_cons_succ, i64_w, i32_w]
         rfl
       exact norm_ (by simp only [putAll, Act.put, List.setIfInBounds_toArray, List.set_cons_zero, List.set_cons_succ]) (hCont (xa0, xa2, z, gb) _ ⟨hHeld, (All.drop3 (All.drop3 HA.out))⟩)
     refine box_step ?hg (N := 17) ?hd (cs := #[.int .i64 0, .int .i64 0, .slice none 0 0, .slice none 0 0]) (t := 40) ?hr ?_; (case hd => rfl); (case hg => rfl); (case hr => first | (go_simp; done) | (go_simp; rfl))
     intro gb hg w60 hbox hb
     have n_ := Aside0.mk (All.box (by first | exact HA.out | exact All.drewN HA.out _ | exact All.drew HA.out) hg hbox hb)
     clear HA
     have HA := n_
     clear n_ hg hbox hb
     refine hK.out _ _ ⟨HA.out.2.2.2.2.2.2.2.2.2.2.2.1.1, HA.out.2.2.2.2.2.2.2.2.2.2.1.1⟩ (fun hHeld => ?_)
     clear hK K
     refine norm_ (a' := ?_) ?_ ?_
     rotate_left
     · show Act.put _ (some 17) _ = _
       simp only [Act.put, List.setIfInBounds_toArray, List.set_cons_zero, List.set_cons_succ, i64_w, i32_w]
       rfl
     refine one_ (i := 4) (N := some 103) #[true, true, true, true, true, false, false, false, false, true, false, false] rfl rfl (one_of HT_.out (by kernel_rfl)) (by decide) (fun K hK => ?_)
     refine goes_ Try.func18 (by kernel_rfl) rfl #[.agg #[.int .i64 a2_0, .int .i64 a2_1, .slice A2_2 l2_2.length c2_2, .slice A2_3 l2_3.length c2_3]] (by rfl) rfl rfl la_ ?_
     refine (toT k HR2_2.out HC2_2.out HR2_3.out HC2_3.out _ (by first | exact All.base HA.out | exact pw_below_drewN (All.base HA.out) _ | exact below_drew1 (All.base HA.out)) A2p.out).mono ?_
     rintro e w61 ⟨xa2, rfl, hp, hb⟩
     refine ⟨_, rfl, ?_⟩
     have n_ := Aside0.mk (All.push (by first | exact HA.out | exact All.drewN HA.out _ | exact All.drew HA.out) hb (Ob.term w.heap.size xa2 p23 p24) hp.1 hp.2.1 hp.2.2)
     clear HA
     have HA := n_
     clear n_ hp hb
     refine hK.out _ _ ⟨HA.out.2.2.2.2.2.2.2.2.2.2.2.2.1.1, HA.out.2.2.2.2.2.2.2.2.2.2.2.1.1⟩ (fun hHeld => ?_)
     clear hK K
     refine norm_ (a' := ?_) ?_ ?_
     rotate_left
     · show Act.put _ (some 103) _ = _
       simp only [Act.put, List.setIfInBounds_toArray, List.set_cons_zero, List.set_cons_succ, i64_w, i32_w]
       rfl
     refine one_ (i := 5) (N := some 104) #[true, true, true, true, true, true, false, false, false, true, false, false] rfl rfl (one_of HT_.out (by kernel_rfl)) (by decide) (fun K hK => ?_)
     refine goes_ Try.func28 (by kernel_rfl) rfl #[.agg #[.int .i64 p01, .int .i64 p02, .slice xa0.A2 xa0.n2 xa0.c2, .slice xa0.A3 xa0.n3 xa0.c3], .int .i64 a1, .agg #[.int .i64 p21, .int .i64 p22, .slice xa2.A2 xa2.n2 xa2.c2, .slice xa2.A3 xa2.n3 xa2.c3]] (by rfl) rfl rfl la_ ?_
     refine (implW k (by first | exact All.base HA.out | exact pw_below_drewN (All.base HA.out) _ | exact below_drew1 (All.base HA.out)) (termP_move HA.out.2.2.1.1 (fun _ _ _ => rfl)) (termP_move HA.out.1.1 (fun _ _ _ => rfl)) Ag.out).mono ?_
     rintro e w62 ⟨z, rfl, hp, hb⟩
     refine ⟨_, rfl, ?_⟩
     have n_ := Aside0.mk (All.push (by first | exact HA.out | exact All.drewN HA.out _ | exact All.drew HA.out) hb (Ob.term w.heap.size z g3 g4) hp.1 hp.2.1 hp.2.2)
     clear HA
     have HA := n_
     clear n_ hp hb
     refine hK.out _ _ ⟨HA.out.2.2.2.2.2.2.2.2.2.2.2.2.2.1.1, HA.out.2.2.2.2.2.2.2.2.2.2.2.2.1.1⟩ (fun hHeld => ?_)
     clear hK K
     refine norm_ (a' := ?_) ?_ ?_
     rotate_left
     · show Act.put _ (some 104) _ = _
       simp only [Act.put, List.setIfInBounds_toArray, List.set_cons_zero, List.set_cons_succ, i64_w, i32_w]
       rfl
     refine pure_ (i := 6) (N := some 98) (v := ?_) (a' := ?_) #[true, true, true, true, true, true, true, false, false, true, false, false] rfl rfl (any_of HT_.out (by kernel_rfl)) (fun _ _ _ h => h) (Or.inl ⟨by rfl, ?_⟩) ?_ ?_
     rotate_left
     · intro w'
       go_simp
       with_reducible rfl
     rotate_left
     · simp only [Act.put, List.setIfInBounds_toArray, List.set_cons_zero, List.set_cons_succ, i64_w, i32_w]
       rfl
     refine pure_ (i := 7) (N := some 105) (v := ?_) (a' := ?_) #[true, true, true, true, true, true, true, true, false, true, false, false] rfl rfl (any_of HT_.out (by kernel_rfl)) (fun _ _ _ h => h) (Or.inl ⟨by rfl, ?_⟩) ?_ ?_
     rotate_left
     · intro w'
       go_simp
       with_reducible rfl
     rotate_left
     · simp only [Act.put, List.setIfInBounds_toArray, List.set_cons_zero, List.set_cons_succ, i64_w, i32_w]
       rfl
     refine pure_ (i := 8) (N := some 106) (v := ?_) (a' := ?_) #[true, true, true, true, true, true, true, true, true, true, false, false] rfl rfl (any_of HT_.out (by kernel_rfl)) (fun _ _ _ h => h) (Or.inl ⟨by rfl, ?_⟩) ?_ ?_
     rotate_left
     · intro w'
       go_simp
       with_reducible rfl
     rotate_left
     · simp only [Act.put, List.setIfInBounds_toArray, List.set_cons_zero, List.set_cons_succ, i64_w, i32_w]
       rfl
     exact norm_ (by simp only [putAll, Act.put, List.setIfInBounds_toArray, List.set_cons_zero, List.set_cons_succ]) (hCont (xa0, xa2, z, gb) _ ⟨hHeld, (All.drop3 (All.drop2 HA.out))⟩)
   refine box_step ?hg (N := 17) ?hd (cs := #[.int .i64 0, .int .i64 0, .slice none 0 0, .slice none 0 0]) (t := 40) ?hr ?_; (case hd => rfl); (case hg => rfl); (case hr => first | (go_simp; done) | (go_simp; rfl))
   intro gb hg w63 hbox hb
   have n_ := Aside0.mk (All.box (by first | exact HA.out | exact All.drewN HA.out _ | exact All.drew HA.out) hg hbox hb)
   clear HA
   have HA := n_
   clear n_ hg hbox hb
   refine hK.out _ _ ⟨HA.out.2.2.2.2.2.2.2.2.2.2.1.1, HA.out.2.2.2.2.2.2.2.2.2.1.1⟩ (fun hHeld => ?_)
   clear hK K
   refine norm_ (a' := ?_) ?_ ?_
   rotate_left
   · show Act.put _ (some 17) _ = _
     simp only [Act.put, List.setIfInBounds_toArray, List.set_cons_zero, List.set_cons_succ, i64_w, i32_w]
     rfl
   refine one_ (i := 1) (N := some 100) #[true, true, true, true, false, false, false, false, false, true, false, false] rfl rfl (one_of HT_.out (by kernel_rfl)) (by decide) (fun K hK => ?_)
   refine goes_ Try.func18 (by kernel_rfl) rfl #[.agg #[.int .i64 a0_0, .int .i64 a0_1, .slice A0_2 l0_2.length c0_2, .slice A0_3 l0_3.length c0_3]] (by rfl) rfl rfl la_ ?_
   refine (toT k HR0_2.out HC0_2.out HR0_3.out HC0_3.out _ (by first | exact All.base HA.out | exact pw_below_drewN (All.base HA.out) _ | exact below_drew1 (All.base HA.out)) A0p.out).mono ?_
   rintro e w64 ⟨xa0, rfl, hp, hb⟩
   refine ⟨_, rfl, ?_⟩
   have n_ := Aside0.mk (All.push (by first | exact HA.out | exact All.drewN HA.out _ | exact All.drew HA.out) hb (Ob.term w.heap.size xa0 p03 p04) hp.1 hp.2.1 hp.2.2)
   clear HA
   have HA := n_
   clear n_ hp hb
   refine hK.out _ _ ⟨HA.out.2.2.2.2.2.2.2.2.2.2.2.1.1, HA.out.2.2.2.2.2.2.2.2.2.2.1.1⟩ (fun hHeld => ?_)
   clear hK K
   refine norm_ (a' := ?_) ?_ ?_
   rotate_left
   · show Act.put _ (some 100) _ = _
     simp only [Act.put, List.setIfInBounds_toArray, List.set_cons_zero, List.set_cons_succ, i64_w, i32_w]
     rfl
   refine one_ (i := 4) (N := some 103) #[true, true, true, true, true, false, false, false, false, true, false, false] rfl rfl (one_of HT_.out (by kernel_rfl)) (by decide) (fun K hK => ?_)
   refine goes_ Try.func18 (by kernel_rfl) rfl #[.agg #[.int .i64 a2_0, .int .i64 a2_1, .slice A2_2 l2_2.length c2_2, .slice A2_3 l2_3.length c2_3]] (by rfl) rfl rfl la_ ?_
   refine (toT k HR2_2.out HC2_2.out HR2_3.out HC2_3.out _ (by first | exact All.base HA.out | exact pw_below_drewN (All.base HA.out) _ | exact below_drew1 (All.base HA.out)) A2p.out).mono ?_
   rintro e w65 ⟨xa2, rfl, hp, hb⟩
   refine ⟨_, rfl, ?_⟩
   have n_ := Aside0.mk (All.push (by first | exact HA.out | exact All.drewN HA.out _ | exact All.drew HA.out) hb (Ob.term w.heap.size xa2 p23 p24) hp.1 hp.2.1 hp.2.2)
   clear HA
   have HA := n_
   clear n_ hp hb
   refine hK.out _ _ ⟨HA.out.2.2.2.2.2.2.2.2.2.2.2.2.1.1, HA.out.2.2.2.2.2.2.2.2.2.2.2.1.1⟩ (fun hHeld => ?_)
   clear hK K
   refine norm_ (a' := ?_) ?_ ?_
   rotate_left
   · show Act.put _ (some 103) _ = _
     simp only [Act.put, List.setIfInBounds_toArray, List.set_cons_zero, List.set_cons_succ, i64_w, i32_w]
     rfl
   refine one_ (i := 5) (N := some 104) #[true, true, true, true, true, true, false, false, false, true, false, false] rfl rfl (one_of HT_.out (by kernel_rfl)) (by decide) (fun K hK => ?_)
   refine goes_ Try.func28 (by kernel_rfl) rfl #[.agg #[.int .i64 p01, .int .i64 p02, .slice xa0.A2 xa0.n2 xa0.c2, .slice xa0.A3 xa0.n3 xa0.c3], .int .i64 a1, .agg #[.int .i64 p21, .int .i64 p22, .slice xa2.A2 xa2.n2 xa2.c2, .slice xa2.A3 xa2.n3 xa2.c3]] (by rfl) rfl rfl la_ ?_
   refine (implW k (by first | exact All.base HA.out | exact pw_below_drewN (All.base HA.out) _ | exact below_drew1 (All.base HA.out)) (termP_move HA.out.2.1.1 (fun _ _ _ => rfl)) (termP_move HA.out.1.1 (fun _ _ _ => rfl)) Ag.out).mono ?_
   rintro e w66 ⟨z, rfl, hp, hb⟩
   refine ⟨_, rfl, ?_⟩
   have n_ := Aside0.mk (All.push (by first | exact HA.out | exact All.drewN HA.out _ | exact All.drew HA.out) hb (Ob.term w.heap.size z g3 g4) hp.1 hp.2.1 hp.2.2)
   clear HA
   have HA := n_
   clear n_ hp hb
   refine hK.out _ _ ⟨HA.out.2.2.2.2.2.2.2.2.2.2.2.2.2.1.1, HA.out.2.2.2.2.2.2.2.2.2.2.2.2.1.1⟩ (fun hHeld => ?_)
   clear hK K
   refine norm_ (a' := ?_) ?_ ?_
   rotate_left
   · show Act.put _ (some 104) _ = _
     simp only [Act.put, List.setIfInBounds_toArray, List.set_cons_zero, List.set_cons_succ, i64_w, i32_w]
     rfl
   refine pure_ (i := 6) (N := some 98) (v := ?_) (a' := ?_) #[true, true, true, true, true, true, true, false, false, true, false, false] rfl rfl (any_of HT_.out (by kernel_rfl)) (fun _ _ _ h => h) (Or.inl ⟨by rfl, ?_⟩) ?_ ?_
   rotate_left
   · intro w'
     go_simp
     with_reducible rfl
   rotate_left
   · simp only [Act.put, List.setIfInBounds_toArray, List.set_cons_zero, List.set_cons_succ, i64_w, i32_w]
     rfl
   refine pure_ (i := 7) (N := some 105) (v := ?_) (a' := ?_) #[true, true, true, true, true, true, true, true, false, true, false, false] rfl rfl (any_of HT_.out (by kernel_rfl)) (fun _ _ _ h => h) (Or.inl ⟨by rfl, ?_⟩) ?_ ?_
   rotate_left
   · intro w'
     go_simp
     with_reducible rfl
   rotate_left
   · simp only [Act.put, List.setIfInBounds_toArray, List.set_cons_zero, List.set_cons_succ, i64_w, i32_w]
     rfl
   refine pure_ (i := 8) (N := some 106) (v := ?_) (a' := ?_) #[true, true, true, true, true, true, true, true, true, true, false, false] rfl rfl (any_of HT_.out (by kernel_rfl)) (fun _ _ _ h => h) (Or.inl ⟨by rfl, ?_⟩) ?_ ?_
   rotate_left
   · intro w'
     go_simp
     with_reducible rfl
   rotate_left
   · simp only [Act.put, List.setIfInBounds_toArray, List.set_cons_zero, List.set_cons_succ, i64_w, i32_w]
     rfl
   exact norm_ (by simp only [putAll, Act.put, List.setIfInBounds_toArray, List.set_cons_zero, List.set_cons_succ]) (hCont (xa0, xa2, z, gb) _ ⟨hHeld, (All.drop2 (All.drop2 HA.out))⟩)
 rintro ⟨xa0, xa2, xh, gh⟩ w67 ⟨hHeld, hA⟩
 dsimp only at hHeld hA ⊢
 clear HA
 have HA := Aside0.mk hA
 clear hA
 refine norm_ (a' := ?_) ?_ ?_
 rotate_left
 · simp only [putAll, Act.put, List.setIfInBounds_toArray, List.set_cons_zero, List.set_cons_succ]
   rfl
 refine one_ (i := 10) (N := none) #[true, true, true, true, true, true, true, true, true, true, true, false] rfl rfl (one_of HT_.out (by kernel_rfl)) (by decide) (fun K hK => ?_)
 obtain ⟨cz0, cz1, cz2, cz3, cz4, cz5, cz6, cz7⟩ := bf4_ HA.out.2.1.1
 have nA := All.set4 (l1 := [_]) HA.out (.int .i64 g1) (.int .i64 g2) (.slice xh.A2 xh.n2 xh.c2) (.slice xh.A3 xh.n3 xh.c3)
 refine skip_ (w1 := ?_) (by rfl) rfl ?_ ?_
 rotate_left
 · go_simp
   rfl
 refine hK.out _ _ ⟨nA.2.2.2.2.2.2.2.2.2.2.2.1.1, nA.2.2.2.2.2.2.2.2.2.2.1.1⟩ (fun hHeld => ?_)
 clear hK K
 refine gen_any (All w _) nA ?_
 clear HA nA hHeld cz0 cz1 cz2 cz3 cz4 cz5 cz6 cz7
 intro w68 hA
 have HA := Aside0.mk hA
 clear hA
 refine pure_ (i := 11) (N := some 18) (v := ?_) (a' := ?_) #[true, true, true, true, true, true, true, true, true, true, true, true] rfl rfl (any_of HT_.out (by kernel_rfl)) (fun _ _ _ h => h) (Or.inl ⟨by rfl, ?_⟩) ?_ ?_
 rotate_left
 · intro w'
   go_simp
   with_reducible rfl
 rotate_left
 · simp only [Act.put, List.setIfInBounds_toArray, List.set_cons_zero, List.set_cons_succ, i64_w, i32_w]
   rfl
 refine done_ (done_of HT_.out (by kernel_rfl)) ?_
 go_upto_region 32 with (fail)
 obtain ⟨ci0, ci1, ci2, ci3⟩ := bc4_ HA.out.2.1.1
 obtain ⟨cj0, cj1, cj2, cj3⟩ := bc4_ HA.out.2.2.2.2.2.2.2.2.2.1.1
 go_upto_region 35 with (first | ((with_reducible refine gate_callee (f := 20) rfl ?_); refine goesL_ (some 109) rfl rfl Try.func20 (by kernel_rfl) rfl #[.agg #[.int .i64 g1, .int .i64 g2, .slice xh.A2 xh.n2 xh.c2, .slice xh.A3 xh.n3 xh.c3], .agg #[.int .i64 s1, .int .i64 s2, .slice xw.A2 xw.n2 xw.c2, .slice xw.A3 xw.n3 xw.c3]] rfl la_ ?_; (refine (eqT k (termP_move HA.out.1.1 (fun _ _ _ => rfl)) (termP_move HA.out.2.2.2.2.2.2.2.2.1.1 (fun _ _ _ => rfl)) Ae.out).mono ?_); rintro e w69 ⟨rfl, hb⟩; refine ⟨_, rfl, ?_⟩; have n_ := Aside0.mk (All.below (by first | exact HA.out | exact All.drewN HA.out _ | exact All.drew HA.out) hb); clear HA; have HA := n_; clear n_ hb))
 clear ci0 ci1 ci2 ci3 cj0 cj1 cj2 cj3
 obtain ⟨ci0, ci1, ci2, ci3⟩ := bc4_ HA.out.2.2.1.1
 go_wp2_with (first | ((with_reducible refine gate_callee (f := 24) rfl ?_); refine goesL_ (some 118) rfl rfl Try.func24 (by kernel_rfl) rfl #[.agg #[.int .i64 g1, .int .i64 g2, .slice xg.A2 xg.n2 xg.c2, .slice xg.A3 xg.n3 xg.c3], .int .i64 1] rfl la_ ?_; (refine (heldT k (termP_move HA.out.2.2.2.1.1 (fun _ _ _ => rfl)) Ah.out).mono ?_); rintro e w70 ⟨rfl, hb⟩; refine ⟨_, rfl, ?_⟩; have n_ := Aside0.mk (All.below (by first | exact HA.out | exact All.drewN HA.out _ | exact All.drew HA.out) hb); clear HA; have HA := n_; clear n_ hb))
 go_ret
 exact ⟨rfl, (by first | exact All.base HA.out | exact pw_below_drewN (All.base HA.out) _ | exact below_drew1 (All.base HA.out))⟩
def laws_FnExactSubstituteTerm.Pure : Prop := ∀ (a0_0 : Int) (a0_1 : Int) (l0_2 : List Int) (l0_3 : List (S36)) (a1 : Int) (a2_0 : Int) (a2_1 : Int) (l2_2 : List Int) (l2_3 : List (S36)), (Lit.int .i64 a0_0).wf = true → (Lit.int .i64 a0_1).wf = true → ((∀ z ∈ l0_2, (Lit.int .i64 z).wf = true) ∧ l0_2.length ≤ maxLen) → ((∀ z ∈ l0_3, Wf36 z) ∧ l0_3.length ≤ maxLen) → (Lit.int .i64 a1).wf = true → (Lit.int .i64 a2_0).wf = true → (Lit.int .i64 a2_1).wf = true → ((∀ z ∈ l2_2, (Lit.int .i64 z).wf = true) ∧ l2_2.length ≤ maxLen) → ((∀ z ∈ l2_3, Wf36 z) ∧ l2_3.length ≤ maxLen) → ∃ k, laws_FnExactSubstituteTerm.f k a0_0 a0_1 l0_2 l0_3 a1 a2_0 a2_1 l2_2 l2_3 = some true
end Go.Proofs.Ytipfkicndjddgaa.P
