-- by hand: laws.FnExactMapTerm
import Derived.Test.YtipfkicndjddgaaM11
import Derived.Test.YtipfkicndjddgaaK6
namespace Go.Proofs.Ytipfkicndjddgaa.P
open Go.RowKit Go.Proofs.YtipfkicndjddgaaW.PrintWords Go.Proofs.YtipfkicndjddgaaW.PrintLast Go.Proofs.YtipfkicndjddgaaW.PrintMore
attribute [local go_sem] max2_int min2_int max_two min_two max_three min_three max_four min_four
set_option linter.unusedVariables false
set_option linter.unusedSimpArgs false
theorem specW (k : Nat) {w W : World} {x0 : Rx} {p0 : List Int} {x1 : Tx} {p11 p12 : Int} {p13 : List Int} {p14 : List S40} {r1 r2 : Int} {r3 : List Int} {r4 : List S40} {r5 : Bool} (hB : Below w.heap.size w W) (h0 : rowP w.heap.size x0 p0 W) (h1 : termP w.heap.size x1 p13 p14 W) (h : spec_MapTerm.f k p0 p11 p12 p13 p14 = some (r1, r2, r3, r4, r5)) :
    Calls Try.prog 16 #[.slice x0.A x0.n x0.c, .agg #[.int .i64 p11, .int .i64 p12, .slice x1.A2 x1.n2 x1.c2, .slice x1.A3 x1.n3 x1.c3]] W fun e w' => ∃ z : Tx, e = .returned (.tuple #[.agg #[.int .i64 r1, .int .i64 r2, .slice z.A2 z.n2 z.c2, .slice z.A3 z.n3 z.c3], .bool r5]) ∧ (termP w.heap.size z r3 r4 w' ∧ W.heap.size ≤ z.lo ∧ z.hi ≤ w'.heap.size) ∧ Below W.heap.size W w' := by
  obtain ⟨e0, u0, q0⟩ := row_reads h0
  obtain ⟨⟨e12, e13⟩, ⟨u12, q12⟩, ⟨u13, q13⟩⟩ := term_reads h1
  rw [e0, e12, e13]
  refine (spec_MapTerm.calls k _ _ p0 _ _ _ _ p13 _ _ p14 r1 r2 r3 r4 r5 W u0 q0 u12 q12 u13 q13 h).mono ?_
  rintro e w' ⟨v2, v3, f, rfl, hm, hb'⟩
  obtain ⟨z, rfl, rfl, hp⟩ := term_new hB.size hb'.size hm
  exact ⟨z, rfl, hp, hb'⟩
theorem implW (k : Nat) {w W : World} {x0 : Rx} {p0 : List Int} {x1 : Tx} {p11 p12 : Int} {p13 : List Int} {p14 : List S40} {r1 r2 : Int} {r3 : List Int} {r4 : List S40} {r5 : Bool} (hB : Below w.heap.size w W) (h0 : rowP w.heap.size x0 p0 W) (h1 : termP w.heap.size x1 p13 p14 W) (h : impl_MapTerm.f k p0 p11 p12 p13 p14 = some (r1, r2, r3, r4, r5)) :
    Calls Try.prog 19 #[.slice x0.A x0.n x0.c, .agg #[.int .i64 p11, .int .i64 p12, .slice x1.A2 x1.n2 x1.c2, .slice x1.A3 x1.n3 x1.c3]] W fun e w' => ∃ z : Tx, e = .returned (.tuple #[.agg #[.int .i64 r1, .int .i64 r2, .slice z.A2 z.n2 z.c2, .slice z.A3 z.n3 z.c3], .bool r5]) ∧ (termP w.heap.size z r3 r4 w' ∧ W.heap.size ≤ z.lo ∧ z.hi ≤ w'.heap.size) ∧ Below W.heap.size W w' := by
  obtain ⟨e0, u0, q0⟩ := row_reads h0
  obtain ⟨⟨e12, e13⟩, ⟨u12, q12⟩, ⟨u13, q13⟩⟩ := term_reads h1
  rw [e0, e12, e13]
  refine (impl_MapTerm.calls k _ _ p0 _ _ _ _ p13 _ _ p14 r1 r2 r3 r4 r5 W u0 q0 u12 q12 u13 q13 h).mono ?_
  rintro e w' ⟨v2, v3, f, rfl, hm, hb'⟩
  obtain ⟨z, rfl, rfl, hp⟩ := term_new hB.size hb'.size hm
  exact ⟨z, rfl, hp, hb'⟩
def laws_FnExactMapTerm.f (k : Nat) (l0 : List Int) (a1_0 : Int) (a1_1 : Int) (l1_2 : List Int) (l1_3 : List (S36)) : Option (Bool) :=
  if (l0.length : Int) > 1048576 then some true else (laws_szTerm.f k a1_0 a1_1 l1_2 l1_3 1048576).bind fun z0 => if z0 < 0 then some true else 
  (laws_toIntS.f k l0).bind fun p0 => 
  (laws_toTerm.f k a1_0 a1_1 l1_2 l1_3).bind fun p1 => 
  (spec_MapTerm.f k p0 p1.1 p1.2.1 p1.2.2.1 p1.2.2.2).bind fun s => (impl_MapTerm.f k p0 p1.1 p1.2.1 p1.2.2.1 p1.2.2.2).bind fun g => (laws_eqTerm.f k g.1 g.2.1 g.2.2.1 g.2.2.2.1 s.1 s.2.1 s.2.2.1 s.2.2.2.1).bind fun e => 
  (laws_eqIntS.f k p0 p0).bind fun e0 => 
  (laws_eqTerm.f k p1.1 p1.2.1 p1.2.2.1 p1.2.2.2 p1.1 p1.2.1 p1.2.2.1 p1.2.2.2).bind fun e1 => 
  (laws_markIntS.f k p0 1).bind fun m0 => 
  (laws_markTerm.f k p1.2.2.1 p1.2.2.2 m0.1).bind fun m1 => 
  (laws_markTerm.f k g.2.2.1 g.2.2.2.1 1).bind fun u => (laws_heldTerm.f k g.1 g.2.1 u.2.1 u.2.2 1).bind fun h => some (e && (e0 && (e1 && ((decide (g.2.2.2.2 = s.2.2.2.2) && (decide (¬ m1.1 < 0) && (decide (¬ h < 0) && decide (h = u.1))))))))
def laws_FnExactMapTerm.T7 : Bool × List (List Nat × List Nat) := (true, [([], []), ([0], [0]), ([], []), ([2, 1], [2]), ([1, 3, 3], [1, 3]), ([4], [4]), ([5], [5]), ([5], [5]), ([], []), ([8, 6, 4, 0, 1, 2, 3, 4, 5, 6, 8], [6, 8]), ([7, 9, 0, 1, 2, 3, 4, 5, 6, 7, 8, 9], [7])])
def laws_FnExactMapTerm.B7 : List Nat := [0, 1, 0, 7, 15, 31, 63, 63, 0, 383, 1023]
theorem laws_FnExactMapTerm.tab7 : rtab .any (opsOf Try.f4 7) = laws_FnExactMapTerm.T7 := by kernel_rfl
theorem laws_FnExactMapTerm.bits7 : waitsOk laws_FnExactMapTerm.T7.2 laws_FnExactMapTerm.B7 = true := by kernel_rfl
def laws_FnExactMapTerm.T30 : Bool × List (List Nat × List Nat) := (true, [([], []), ([0], [0]), ([], []), ([2, 1], [2]), ([1, 3, 3], [1, 3]), ([4], [4]), ([5], [5]), ([5], [5]), ([], []), ([8, 6, 4, 0, 1, 2, 3, 4, 5, 6, 8], [6, 8]), ([7, 9, 0, 1, 2, 3, 4, 5, 6, 7, 8, 9], [7])])
def laws_FnExactMapTerm.B30 : List Nat := [0, 1, 0, 7, 15, 31, 63, 63, 0, 383, 1023]
theorem laws_FnExactMapTerm.tab30 : rtab .any (opsOf Try.f4 30) = laws_FnExactMapTerm.T30 := by kernel_rfl
theorem laws_FnExactMapTerm.bits30 : waitsOk laws_FnExactMapTerm.T30.2 laws_FnExactMapTerm.B30 = true := by kernel_rfl
set_option maxHeartbeats 8000000 in
set_option maxRecDepth 100000 in
theorem laws_FnExactMapTerm.calls (k : Nat) (A0 : Option Addr) (c0 : Nat) (l0 : List Int) (a1_0 : Int) (a1_1 : Int) (A1_2 : Option Addr) (c1_2 : Nat) (l1_2 : List Int) (A1_3 : Option Addr) (c1_3 : Nat) (l1_3 : List (S36)) (r : Bool) (w : World) (hr0 : Kd.C (Kd.int .i64) w A0 l0.length l0) (hc0 : l0.length ≤ c0) (hr1_2 : Kd.C (Kd.int .i64) w A1_2 l1_2.length l1_2) (hc1_2 : l1_2.length ≤ c1_2) (hr1_3 : Kd.C k36 w A1_3 l1_3.length l1_3) (hc1_3 : l1_3.length ≤ c1_3) (h : laws_FnExactMapTerm.f k l0 a1_0 a1_1 l1_2 l1_3 = some r) (hr_ : r = true) :
  Calls Try.prog 4 #[.slice A0 l0.length c0, .agg #[.int .i64 a1_0, .int .i64 a1_1, .slice A1_2 l1_2.length c1_2, .slice A1_3 l1_3.length c1_3]] w fun e w' => e = .returned (.bool r) ∧ Below w.heap.size w w' := by
 have HR0 := Aside0.mk hr0
 have HC0 := Aside0.mk hc0
 clear hr0 hc0
 have HR1_2 := Aside0.mk hr1_2
 have HC1_2 := Aside0.mk hc1_2
 clear hr1_2 hc1_2
 have HR1_3 := Aside0.mk hr1_3
 have HC1_3 := Aside0.mk hc1_3
 clear hr1_3 hc1_3
 have HA := Aside0.mk (show All w [] w from Below.refl w.heap.size w)
 unfold laws_FnExactMapTerm.f at h
 have H := Aside0.mk h
 clear h
 go_enter Try.func4, Try.ntmps4
 go_upto_if 19 with (first | ((with_reducible refine gate_dst (N := 3) rfl ?_); (try (refine gate_guard (by rfl) ?_; dsimp only)); refine box_event ?hg (N := 3) ?hd (cs := #[.int .i64 a1_0, .int .i64 a1_1, .slice A1_2 l1_2.length c1_2, .slice A1_3 l1_3.length c1_3]) (t := 36) ?hr ?_; (case hd => rfl); (case hg => rfl); (case hr => first | (go_simp; done) | (go_simp; rfl)); intro ga1 hg w11 hbox hb; have n_ := Aside0.mk (All.box (by first | exact HA.out | exact All.drewN HA.out _ | exact All.drew HA.out) hg hbox hb); clear HA; have HA := n_; clear n_ hg hbox hb))
 have h := H.out
 clear H
 by_cases c0 : (l0.length : Int) > 1048576
 · rw [if_pos c0] at h
   have c0b : decide ((l0.length : Int) > 1048576) = true := decide_eq_true c0
   (first | rw [c0b] | (simp only [i64_w, i32_w]; rw [c0b]) | skip)
   obtain rfl := Option.some.inj h
   go_wp2
   go_ret
   exact ⟨rfl, (by first | exact All.base HA.out | exact pw_below_drewN (All.base HA.out) _ | exact below_drew1 (All.base HA.out))⟩
 rw [if_neg c0] at h
 have c0b : decide ((l0.length : Int) > 1048576) = false := decide_eq_false c0
 (first | rw [c0b] | (simp only [i64_w, i32_w]; rw [c0b]) | skip)
 clear c0
 have H := Aside0.mk h
 clear h
 have h := H.out
 clear H
 obtain ⟨z0, Z0, h⟩ := Option.bind_eq_some_iff.mp h
 replace Z0 := Aside0.mk Z0
 have H := Aside0.mk h
 clear h
 obtain ⟨ca0, ca1, ca2, ca3⟩ := bc4_ HA.out.1.1
 go_upto_if 24 with (first | ((with_reducible refine gate_callee (f := 15) rfl ?_); refine goesL_ (some 22) rfl rfl Try.func15 (by kernel_rfl) rfl #[.agg #[.int .i64 a1_0, .int .i64 a1_1, .slice A1_2 l1_2.length c1_2, .slice A1_3 l1_3.length c1_3], .int .i64 1048576] rfl la_ ?_; (refine (laws_szTerm.calls k _ _ _ _ l1_2 _ _ l1_3 1048576 z0 _ (Kd.C_below HR1_2.out (by first | exact All.base HA.out | exact pw_below_drewN (All.base HA.out) _ | exact below_drew1 (All.base HA.out))) HC1_2.out (Kd.C_below HR1_3.out (by first | exact All.base HA.out | exact pw_below_drewN (All.base HA.out) _ | exact below_drew1 (All.base HA.out))) HC1_3.out Z0.out).mono ?_); rintro e w12 ⟨rfl, hb⟩; refine ⟨_, rfl, ?_⟩; have n_ := Aside0.mk (All.below (by first | exact HA.out | exact All.drewN HA.out _ | exact All.drew HA.out) hb); clear HA; have HA := n_; clear n_ hb))
 clear ca0 ca1 ca2 ca3
 have h := H.out
 clear H
 by_cases d0 : z0 < 0
 · rw [if_pos d0] at h
   have d0b : decide (z0 < 0) = true := decide_eq_true d0
   (first | rw [d0b] | (simp only [i64_w, i32_w]; rw [d0b]) | skip)
   obtain rfl := Option.some.inj h
   go_wp2
   go_ret
   exact ⟨rfl, (by first | exact All.base HA.out | exact pw_below_drewN (All.base HA.out) _ | exact below_drew1 (All.base HA.out))⟩
 rw [if_neg d0] at h
 have d0b : decide (z0 < 0) = false := decide_eq_false d0
 (first | rw [d0b] | (simp only [i64_w, i32_w]; rw [d0b]) | skip)
 clear d0
 have H := Aside0.mk h
 clear h
 have h := H.out
 clear H
 obtain ⟨p0, A0p, h⟩ := Option.bind_eq_some_iff.mp h
 obtain ⟨⟨p11, p12, p13, p14⟩, A1p, h⟩ := Option.bind_eq_some_iff.mp h
 obtain ⟨⟨s1, s2, s3, s4, s5⟩, As, h⟩ := Option.bind_eq_some_iff.mp h
 obtain ⟨⟨g1, g2, g3, g4, g5⟩, Ag, h⟩ := Option.bind_eq_some_iff.mp h
 obtain ⟨e, Ae, h⟩ := Option.bind_eq_some_iff.mp h
 obtain ⟨e0, E0, h⟩ := Option.bind_eq_some_iff.mp h
 obtain ⟨e1, E1, h⟩ := Option.bind_eq_some_iff.mp h
 obtain ⟨⟨m01, m0⟩, M0, h⟩ := Option.bind_eq_some_iff.mp h
 obtain ⟨⟨m11, m13, m14⟩, M1, h⟩ := Option.bind_eq_some_iff.mp h
 obtain ⟨⟨u1, u3, u4⟩, Au, h⟩ := Option.bind_eq_some_iff.mp h
 obtain ⟨hh, Ah, h⟩ := Option.bind_eq_some_iff.mp h
 obtain rfl := hr_
 replace h := Option.some.inj h
 simp only [Bool.and_eq_true, decide_eq_true_eq] at h
 obtain ⟨rfl, rfl, rfl, cg, cn, ch, cu⟩ := h
 try dsimp only at cg cn ch cu
 subst cg cu
 replace A0p := Aside0.mk A0p
 replace A1p := Aside0.mk A1p
 replace As := Aside0.mk As
 replace Ag := Aside0.mk Ag
 replace Ae := Aside0.mk Ae
 replace E0 := Aside0.mk E0
 replace E1 := Aside0.mk E1
 replace M0 := Aside0.mk M0
 replace M1 := Aside0.mk M1
 replace Au := Aside0.mk Au
 replace Ah := Aside0.mk Ah
 have cnb : decide (m11 < 0) = false := decide_eq_false cn
 have chb : decide (hh < 0) = false := decide_eq_false ch
 have cgb : (g5 != g5) = false := bne_self_eq_false g5
 have chh : (hh != hh) = false := bne_self_eq_false hh
 clear cn ch
 try dsimp only at A0p A1p As Ag Ae E0 E1 M0 M1 Au Ah
 go_upto_region 7 with (fail)
 replace HA := Aside0.mk (All.drew HA.out)
 refine start_ (n := 11) (S := (fun w' => w'.heap[ga1]? = some (.cells #[.int .i64 a1_0, .int .i64 a1_1, .slice A1_2 l1_2.length c1_2, .slice A1_3 l1_3.length c1_3] 36 (0, 0)))) (ds := []) #[false, false, false, false, false, false, false, false, false, false, false] (by kernel_rfl) rfl rfl HA.out.1.1 (fun hHeld => ?_); refine with_tabW laws_FnExactMapTerm.tab7 laws_FnExactMapTerm.bits7 (fun HT_ HW_ => ?_)
 generalize w12.drew = w13 at HA hHeld ⊢
 refine pure_ (i := 0) (N := some 26) (v := ?_) (a' := ?_) #[true, false, false, false, false, false, false, false, false, false, false] rfl rfl (any_of HT_.out (by kernel_rfl)) (fun _ _ _ h => h) (Or.inl ⟨by rfl, ?_⟩) ?_ ?_
 rotate_left
 · intro w'
   go_simp
   with_reducible rfl
 rotate_left
 · simp only [Act.put, List.setIfInBounds_toArray, List.set_cons_zero, List.set_cons_succ, i64_w, i32_w]
   rfl
 refine take_ (i := 2) (N := some 28) (v := ?_) (a' := ?_) #[true, false, true, false, false, false, false, false, false, false, false] rfl rfl (take_ofW HT_.out HW_.out (by kernel_rfl)) (fun _ _ _ h => h) (Or.inl ⟨by rfl, ?_⟩) hHeld ?_ ?_
 rotate_left
 · rintro w' s0
   obtain ⟨q0, q1, q2, q3⟩ := bc4_ s0
   go_simp
   with_reducible rfl
 rotate_left
 · simp only [Act.put, List.setIfInBounds_toArray, List.set_cons_zero, List.set_cons_succ, i64_w, i32_w]
   rfl
 refine join_ (σ := Rx × Tx × Tx × Nat) 2 #[true, true, true, true, true, true, true, true, true, false, false] (fun s_ => [(27, .slice s_.1.A s_.1.n s_.1.c), (29, .agg #[.int .i64 p11, .int .i64 p12, .slice s_.2.1.A2 s_.2.1.n2 s_.2.1.c2, .slice s_.2.1.A3 s_.2.1.n3 s_.2.1.c3]), (30, (.tuple #[.agg #[.int .i64 s1, .int .i64 s2, .slice s_.2.2.1.A2 s_.2.2.1.n2 s_.2.2.1.c2, .slice s_.2.2.1.A3 s_.2.2.1.n3 s_.2.2.1.c3], .bool g5])), (6, .pointer (some ⟨s_.2.2.2, 0, none⟩)), (25, (.tuple #[.agg #[.int .i64 s1, .int .i64 s2, .slice s_.2.2.1.A2 s_.2.2.1.n2 s_.2.2.1.c2, .slice s_.2.2.1.A3 s_.2.2.1.n3 s_.2.2.1.c3], .bool g5])), (31, .agg #[.int .i64 s1, .int .i64 s2, .slice s_.2.2.1.A2 s_.2.2.1.n2 s_.2.2.1.c2, .slice s_.2.2.1.A3 s_.2.2.1.n3 s_.2.2.1.c3]), (32, .bool g5)]) (fun s_ w' => (fun w' => w'.heap[ga1]? = some (.cells #[.int .i64 a1_0, .int .i64 a1_1, .slice A1_2 l1_2.length c1_2, .slice A1_3 l1_3.length c1_3] 36 (0, 0))) w' ∧ All w [Ob.term w.heap.size s_.2.2.1 s3 s4, Ob.box s_.2.2.2 #[.int .i64 0, .int .i64 0, .slice none 0 0, .slice none 0 0] 40, Ob.box ga1 #[.int .i64 a1_0, .int .i64 a1_1, .slice A1_2 l1_2.length c1_2, .slice A1_3 l1_3.length c1_3] 36] w') ?_ ?_
 rotate_left
 · intro hCont
   refine two_ (i := 1) (j := 8) (Ni := some 27) (Nj := some 6) #[true, true, true, false, false, false, false, false, false, false, false] #[true, false, true, false, false, false, false, false, true, false, false] rfl rfl rfl rfl (two_of HT_.out (by kernel_rfl)) (by decide) (by decide) (fun K hK => ?_) (fun K hK => ?_)
   · skip
     refine goes_ Try.func17 (by kernel_rfl) rfl #[.slice A0 l0.length c0] (by rfl) rfl rfl la_ ?_
     refine (toI k HR0.out HC0.out _ (by first | exact All.base HA.out | exact pw_below_drewN (All.base HA.out) _ | exact below_drew1 (All.base HA.out)) A0p.out).mono ?_
     rintro e w14 ⟨xa0, rfl, hp, hb⟩
     refine ⟨_, rfl, ?_⟩
     have n_ := Aside0.mk (All.push (by first | exact HA.out | exact All.drewN HA.out _ | exact All.drew HA.out) hb (Ob.rw w.heap.size xa0 p0) hp.1 hp.2.1 hp.2.2)
     clear HA
     have HA := n_
     clear n_ hp hb
     refine hK.out _ _ HA.out.2.1.1 (fun hHeld => ?_)
     clear hK K
     refine norm_ (a' := ?_) ?_ ?_
     rotate_left
     · show Act.put _ (some 27) _ = _
       simp only [Act.put, List.setIfInBounds_toArray, List.set_cons_zero, List.set_cons_succ, i64_w, i32_w]
       rfl
     refine two_ (i := 3) (j := 8) (Ni := some 29) (Nj := some 6) #[true, true, true, true, false, false, false, false, false, false, false] #[true, true, true, false, false, false, false, false, true, false, false] rfl rfl rfl rfl (two_of HT_.out (by kernel_rfl)) (by decide) (by decide) (fun K hK => ?_) (fun K hK => ?_)
     · skip
       refine goes_ Try.func18 (by kernel_rfl) rfl #[.agg #[.int .i64 a1_0, .int .i64 a1_1, .slice A1_2 l1_2.length c1_2, .slice A1_3 l1_3.length c1_3]] (by rfl) rfl rfl la_ ?_
       refine (toT k HR1_2.out HC1_2.out HR1_3.out HC1_3.out _ (by first | exact All.base HA.out | exact pw_below_drewN (All.base HA.out) _ | exact below_drew1 (All.base HA.out)) A1p.out).mono ?_
       rintro e w15 ⟨xa1, rfl, hp, hb⟩
       refine ⟨_, rfl, ?_⟩
       have n_ := Aside0.mk (All.push (by first | exact HA.out | exact All.drewN HA.out _ | exact All.drew HA.out) hb (Ob.term w.heap.size xa1 p13 p14) hp.1 hp.2.1 hp.2.2)
       clear HA
       have HA := n_
       clear n_ hp hb
       refine hK.out _ _ HA.out.2.2.1.1 (fun hHeld => ?_)
       clear hK K
       refine norm_ (a' := ?_) ?_ ?_
       rotate_left
       · show Act.put _ (some 29) _ = _
         simp only [Act.put, List.setIfInBounds_toArray, List.set_cons_zero, List.set_cons_succ, i64_w, i32_w]
         rfl
       refine two_ (i := 4) (j := 8) (Ni := some 30) (Nj := some 6) #[true, true, true, true, true, false, false, false, false, false, false] #[true, true, true, true, false, false, false, false, true, false, false] rfl rfl rfl rfl (two_of HT_.out (by kernel_rfl)) (by decide) (by decide) (fun K hK => ?_) (fun K hK => ?_)
       · skip
         refine goes_ Try.func16 (by kernel_rfl) rfl #[.slice xa0.A xa0.n xa0.c, .agg #[.int .i64 p11, .int .i64 p12, .slice xa1.A2 xa1.n2 xa1.c2, .slice xa1.A3 xa1.n3 xa1.c3]] (by rfl) rfl rfl la_ ?_
         refine (specW k (by first | exact All.base HA.out | exact pw_below_drewN (All.base HA.out) _ | exact below_drew1 (All.base HA.out)) (rowP_move HA.out.2.1.1 (fun _ _ _ => rfl)) (termP_move HA.out.1.1 (fun _ _ _ => rfl)) As.out).mono ?_
         rintro e w16 ⟨z, rfl, hp, hb⟩
         refine ⟨_, rfl, ?_⟩
         have n_ := Aside0.mk (All.push (by first | exact HA.out | exact All.drewN HA.out _ | exact All.drew HA.out) hb (Ob.term w.heap.size z s3 s4) hp.1 hp.2.1 hp.2.2)
         clear HA
         have HA := n_
         clear n_ hp hb
         refine hK.out _ _ HA.out.2.2.2.1.1 (fun hHeld => ?_)
         clear hK K
         refine norm_ (a' := ?_) ?_ ?_
         rotate_left
         · show Act.put _ (some 30) _ = _
           simp only [Act.put, List.setIfInBounds_toArray, List.set_cons_zero, List.set_cons_succ, i64_w, i32_w]
           rfl
         refine pure_ (i := 5) (N := some 25) (v := ?_) (a' := ?_) #[true, true, true, true, true, true, false, false, false, false, false] rfl rfl (any_of HT_.out (by kernel_rfl)) (fun _ _ _ h => h) (Or.inl ⟨by rfl, ?_⟩) ?_ ?_
         rotate_left
         · intro w'
           go_simp
           with_reducible rfl
         rotate_left
         · simp only [Act.put, List.setIfInBounds_toArray, List.set_cons_zero, List.set_cons_succ, i64_w, i32_w]
           rfl
         refine pure_ (i := 6) (N := some 31) (v := ?_) (a' := ?_) #[true, true, true, true, true, true, true, false, false, false, false] rfl rfl (any_of HT_.out (by kernel_rfl)) (fun _ _ _ h => h) (Or.inl ⟨by rfl, ?_⟩) ?_ ?_
         rotate_left
         · intro w'
           go_simp
           with_reducible rfl
         rotate_left
         · simp only [Act.put, List.setIfInBounds_toArray, List.set_cons_zero, List.set_cons_succ, i64_w, i32_w]
           rfl
         refine pure_ (i := 7) (N := some 32) (v := ?_) (a' := ?_) #[true, true, true, true, true, true, true, true, false, false, false] rfl rfl (any_of HT_.out (by kernel_rfl)) (fun _ _ _ h => h) (Or.inl ⟨by rfl, ?_⟩) ?_ ?_
         rotate_left
         · intro w'
           go_simp
           with_reducible rfl
         rotate_left
         · simp only [Act.put, List.setIfInBounds_toArray, List.set_cons_zero, List.set_cons_succ, i64_w, i32_w]
           rfl
         refine one_ (i := 8) (N := some 6) #[true, true, true, true, true, true, true, true, true, false, false] rfl rfl (one_of HT_.out (by kernel_rfl)) (by decide) (fun K hK => ?_)
         refine box_step ?hg (N := 6) ?hd (cs := #[.int .i64 0, .int .i64 0, .slice none 0 0, .slice none 0 0]) (t := 40) ?hr ?_; (case hd => rfl); (case hg => rfl); (case hr => first | (go_simp; done) | (go_simp; rfl))
         intro gb hg w17 hbox hb
         have n_ := Aside0.mk (All.box (by first | exact HA.out | exact All.drewN HA.out _ | exact All.drew HA.out) hg hbox hb)
         clear HA
         have HA := n_
         clear n_ hg hbox hb
         refine hK.out _ _ HA.out.2.2.2.2.1.1 (fun hHeld => ?_)
         clear hK K
         refine norm_ (a' := ?_) ?_ ?_
         rotate_left
         · show Act.put _ (some 6) _ = _
           simp only [Act.put, List.setIfInBounds_toArray, List.set_cons_zero, List.set_cons_succ, i64_w, i32_w]
           rfl
         exact norm_ (by simp only [putAll, Act.put, List.setIfInBounds_toArray, List.set_cons_zero, List.set_cons_succ]) (hCont (xa0, xa1, z, gb) _ ⟨hHeld, (All.drop3 (All.drop3 (All.swap HA.out)))⟩)
       refine box_step ?hg (N := 6) ?hd (cs := #[.int .i64 0, .int .i64 0, .slice none 0 0, .slice none 0 0]) (t := 40) ?hr ?_; (case hd => rfl); (case hg => rfl); (case hr => first | (go_simp; done) | (go_simp; rfl))
       intro gb hg w18 hbox hb
       have n_ := Aside0.mk (All.box (by first | exact HA.out | exact All.drewN HA.out _ | exact All.drew HA.out) hg hbox hb)
       clear HA
       have HA := n_
       clear n_ hg hbox hb
       refine hK.out _ _ HA.out.2.2.2.1.1 (fun hHeld => ?_)
       clear hK K
       refine norm_ (a' := ?_) ?_ ?_
       rotate_left
       · show Act.put _ (some 6) _ = _
         simp only [Act.put, List.setIfInBounds_toArray, List.set_cons_zero, List.set_cons_succ, i64_w, i32_w]
         rfl
       refine one_ (i := 4) (N := some 30) #[true, true, true, true, true, false, false, false, true, false, false] rfl rfl (one_of HT_.out (by kernel_rfl)) (by decide) (fun K hK => ?_)
       refine goes_ Try.func16 (by kernel_rfl) rfl #[.slice xa0.A xa0.n xa0.c, .agg #[.int .i64 p11, .int .i64 p12, .slice xa1.A2 xa1.n2 xa1.c2, .slice xa1.A3 xa1.n3 xa1.c3]] (by rfl) rfl rfl la_ ?_
       refine (specW k (by first | exact All.base HA.out | exact pw_below_drewN (All.base HA.out) _ | exact below_drew1 (All.base HA.out)) (rowP_move HA.out.2.2.1.1 (fun _ _ _ => rfl)) (termP_move HA.out.2.1.1 (fun _ _ _ => rfl)) As.out).mono ?_
       rintro e w19 ⟨z, rfl, hp, hb⟩
       refine ⟨_, rfl, ?_⟩
       have n_ := Aside0.mk (All.push (by first | exact HA.out | exact All.drewN HA.out _ | exact All.drew HA.out) hb (Ob.term w.heap.size z s3 s4) hp.1 hp.2.1 hp.2.2)
       clear HA
       have HA := n_
       clear n_ hp hb
       refine hK.out _ _ HA.out.2.2.2.2.1.1 (fun hHeld => ?_)
       clear hK K
       refine norm_ (a' := ?_) ?_ ?_
       rotate_left
       · show Act.put _ (some 30) _ = _
         simp only [Act.put, List.setIfInBounds_toArray, List.set_cons_zero, List.set_cons_succ, i64_w, i32_w]
         rfl
       refine pure_ (i := 5) (N := some 25) (v := ?_) (a' := ?_) #[true, true, true, true, true, true, false, false, true, false, false] rfl rfl (any_of HT_.out (by kernel_rfl)) (fun _ _ _ h => h) (Or.inl ⟨by rfl, ?_⟩) ?_ ?_
       rotate_left
       · intro w'
         go_simp
         with_reducible rfl
       rotate_left
       · simp only [Act.put, List.setIfInBounds_toArray, List.set_cons_zero, List.set_cons_succ, i64_w, i32_w]
         rfl
       refine pure_ (i := 6) (N := some 31) (v := ?_) (a' := ?_) #[true, true, true, true, true, true, true, false, true, false, false] rfl rfl (any_of HT_.out (by kernel_rfl)) (fun _ _ _ h => h) (Or.inl ⟨by rfl, ?_⟩) ?_ ?_
       rotate_left
       · intro w'
         go_simp
         with_reducible rfl
       rotate_left
       · simp only [Act.put, List.setIfInBounds_toArray, List.set_cons_zero, List.set_cons_succ, i64_w, i32_w]
         rfl
       refine pure_ (i := 7) (N := some 32) (v := ?_) (a' := ?_) #[true, true, true, true, true, true, true, true, true, false, false] rfl rfl (any_of HT_.out (by kernel_rfl)) (fun _ _ _ h => h) (Or.inl ⟨by rfl, ?_⟩) ?_ ?_
       rotate_left
       · intro w'
         go_simp
         with_reducible rfl
       rotate_left
       · simp only [Act.put, List.setIfInBounds_toArray, List.set_cons_zero, List.set_cons_succ, i64_w, i32_w]
         rfl
       exact norm_ (by simp only [putAll, Act.put, List.setIfInBounds_toArray, List.set_cons_zero, List.set_cons_succ]) (hCont (xa0, xa1, z, gb) _ ⟨hHeld, (All.drop3 (All.drop3 HA.out))⟩)
     refine box_step ?hg (N := 6) ?hd (cs := #[.int .i64 0, .int .i64 0, .slice none 0 0, .slice none 0 0]) (t := 40) ?hr ?_; (case hd => rfl); (case hg => rfl); (case hr => first | (go_simp; done) | (go_simp; rfl))
     intro gb hg w20 hbox hb
     have n_ := Aside0.mk (All.box (by first | exact HA.out | exact All.drewN HA.out _ | exact All.drew HA.out) hg hbox hb)
     clear HA
     have HA := n_
     clear n_ hg hbox hb
     refine hK.out _ _ HA.out.2.2.1.1 (fun hHeld => ?_)
     clear hK K
     refine norm_ (a' := ?_) ?_ ?_
     rotate_left
     · show Act.put _ (some 6) _ = _
       simp only [Act.put, List.setIfInBounds_toArray, List.set_cons_zero, List.set_cons_succ, i64_w, i32_w]
       rfl
     refine one_ (i := 3) (N := some 29) #[true, true, true, true, false, false, false, false, true, false, false] rfl rfl (one_of HT_.out (by kernel_rfl)) (by decide) (fun K hK => ?_)
     refine goes_ Try.func18 (by kernel_rfl) rfl #[.agg #[.int .i64 a1_0, .int .i64 a1_1, .slice A1_2 l1_2.length c1_2, .slice A1_3 l1_3.length c1_3]] (by rfl) rfl rfl la_ ?_
     refine (toT k HR1_2.out HC1_2.out HR1_3.out HC1_3.out _ (by first | exact All.base HA.out | exact pw_below_drewN (All.base HA.out) _ | exact below_drew1 (All.base HA.out)) A1p.out).mono ?_
     rintro e w21 ⟨xa1, rfl, hp, hb⟩
     refine ⟨_, rfl, ?_⟩
     have n_ := Aside0.mk (All.push (by first | exact HA.out | exact All.drewN HA.out _ | exact All.drew HA.out) hb (Ob.term w.heap.size xa1 p13 p14) hp.1 hp.2.1 hp.2.2)
     clear HA
     have HA := n_
     clear n_ hp hb
     refine hK.out _ _ HA.out.2.2.2.1.1 (fun hHeld => ?_)
     clear hK K
     refine norm_ (a' := ?_) ?_ ?_
     rotate_left
     · show Act.put _ (some 29) _ = _
       simp only [Act.put, List.setIfInBounds_toArray, List.set_cons_zero, List.set_cons_succ, i64_w, i32_w]
       rfl
     refine one_ (i := 4) (N := some 30) #[true, true, true, true, true, false, false, false, true, false, false] rfl rfl (one_of HT_.out (by kernel_rfl)) (by decide) (fun K hK => ?_)
     refine goes_ Try.func16 (by kernel_rfl) rfl #[.slice xa0.A xa0.n xa0.c, .agg #[.int .i64 p11, .int .i64 p12, .slice xa1.A2 xa1.n2 xa1.c2, .slice xa1.A3 xa1.n3 xa1.c3]] (by rfl) rfl rfl la_ ?_
     refine (specW k (by first | exact All.base HA.out | exact pw_below_drewN (All.base HA.out) _ | exact below_drew1 (All.base HA.out)) (rowP_move HA.out.2.2.1.1 (fun _ _ _ => rfl)) (termP_move HA.out.1.1 (fun _ _ _ => rfl)) As.out).mono ?_
     rintro e w22 ⟨z, rfl, hp, hb⟩
     refine ⟨_, rfl, ?_⟩
     have n_ := Aside0.mk (All.push (by first | exact HA.out | exact All.drewN HA.out _ | exact All.drew HA.out) hb (Ob.term w.heap.size z s3 s4) hp.1 hp.2.1 hp.2.2)
     clear HA
     have HA := n_
     clear n_ hp hb
     refine hK.out _ _ HA.out.2.2.2.2.1.1 (fun hHeld => ?_)
     clear hK K
     refine norm_ (a' := ?_) ?_ ?_
     rotate_left
     · show Act.put _ (some 30) _ = _
       simp only [Act.put, List.setIfInBounds_toArray, List.set_cons_zero, List.set_cons_succ, i64_w, i32_w]
       rfl
     refine pure_ (i := 5) (N := some 25) (v := ?_) (a' := ?_) #[true, true, true, true, true, true, false, false, true, false, false] rfl rfl (any_of HT_.out (by kernel_rfl)) (fun _ _ _ h => h) (Or.inl ⟨by rfl, ?_⟩) ?_ ?_
     rotate_left
     · intro w'
       go_simp
       with_reducible rfl
     rotate_left
     · simp only [Act.put, List.setIfInBounds_toArray, List.set_cons_zero, List.set_cons_succ, i64_w, i32_w]
       rfl
     refine pure_ (i := 6) (N := some 31) (v := ?_) (a' := ?_) #[true, true, true, true, true, true, true, false, true, false, false] rfl rfl (any_of HT_.out (by kernel_rfl)) (fun _ _ _ h => h) (Or.inl ⟨by rfl, ?_⟩) ?_ ?_
     rotate_left
     · intro w'
       go_simp
       with_reducible rfl
     rotate_left
     · simp only [Act.put, List.setIfInBounds_toArray, List.set_cons_zero, List.set_cons_succ, i64_w, i32_w]
       rfl
     refine pure_ (i := 7) (N := some 32) (v := ?_) (a' := ?_) #[true, true, true, true, true, true, true, true, true, false, false] rfl rfl (any_of HT_.out (by kernel_rfl)) (fun _ _ _ h => h) (Or.inl ⟨by rfl, ?_⟩) ?_ ?_
     rotate_left
     · intro w'
       go_simp
       with_reducible rfl
     rotate_left
     · simp only [Act.put, List.setIfInBounds_toArray, List.set_cons_zero, List.set_cons_succ, i64_w, i32_w]
       rfl
     exact norm_ (by simp only [putAll, Act.put, List.setIfInBounds_toArray, List.set_cons_zero, List.set_cons_succ]) (hCont (xa0, xa1, z, gb) _ ⟨hHeld, (All.drop3 (All.drop2 HA.out))⟩)
   refine box_step ?hg (N := 6) ?hd (cs := #[.int .i64 0, .int .i64 0, .slice none 0 0, .slice none 0 0]) (t := 40) ?hr ?_; (case hd => rfl); (case hg => rfl); (case hr => first | (go_simp; done) | (go_simp; rfl))
   intro gb hg w23 hbox hb
   have n_ := Aside0.mk (All.box (by first | exact HA.out | exact All.drewN HA.out _ | exact All.drew HA.out) hg hbox hb)
   clear HA
   have HA := n_
   clear n_ hg hbox hb
   refine hK.out _ _ HA.out.2.1.1 (fun hHeld => ?_)
   clear hK K
   refine norm_ (a' := ?_) ?_ ?_
   rotate_left
   · show Act.put _ (some 6) _ = _
     simp only [Act.put, List.setIfInBounds_toArray, List.set_cons_zero, List.set_cons_succ, i64_w, i32_w]
     rfl
   refine one_ (i := 1) (N := some 27) #[true, true, true, false, false, false, false, false, true, false, false] rfl rfl (one_of HT_.out (by kernel_rfl)) (by decide) (fun K hK => ?_)
   refine goes_ Try.func17 (by kernel_rfl) rfl #[.slice A0 l0.length c0] (by rfl) rfl rfl la_ ?_
   refine (toI k HR0.out HC0.out _ (by first | exact All.base HA.out | exact pw_below_drewN (All.base HA.out) _ | exact below_drew1 (All.base HA.out)) A0p.out).mono ?_
   rintro e w24 ⟨xa0, rfl, hp, hb⟩
   refine ⟨_, rfl, ?_⟩
   have n_ := Aside0.mk (All.push (by first | exact HA.out | exact All.drewN HA.out _ | exact All.drew HA.out) hb (Ob.rw w.heap.size xa0 p0) hp.1 hp.2.1 hp.2.2)
   clear HA
   have HA := n_
   clear n_ hp hb
   refine hK.out _ _ HA.out.2.2.1.1 (fun hHeld => ?_)
   clear hK K
   refine norm_ (a' := ?_) ?_ ?_
   rotate_left
   · show Act.put _ (some 27) _ = _
     simp only [Act.put, List.setIfInBounds_toArray, List.set_cons_zero, List.set_cons_succ, i64_w, i32_w]
     rfl
   refine one_ (i := 3) (N := some 29) #[true, true, true, true, false, false, false, false, true, false, false] rfl rfl (one_of HT_.out (by kernel_rfl)) (by decide) (fun K hK => ?_)
   refine goes_ Try.func18 (by kernel_rfl) rfl #[.agg #[.int .i64 a1_0, .int .i64 a1_1, .slice A1_2 l1_2.length c1_2, .slice A1_3 l1_3.length c1_3]] (by rfl) rfl rfl la_ ?_
   refine (toT k HR1_2.out HC1_2.out HR1_3.out HC1_3.out _ (by first | exact All.base HA.out | exact pw_below_drewN (All.base HA.out) _ | exact below_drew1 (All.base HA.out)) A1p.out).mono ?_
   rintro e w25 ⟨xa1, rfl, hp, hb⟩
   refine ⟨_, rfl, ?_⟩
   have n_ := Aside0.mk (All.push (by first | exact HA.out | exact All.drewN HA.out _ | exact All.drew HA.out) hb (Ob.term w.heap.size xa1 p13 p14) hp.1 hp.2.1 hp.2.2)
   clear HA
   have HA := n_
   clear n_ hp hb
   refine hK.out _ _ HA.out.2.2.2.1.1 (fun hHeld => ?_)
   clear hK K
   refine norm_ (a' := ?_) ?_ ?_
   rotate_left
   · show Act.put _ (some 29) _ = _
     simp only [Act.put, List.setIfInBounds_toArray, List.set_cons_zero, List.set_cons_succ, i64_w, i32_w]
     rfl
   refine one_ (i := 4) (N := some 30) #[true, true, true, true, true, false, false, false, true, false, false] rfl rfl (one_of HT_.out (by kernel_rfl)) (by decide) (fun K hK => ?_)
   refine goes_ Try.func16 (by kernel_rfl) rfl #[.slice xa0.A xa0.n xa0.c, .agg #[.int .i64 p11, .int .i64 p12, .slice xa1.A2 xa1.n2 xa1.c2, .slice xa1.A3 xa1.n3 xa1.c3]] (by rfl) rfl rfl la_ ?_
   refine (specW k (by first | exact All.base HA.out | exact pw_below_drewN (All.base HA.out) _ | exact below_drew1 (All.base HA.out)) (rowP_move HA.out.2.1.1 (fun _ _ _ => rfl)) (termP_move HA.out.1.1 (fun _ _ _ => rfl)) As.out).mono ?_
   rintro e w26 ⟨z, rfl, hp, hb⟩
   refine ⟨_, rfl, ?_⟩
   have n_ := Aside0.mk (All.push (by first | exact HA.out | exact All.drewN HA.out _ | exact All.drew HA.out) hb (Ob.term w.heap.size z s3 s4) hp.1 hp.2.1 hp.2.2)
   clear HA
   have HA := n_
   clear n_ hp hb
   refine hK.out _ _ HA.out.2.2.2.2.1.1 (fun hHeld => ?_)
   clear hK K
   refine norm_ (a' := ?_) ?_ ?_
   rotate_left
   · show Act.put _ (some 30) _ = _
     simp only [Act.put, List.setIfInBounds_toArray, List.set_cons_zero, List.set_cons_succ, i64_w, i32_w]
     rfl
   refine pure_ (i := 5) (N := some 25) (v := ?_) (a' := ?_) #[true, true, true, true, true, true, false, false, true, false, false] rfl rfl (any_of HT_.out (by kernel_rfl)) (fun _ _ _ h => h) (Or.inl ⟨by rfl, ?_⟩) ?_ ?_
   rotate_left
   · intro w'
     go_simp
     with_reducible rfl
   rotate_left
   · simp only [Act.put, List.setIfInBounds_toArray, List.set_cons_zero, List.set_cons_succ, i64_w, i32_w]
     rfl
   refine pure_ (i := 6) (N := some 31) (v := ?_) (a' := ?_) #[true, true, true, true, true, true, true, false, true, false, false] rfl rfl (any_of HT_.out (by kernel_rfl)) (fun _ _ _ h => h) (Or.inl ⟨by rfl, ?_⟩) ?_ ?_
   rotate_left
   · intro w'
     go_simp
     with_reducible rfl
   rotate_left
   · simp only [Act.put, List.setIfInBounds_toArray, List.set_cons_zero, List.set_cons_succ, i64_w, i32_w]
     rfl
   refine pure_ (i := 7) (N := some 32) (v := ?_) (a' := ?_) #[true, true, true, true, true, true, true, true, true, false, false] rfl rfl (any_of HT_.out (by kernel_rfl)) (fun _ _ _ h => h) (Or.inl ⟨by rfl, ?_⟩) ?_ ?_
   rotate_left
   · intro w'
     go_simp
     with_reducible rfl
   rotate_left
   · simp only [Act.put, List.setIfInBounds_toArray, List.set_cons_zero, List.set_cons_succ, i64_w, i32_w]
     rfl
   exact norm_ (by simp only [putAll, Act.put, List.setIfInBounds_toArray, List.set_cons_zero, List.set_cons_succ]) (hCont (xa0, xa1, z, gb) _ ⟨hHeld, (All.drop2 (All.drop2 HA.out))⟩)
 rintro ⟨xa0, xa1, xw, gw⟩ w27 ⟨hHeld, hA⟩
 dsimp only at hHeld hA ⊢
 clear HA
 have HA := Aside0.mk hA
 clear hA
 refine norm_ (a' := ?_) ?_ ?_
 rotate_left
 · simp only [putAll, Act.put, List.setIfInBounds_toArray, List.set_cons_zero, List.set_cons_succ]
   rfl
 refine one_ (i := 9) (N := none) #[true, true, true, true, true, true, true, true, true, true, false] rfl rfl (one_of HT_.out (by kernel_rfl)) (by decide) (fun K hK => ?_)
 obtain ⟨cz0, cz1, cz2, cz3, cz4, cz5, cz6, cz7⟩ := bf4_ HA.out.2.1.1
 have nA := All.set4 (l1 := [_]) HA.out (.int .i64 s1) (.int .i64 s2) (.slice xw.A2 xw.n2 xw.c2) (.slice xw.A3 xw.n3 xw.c3)
 refine skip_ (w1 := ?_) (by rfl) rfl ?_ ?_
 rotate_left
 · go_simp
   rfl
 refine hK.out _ _ nA.2.2.1.1 (fun hHeld => ?_)
 clear hK K
 refine gen_any (All w _) nA ?_
 clear HA nA hHeld cz0 cz1 cz2 cz3 cz4 cz5 cz6 cz7
 intro w28 hA
 have HA := Aside0.mk hA
 clear hA
 refine pure_ (i := 10) (N := some 7) (v := ?_) (a' := ?_) #[true, true, true, true, true, true, true, true, true, true, true] rfl rfl (any_of HT_.out (by kernel_rfl)) (fun _ _ _ h => h) (Or.inl ⟨by rfl, ?_⟩) ?_ ?_
 rotate_left
 · intro w'
   go_simp
   with_reducible rfl
 rotate_left
 · simp only [Act.put, List.setIfInBounds_toArray, List.set_cons_zero, List.set_cons_succ, i64_w, i32_w]
   rfl
 refine done_ (done_of HT_.out (by kernel_rfl)) ?_
 go_upto_region 9 with (first | ((with_reducible refine gate_callee (f := 17) rfl ?_); refine goesL_ (some 34) rfl rfl Try.func17 (by kernel_rfl) rfl #[.slice A0 l0.length c0] rfl la_ ?_; (refine (toI k HR0.out HC0.out _ (by first | exact All.base HA.out | exact pw_below_drewN (All.base HA.out) _ | exact below_drew1 (All.base HA.out)) A0p.out).mono ?_); rintro e w29 ⟨x0, rfl, hp, hb⟩; refine ⟨_, rfl, ?_⟩; have n_ := Aside0.mk (All.push (by first | exact HA.out | exact All.drewN HA.out _ | exact All.drew HA.out) hb (Ob.rw w.heap.size x0 p0) hp.1 hp.2.1 hp.2.2); clear HA; have HA := n_; clear n_ hp hb))
 obtain ⟨ci0, ci1, ci2, ci3⟩ := bc4_ HA.out.2.2.2.1.1
 go_upto_region 10 with (first | ((with_reducible refine gate_callee (f := 18) rfl ?_); refine goesL_ (some 36) rfl rfl Try.func18 (by kernel_rfl) rfl #[.agg #[.int .i64 a1_0, .int .i64 a1_1, .slice A1_2 l1_2.length c1_2, .slice A1_3 l1_3.length c1_3]] rfl la_ ?_; (refine (toT k HR1_2.out HC1_2.out HR1_3.out HC1_3.out _ (by first | exact All.base HA.out | exact pw_below_drewN (All.base HA.out) _ | exact below_drew1 (All.base HA.out)) A1p.out).mono ?_); rintro e w30 ⟨x1, rfl, hp, hb⟩; refine ⟨_, rfl, ?_⟩; have n_ := Aside0.mk (All.push (by first | exact HA.out | exact All.drewN HA.out _ | exact All.drew HA.out) hb (Ob.term w.heap.size x1 p13 p14) hp.1 hp.2.1 hp.2.2); clear HA; have HA := n_; clear n_ hp hb) | ((with_reducible refine gate_dst (N := 9) rfl ?_); (try (refine gate_guard (by rfl) ?_; dsimp only)); refine box_event ?hg (N := 9) ?hd (cs := #[.int .i64 0, .int .i64 0, .slice none 0 0, .slice none 0 0]) (t := 40) ?hr ?_; (case hd => rfl); (case hg => rfl); (case hr => first | (go_simp; done) | (go_simp; rfl)); intro gx1 hg w31 hbox hb; have n_ := Aside0.mk (All.box (by first | exact HA.out | exact All.drewN HA.out _ | exact All.drew HA.out) hg hbox hb); clear HA; have HA := n_; clear n_ hg hbox hb; obtain ⟨cz0, cz1, cz2, cz3, cz4, cz5, cz6, cz7⟩ := bf4_ HA.out.1.1))
 refine gen_wp (All w _) (All.set4 (l1 := []) HA.out (.int .i64 p11) (.int .i64 p12) (.slice x1.A2 x1.n2 x1.c2) (.slice x1.A3 x1.n3 x1.c3)) ?_
 clear HA
 intro w32 hA
 have HA := Aside0.mk hA
 clear hA
 clear ci0 ci1 ci2 ci3 cz0 cz1 cz2 cz3 cz4 cz5 cz6 cz7
 obtain ⟨ci10, ci11, ci12, ci13⟩ := bc4_ HA.out.1.1
 go_upto_region 11 with (first | ((with_reducible refine gate_callee (f := 19) rfl ?_); refine goesL_ (some 40) rfl rfl Try.func19 (by kernel_rfl) rfl #[.slice x0.A x0.n x0.c, .agg #[.int .i64 p11, .int .i64 p12, .slice x1.A2 x1.n2 x1.c2, .slice x1.A3 x1.n3 x1.c3]] rfl la_ ?_; (refine (implW k (by first | exact All.base HA.out | exact pw_below_drewN (All.base HA.out) _ | exact below_drew1 (All.base HA.out)) (rowP_move HA.out.2.2.1.1 (fun _ _ _ => rfl)) (termP_move HA.out.2.1.1 (fun _ _ _ => rfl)) Ag.out).mono ?_); rintro e w33 ⟨xg, rfl, hp, hb⟩; refine ⟨_, rfl, ?_⟩; have n_ := Aside0.mk (All.push (by first | exact HA.out | exact All.drewN HA.out _ | exact All.drew HA.out) hb (Ob.term w.heap.size xg g3 g4) hp.1 hp.2.1 hp.2.2); clear HA; have HA := n_; clear n_ hp hb) | ((with_reducible refine gate_dst (N := 10) rfl ?_); (try (refine gate_guard (by rfl) ?_; dsimp only)); refine box_event ?hg (N := 10) ?hd (cs := #[.int .i64 0, .int .i64 0, .slice none 0 0, .slice none 0 0]) (t := 40) ?hr ?_; (case hd => rfl); (case hg => rfl); (case hr => first | (go_simp; done) | (go_simp; rfl)); intro gg hg w34 hbox hb; have n_ := Aside0.mk (All.box (by first | exact HA.out | exact All.drewN HA.out _ | exact All.drew HA.out) hg hbox hb); clear HA; have HA := n_; clear n_ hg hbox hb; obtain ⟨cz0, cz1, cz2, cz3, cz4, cz5, cz6, cz7⟩ := bf4_ HA.out.1.1))
 refine gen_wp (All w _) (All.set4 (l1 := []) HA.out (.int .i64 g1) (.int .i64 g2) (.slice xg.A2 xg.n2 xg.c2) (.slice xg.A3 xg.n3 xg.c3)) ?_
 clear HA
 intro w35 hA
 have HA := Aside0.mk hA
 clear hA
 clear ci10 ci11 ci12 ci13 cz0 cz1 cz2 cz3 cz4 cz5 cz6 cz7
 obtain ⟨ci0, ci1, ci2, ci3⟩ := bc4_ HA.out.1.1
 obtain ⟨cj0, cj1, cj2, cj3⟩ := bc4_ HA.out.2.2.2.2.2.2.1.1
 go_upto_region 13 with (first | ((with_reducible refine gate_callee (f := 20) rfl ?_); refine goesL_ (some 45) rfl rfl Try.func20 (by kernel_rfl) rfl #[.agg #[.int .i64 g1, .int .i64 g2, .slice xg.A2 xg.n2 xg.c2, .slice xg.A3 xg.n3 xg.c3], .agg #[.int .i64 s1, .int .i64 s2, .slice xw.A2 xw.n2 xw.c2, .slice xw.A3 xw.n3 xw.c3]] rfl la_ ?_; (refine (eqT k (termP_move HA.out.2.1.1 (fun _ _ _ => rfl)) (termP_move HA.out.2.2.2.2.2.1.1 (fun _ _ _ => rfl)) Ae.out).mono ?_); rintro e w36 ⟨rfl, hb⟩; refine ⟨_, rfl, ?_⟩; have n_ := Aside0.mk (All.below (by first | exact HA.out | exact All.drewN HA.out _ | exact All.drew HA.out) hb); clear HA; have HA := n_; clear n_ hb))
 clear ci0 ci1 ci2 ci3 cj0 cj1 cj2 cj3
 go_upto_region 15 with (first | ((with_reducible refine gate_callee (f := 17) rfl ?_); refine goesL_ (some 54) rfl rfl Try.func17 (by kernel_rfl) rfl #[.slice A0 l0.length c0] rfl la_ ?_; (refine (toI k HR0.out HC0.out _ (by first | exact All.base HA.out | exact pw_below_drewN (All.base HA.out) _ | exact below_drew1 (All.base HA.out)) A0p.out).mono ?_); rintro e w37 ⟨xt, rfl, hp, hb⟩; refine ⟨_, rfl, ?_⟩; have n_ := Aside0.mk (All.push (by first | exact HA.out | exact All.drewN HA.out _ | exact All.drew HA.out) hb (Ob.rw w.heap.size xt p0) hp.1 hp.2.1 hp.2.2); clear HA; have HA := n_; clear n_ hp hb) | ((with_reducible refine gate_callee (f := 21) rfl ?_); refine goesL_ (some 55) rfl rfl Try.func21 (by kernel_rfl) rfl #[.slice x0.A x0.n x0.c, .slice xt.A xt.n xt.c] rfl la_ ?_; (refine (eqI k (rowP_move HA.out.2.2.2.2.2.1.1 (fun _ _ _ => rfl)) (rowP_move HA.out.1.1 (fun _ _ _ => rfl)) E0.out).mono ?_); rintro e w38 ⟨rfl, hb⟩; refine ⟨_, rfl, ?_⟩; have n_ := Aside0.mk (All.below (by first | exact HA.out | exact All.drewN HA.out _ | exact All.drew HA.out) hb); clear HA; have HA := n_; clear n_ hb))
 have n_ := Aside0.mk HA.out.2
 clear HA
 have HA := n_
 clear n_
 replace HA := Aside0.mk (All.drew HA.out)
 refine start_ (n := 5) (S := (fun w' => w'.heap[gx1]? = some (.cells #[.int .i64 p11, .int .i64 p12, .slice x1.A2 x1.n2 x1.c2, .slice x1.A3 x1.n3 x1.c3] 40 (0, 0)) ∧ w'.heap[ga1]? = some (.cells #[.int .i64 a1_0, .int .i64 a1_1, .slice A1_2 l1_2.length c1_2, .slice A1_3 l1_3.length c1_3] 36 (0, 0)))) (ds := []) #[false, false, false, false, false] (by kernel_rfl) rfl rfl ⟨HA.out.2.2.1.1, HA.out.2.2.2.2.2.2.2.1.1⟩ (fun hHeld => ?_)
 generalize w38.drew = w39 at HA hHeld ⊢
 refine take_ (i := 0) (N := some 57) (v := ?_) (a' := ?_) #[true, false, false, false, false] rfl rfl (by kernel_rfl) (fun _ _ _ h => h) (Or.inl ⟨by rfl, ?_⟩) hHeld ?_ ?_
 rotate_left
 · rintro w' ⟨s0, s1⟩
   obtain ⟨q0, q1, q2, q3⟩ := bc4_ s0
   go_simp
   with_reducible rfl
 rotate_left
 · simp only [Act.put, List.setIfInBounds_toArray, List.set_cons_zero, List.set_cons_succ, i64_w, i32_w]
   rfl
 refine take_ (i := 1) (N := some 58) (v := ?_) (a' := ?_) #[true, true, false, false, false] rfl rfl (by kernel_rfl) (fun _ _ _ h => h) (Or.inl ⟨by rfl, ?_⟩) hHeld ?_ ?_
 rotate_left
 · rintro w' ⟨s0, s1⟩
   obtain ⟨q0, q1, q2, q3⟩ := bc4_ s1
   go_simp
   with_reducible rfl
 rotate_left
 · simp only [Act.put, List.setIfInBounds_toArray, List.set_cons_zero, List.set_cons_succ, i64_w, i32_w]
   rfl
 refine one_ (i := 2) (N := some 59) #[true, true, true, false, false] rfl rfl (by kernel_rfl) (by decide) (fun K hK => ?_)
 refine goes_ Try.func18 (by kernel_rfl) rfl #[.agg #[.int .i64 a1_0, .int .i64 a1_1, .slice A1_2 l1_2.length c1_2, .slice A1_3 l1_3.length c1_3]] (by rfl) rfl rfl la_ ?_
 refine (toT k HR1_2.out HC1_2.out HR1_3.out HC1_3.out _ (by first | exact All.base HA.out | exact pw_below_drewN (All.base HA.out) _ | exact below_drew1 (All.base HA.out)) A1p.out).mono ?_
 rintro e w40 ⟨xt, rfl, hp, hb⟩
 refine ⟨_, rfl, ?_⟩
 have n_ := Aside0.mk (All.push (by first | exact HA.out | exact All.drewN HA.out _ | exact All.drew HA.out) hb (Ob.term w.heap.size xt p13 p14) hp.1 hp.2.1 hp.2.2)
 clear HA
 have HA := n_
 clear n_ hp hb
 refine hK.out _ _ ⟨HA.out.2.2.2.1.1, HA.out.2.2.2.2.2.2.2.2.1.1⟩ (fun hHeld => ?_)
 clear hK K
 refine norm_ (a' := ?_) ?_ ?_
 rotate_left
 · show Act.put _ (some 59) _ = _
   simp only [Act.put, List.setIfInBounds_toArray, List.set_cons_zero, List.set_cons_succ, i64_w, i32_w]
   rfl
 refine one_ (i := 3) (N := some 60) #[true, true, true, true, false] rfl rfl (by kernel_rfl) (by decide) (fun K hK => ?_)
 refine goes_ Try.func20 (by kernel_rfl) rfl #[.agg #[.int .i64 p11, .int .i64 p12, .slice x1.A2 x1.n2 x1.c2, .slice x1.A3 x1.n3 x1.c3], .agg #[.int .i64 p11, .int .i64 p12, .slice xt.A2 xt.n2 xt.c2, .slice xt.A3 xt.n3 xt.c3]] (by rfl) rfl rfl la_ ?_
 refine (eqT k (termP_move HA.out.2.2.2.2.1.1 (fun _ _ _ => rfl)) (termP_move HA.out.1.1 (fun _ _ _ => rfl)) E1.out).mono ?_
 rintro e w41 ⟨rfl, hb⟩
 refine ⟨_, rfl, ?_⟩
 have n_ := Aside0.mk (All.below (by first | exact HA.out | exact All.drewN HA.out _ | exact All.drew HA.out) hb)
 clear HA
 have HA := n_
 clear n_ hb
 refine hK.out _ _ ⟨HA.out.2.2.2.1.1, HA.out.2.2.2.2.2.2.2.2.1.1⟩ (fun hHeld => ?_)
 clear hK K
 refine norm_ (a' := ?_) ?_ ?_
 rotate_left
 · show Act.put _ (some 60) _ = _
   simp only [Act.put, List.setIfInBounds_toArray, List.set_cons_zero, List.set_cons_succ, i64_w, i32_w]
   rfl
 refine pure_ (i := 4) (N := some 61) (v := ?_) (a' := ?_) #[true, true, true, true, true] rfl rfl (by kernel_rfl) (fun _ _ _ h => h) (Or.inl ⟨by rfl, ?_⟩) ?_ ?_
 rotate_left
 · intro w'
   go_simp
   with_reducible rfl
 rotate_left
 · simp only [Act.put, List.setIfInBounds_toArray, List.set_cons_zero, List.set_cons_succ, i64_w, i32_w]
   rfl
 refine done_ (by kernel_rfl) ?_
 have n_ := Aside0.mk (HA.out.2)
 clear HA hHeld
 have HA := n_
 clear n_
 go_upto_region 17 with (fail)
 go_upto_region 18 with (fail)
 go_upto_region 19 with (first | ((with_reducible refine gate_callee (f := 22) rfl ?_); refine goesL_ (some 64) rfl rfl Try.func22 (by kernel_rfl) rfl #[.slice x0.A x0.n x0.c, .int .i64 1] rfl la_ ?_; (refine (markI k (by first | exact All.base HA.out | exact pw_below_drewN (All.base HA.out) _ | exact below_drew1 (All.base HA.out)) (rowP_move HA.out.2.2.2.2.1.1 (fun _ _ _ => rfl)) M0.out).mono ?_); rintro e w42 ⟨rfl, hp, hb, hk⟩; refine ⟨_, rfl, ?_⟩; have n_ := Aside0.mk (All.mark (l1 := [_, _, _, _]) (o := Ob.rw w.heap.size x0 p0) (o' := Ob.rw w.heap.size x0 m0) hk (fun _ => hb) (fun _ h => h) rfl rfl hp (by first | exact HA.out | exact All.drewN HA.out _ | exact All.drew HA.out)); clear HA; have HA := n_; clear n_ hp hb hk))
 obtain ⟨ci0, ci1, ci2, ci3⟩ := bc4_ HA.out.2.2.1.1
 go_upto_region 20 with (first | ((with_reducible refine gate_callee (f := 23) rfl ?_); refine goesL_ (some 67) rfl rfl Try.func23 (by kernel_rfl) rfl #[.agg #[.int .i64 p11, .int .i64 p12, .slice x1.A2 x1.n2 x1.c2, .slice x1.A3 x1.n3 x1.c3], .int .i64 m01] rfl la_ ?_; (refine (markT k (by first | exact All.base HA.out | exact pw_below_drewN (All.base HA.out) _ | exact below_drew1 (All.base HA.out)) (termP_move HA.out.2.2.2.1.1 (fun _ _ _ => rfl)) M1.out).mono ?_); rintro e w43 ⟨rfl, hp, hb, hk⟩; refine ⟨_, rfl, ?_⟩; have n_ := Aside0.mk (All.mark (l1 := [_, _, _]) (o := Ob.term w.heap.size x1 p13 p14) (o' := Ob.term w.heap.size x1 m13 m14) hk (fun _ => hb) (fun _ h => h) rfl rfl hp (by first | exact HA.out | exact All.drewN HA.out _ | exact All.drew HA.out)); clear HA; have HA := n_; clear n_ hp hb hk))
 clear ci0 ci1 ci2 ci3
 obtain ⟨ci0, ci1, ci2, ci3⟩ := bc4_ HA.out.1.1
 obtain ⟨cj0, cj1, cj2, cj3⟩ := bc4_ HA.out.2.2.2.2.2.2.1.1
 go_upto_region 22 with (first | (go_at_call 20; (refine (eqT k (termP_move HA.out.2.1.1 (fun _ _ _ => rfl)) (termP_move HA.out.2.2.2.2.2.1.1 (fun _ _ _ => rfl)) Ae.out).mono ?_); rintro e w44 ⟨rfl, hb⟩; have n_ := Aside0.mk (All.below (by first | exact HA.out | exact All.drewN HA.out _ | exact All.drew HA.out) hb); clear HA; have HA := n_; clear n_ hb) | ((with_reducible refine gate_callee (f := 20) rfl ?_); refine goesL_ (some 73) rfl rfl Try.func20 (by kernel_rfl) rfl #[.agg #[.int .i64 g1, .int .i64 g2, .slice xg.A2 xg.n2 xg.c2, .slice xg.A3 xg.n3 xg.c3], .agg #[.int .i64 s1, .int .i64 s2, .slice xw.A2 xw.n2 xw.c2, .slice xw.A3 xw.n3 xw.c3]] rfl la_ ?_; (refine (eqT k (termP_move HA.out.2.1.1 (fun _ _ _ => rfl)) (termP_move HA.out.2.2.2.2.2.1.1 (fun _ _ _ => rfl)) Ae.out).mono ?_); rintro e w45 ⟨rfl, hb⟩; refine ⟨_, rfl, ?_⟩; have n_ := Aside0.mk (All.below (by first | exact HA.out | exact All.drewN HA.out _ | exact All.drew HA.out) hb); clear HA; have HA := n_; clear n_ hb))
 clear ci0 ci1 ci2 ci3 cj0 cj1 cj2 cj3
 go_upto_region 23 with (fail)
 obtain ⟨ci0, ci1, ci2, ci3⟩ := bc4_ HA.out.1.1
 go_upto_region 24 with (first | ((with_reducible refine gate_callee (f := 23) rfl ?_); refine goesL_ (some 83) rfl rfl Try.func23 (by kernel_rfl) rfl #[.agg #[.int .i64 g1, .int .i64 g2, .slice xg.A2 xg.n2 xg.c2, .slice xg.A3 xg.n3 xg.c3], .int .i64 1] rfl la_ ?_; (refine (markT k (by first | exact All.base HA.out | exact pw_below_drewN (All.base HA.out) _ | exact below_drew1 (All.base HA.out)) (termP_move HA.out.2.1.1 (fun _ _ _ => rfl)) Au.out).mono ?_); rintro e w46 ⟨rfl, hp, hb, hk⟩; refine ⟨_, rfl, ?_⟩; have n_ := Aside0.mk (All.mark (l1 := [_]) (o := Ob.term w.heap.size xg g3 g4) (o' := Ob.term w.heap.size xg u3 u4) hk (fun _ => hb) (fun _ h => h) rfl rfl hp (by first | exact HA.out | exact All.drewN HA.out _ | exact All.drew HA.out)); clear HA; have HA := n_; clear n_ hp hb hk))
 clear ci0 ci1 ci2 ci3
 go_upto_region 25 with (fail)
 obtain ⟨ci0, ci1, ci2, ci3⟩ := bc4_ HA.out.1.1
 go_upto_region 30 with (first | ((with_reducible refine gate_callee (f := 24) rfl ?_); refine goesL_ (some 86) rfl rfl Try.func24 (by kernel_rfl) rfl #[.agg #[.int .i64 g1, .int .i64 g2, .slice xg.A2 xg.n2 xg.c2, .slice xg.A3 xg.n3 xg.c3], .int .i64 1] rfl la_ ?_; (refine (heldT k (termP_move HA.out.2.1.1 (fun _ _ _ => rfl)) Ah.out).mono ?_); rintro e w47 ⟨rfl, hb⟩; refine ⟨_, rfl, ?_⟩; have n_ := Aside0.mk (All.below (by first | exact HA.out | exact All.drewN HA.out _ | exact All.drew HA.out) hb); clear HA; have HA := n_; clear n_ hb))
 clear ci0 ci1 ci2 ci3
 replace HA := Aside0.mk (All.drew HA.out)
 refine start_ (n := 11) (S := (fun w' => w'.heap[ga1]? = some (.cells #[.int .i64 a1_0, .int .i64 a1_1, .slice A1_2 l1_2.length c1_2, .slice A1_3 l1_3.length c1_3] 36 (0, 0)))) (ds := []) #[false, false, false, false, false, false, false, false, false, false, false] (by kernel_rfl) rfl rfl HA.out.2.2.2.2.2.2.2.1.1 (fun hHeld => ?_); refine with_tabW laws_FnExactMapTerm.tab30 laws_FnExactMapTerm.bits30 (fun HT_ HW_ => ?_)
 generalize w47.drew = w48 at HA hHeld ⊢
 refine pure_ (i := 0) (N := some 93) (v := ?_) (a' := ?_) #[true, false, false, false, false, false, false, false, false, false, false] rfl rfl (any_of HT_.out (by kernel_rfl)) (fun _ _ _ h => h) (Or.inl ⟨by rfl, ?_⟩) ?_ ?_
 rotate_left
 · intro w'
   go_simp
   with_reducible rfl
 rotate_left
 · simp only [Act.put, List.setIfInBounds_toArray, List.set_cons_zero, List.set_cons_succ, i64_w, i32_w]
   rfl
 refine take_ (i := 2) (N := some 95) (v := ?_) (a' := ?_) #[true, false, true, false, false, false, false, false, false, false, false] rfl rfl (take_ofW HT_.out HW_.out (by kernel_rfl)) (fun _ _ _ h => h) (Or.inl ⟨by rfl, ?_⟩) hHeld ?_ ?_
 rotate_left
 · rintro w' s0
   obtain ⟨q0, q1, q2, q3⟩ := bc4_ s0
   go_simp
   with_reducible rfl
 rotate_left
 · simp only [Act.put, List.setIfInBounds_toArray, List.set_cons_zero, List.set_cons_succ, i64_w, i32_w]
   rfl
 refine join_ (σ := Rx × Tx × Tx × Nat) 2 #[true, true, true, true, true, true, true, true, true, false, false] (fun s_ => [(94, .slice s_.1.A s_.1.n s_.1.c), (96, .agg #[.int .i64 p11, .int .i64 p12, .slice s_.2.1.A2 s_.2.1.n2 s_.2.1.c2, .slice s_.2.1.A3 s_.2.1.n3 s_.2.1.c3]), (97, (.tuple #[.agg #[.int .i64 g1, .int .i64 g2, .slice s_.2.2.1.A2 s_.2.2.1.n2 s_.2.2.1.c2, .slice s_.2.2.1.A3 s_.2.2.1.n3 s_.2.2.1.c3], .bool g5])), (15, .pointer (some ⟨s_.2.2.2, 0, none⟩)), (92, (.tuple #[.agg #[.int .i64 g1, .int .i64 g2, .slice s_.2.2.1.A2 s_.2.2.1.n2 s_.2.2.1.c2, .slice s_.2.2.1.A3 s_.2.2.1.n3 s_.2.2.1.c3], .bool g5])), (98, .agg #[.int .i64 g1, .int .i64 g2, .slice s_.2.2.1.A2 s_.2.2.1.n2 s_.2.2.1.c2, .slice s_.2.2.1.A3 s_.2.2.1.n3 s_.2.2.1.c3]), (99, .bool g5)]) (fun s_ w' => (fun w' => w'.heap[ga1]? = some (.cells #[.int .i64 a1_0, .int .i64 a1_1, .slice A1_2 l1_2.length c1_2, .slice A1_3 l1_3.length c1_3] 36 (0, 0))) w' ∧ All w [Ob.term w.heap.size s_.2.2.1 g3 g4, Ob.box s_.2.2.2 #[.int .i64 0, .int .i64 0, .slice none 0 0, .slice none 0 0] 40, Ob.box gg #[.int .i64 g1, .int .i64 g2, .slice xg.A2 xg.n2 xg.c2, .slice xg.A3 xg.n3 xg.c3] 40, Ob.term w.heap.size xg u3 u4, Ob.box gx1 #[.int .i64 p11, .int .i64 p12, .slice x1.A2 x1.n2 x1.c2, .slice x1.A3 x1.n3 x1.c3] 40, Ob.term w.heap.size x1 m13 m14, Ob.rw w.heap.size x0 m0, Ob.term w.heap.size xw s3 s4, Ob.box gw #[.int .i64 s1, .int .i64 s2, .slice xw.A2 xw.n2 xw.c2, .slice xw.A3 xw.n3 xw.c3] 40, Ob.box ga1 #[.int .i64 a1_0, .int .i64 a1_1, .slice A1_2 l1_2.length c1_2, .slice A1_3 l1_3.length c1_3] 36] w') ?_ ?_
 rotate_left
 · intro hCont
   refine two_ (i := 1) (j := 8) (Ni := some 94) (Nj := some 15) #[true, true, true, false, false, false, false, false, false, false, false] #[true, false, true, false, false, false, false, false, true, false, false] rfl rfl rfl rfl (two_of HT_.out (by kernel_rfl)) (by decide) (by decide) (fun K hK => ?_) (fun K hK => ?_)
   · skip
     refine goes_ Try.func17 (by kernel_rfl) rfl #[.slice A0 l0.length c0] (by rfl) rfl rfl la_ ?_
     refine (toI k HR0.out HC0.out _ (by first | exact All.base HA.out | exact pw_below_drewN (All.base HA.out) _ | exact below_drew1 (All.base HA.out)) A0p.out).mono ?_
     rintro e w49 ⟨xa0, rfl, hp, hb⟩
     refine ⟨_, rfl, ?_⟩
     have n_ := Aside0.mk (All.push (by first | exact HA.out | exact All.drewN HA.out _ | exact All.drew HA.out) hb (Ob.rw w.heap.size xa0 p0) hp.1 hp.2.1 hp.2.2)
     clear HA
     have HA := n_
     clear n_ hp hb
     refine hK.out _ _ HA.out.2.2.2.2.2.2.2.2.1.1 (fun hHeld => ?_)
     clear hK K
     refine norm_ (a' := ?_) ?_ ?_
     rotate_left
     · show Act.put _ (some 94) _ = _
       simp only [Act.put, List.setIfInBounds_toArray, List.set_cons_zero, List.set_cons_succ, i64_w, i32_w]
       rfl
     refine two_ (i := 3) (j := 8) (Ni := some 96) (Nj := some 15) #[true, true, true, true, false, false, false, false, false, false, false] #[true, true, true, false, false, false, false, false, true, false, false] rfl rfl rfl rfl (two_of HT_.out (by kernel_rfl)) (by decide) (by decide) (fun K hK => ?_) (fun K hK => ?_)
     · skip
       refine goes_ Try.func18 (by kernel_rfl) rfl #[.agg #[.int .i64 a1_0, .int .i64 a1_1, .slice A1_2 l1_2.length c1_2, .slice A1_3 l1_3.length c1_3]] (by rfl) rfl rfl la_ ?_
       refine (toT k HR1_2.out HC1_2.out HR1_3.out HC1_3.out _ (by first | exact All.base HA.out | exact pw_below_drewN (All.base HA.out) _ | exact below_drew1 (All.base HA.out)) A1p.out).mono ?_
       rintro e w50 ⟨xa1, rfl, hp, hb⟩
       refine ⟨_, rfl, ?_⟩
       have n_ := Aside0.mk (All.push (by first | exact HA.out | exact All.drewN HA.out _ | exact All.drew HA.out) hb (Ob.term w.heap.size xa1 p13 p14) hp.1 hp.2.1 hp.2.2)
       clear HA
       have HA := n_
       clear n_ hp hb
       refine hK.out _ _ HA.out.2.2.2.2.2.2.2.2.2.1.1 (fun hHeld => ?_)
       clear hK K
       refine norm_ (a' := ?_) ?_ ?_
       rotate_left
       · show Act.put _ (some 96) _ = _
         simp only [Act.put, List.setIfInBounds_toArray, List.set_cons_zero, List.set_cons_succ, i64_w, i32_w]
         rfl
       refine two_ (i := 4) (j := 8) (Ni := some 97) (Nj := some 15) #[true, true, true, true, true, false, false, false, false, false, false] #[true, true, true, true, false, false, false, false, true, false, false] rfl rfl rfl rfl (two_of HT_.out (by kernel_rfl)) (by decide) (by decide) (fun K hK => ?_) (fun K hK => ?_)
       · skip
         refine goes_ Try.func19 (by kernel_rfl) rfl #[.slice xa0.A xa0.n xa0.c, .agg #[.int .i64 p11, .int .i64 p12, .slice xa1.A2 xa1.n2 xa1.c2, .slice xa1.A3 xa1.n3 xa1.c3]] (by rfl) rfl rfl la_ ?_
         refine (implW k (by first | exact All.base HA.out | exact pw_below_drewN (All.base HA.out) _ | exact below_drew1 (All.base HA.out)) (rowP_move HA.out.2.1.1 (fun _ _ _ => rfl)) (termP_move HA.out.1.1 (fun _ _ _ => rfl)) Ag.out).mono ?_
         rintro e w51 ⟨z, rfl, hp, hb⟩
         refine ⟨_, rfl, ?_⟩
         have n_ := Aside0.mk (All.push (by first | exact HA.out | exact All.drewN HA.out _ | exact All.drew HA.out) hb (Ob.term w.heap.size z g3 g4) hp.1 hp.2.1 hp.2.2)
         clear HA
         have HA := n_
         clear n_ hp hb
         refine hK.out _ _ HA.out.2.2.2.2.2.2.2.2.2.2.1.1 (fun hHeld => ?_)
         clear hK K
         refine norm_ (a' := ?_) ?_ ?_
         rotate_left
         · show Act.put _ (some 97) _ = _
           simp only [Act.put, List.setIfInBounds_toArray, List.set_cons_zero, List.set_cons_succ, i64_w, i32_w]
           rfl
         refine pure_ (i := 5) (N := some 92) (v := ?_) (a' := ?_) #[true, true, true, true, true, true, false, false, false, false, false] rfl rfl (any_of HT_.out (by kernel_rfl)) (fun _ _ _ h => h) (Or.inl ⟨by rfl, ?_⟩) ?_ ?_
         rotate_left
         · intro w'
           go_simp
           with_reducible rfl
         rotate_left
         · simp only [Act.put, List.setIfInBounds_toArray, List.set_cons_zero, List.set_cons_succ, i64_w, i32_w]
           rfl
         refine pure_ (i := 6) (N := some 98) (v := ?_) (a' := ?_) #[true, true, true, true, true, true, true, false, false, false, false] rfl rfl (any_of HT_.out (by kernel_rfl)) (fun _ _ _ h => h) (Or.inl ⟨by rfl, ?_⟩) ?_ ?_
         rotate_left
         · intro w'
           go_simp
           with_reducible rfl
         rotate_left
         · simp only [Act.put, List.setIfInBounds_toArray, List.set_cons_zero, List.set_cons_succ, i64_w, i32_w]
           rfl
         refine pure_ (i := 7) (N := some 99) (v := ?_) (a' := ?_) #[true, true, true, true, true, true, true, true, false, false, false] rfl rfl (any_of HT_.out (by kernel_rfl)) (fun _ _ _ h => h) (Or.inl ⟨by rfl, ?_⟩) ?_ ?_
         rotate_left
         · intro w'
           go_simp
           with_reducible rfl
         rotate_left
         · simp only [Act.put, List.setIfInBounds_toArray, List.set_cons_zero, List.set_cons_succ, i64_w, i32_w]
           rfl
         refine one_ (i := 8) (N := some 15) #[true, true, true, true, true, true, true, true, true, false, false] rfl rfl (one_of HT_.out (by kernel_rfl)) (by decide) (fun K hK => ?_)
         refine box_step ?hg (N := 15) ?hd (cs := #[.int .i64 0, .int .i64 0, .slice none 0 0, .slice none 0 0]) (t := 40) ?hr ?_; (case hd => rfl); (case hg => rfl); (case hr => first | (go_simp; done) | (go_simp; rfl))
         intro gb hg w52 hbox hb
         have n_ := Aside0.mk (All.box (by first | exact HA.out | exact All.drewN HA.out _ | exact All.drew HA.out) hg hbox hb)
         clear HA
         have HA := n_
         clear n_ hg hbox hb
         refine hK.out _ _ HA.out.2.2.2.2.2.2.2.2.2.2.2.1.1 (fun hHeld => ?_)
         clear hK K
         refine norm_ (a' := ?_) ?_ ?_
         rotate_left
         · show Act.put _ (some 15) _ = _
           simp only [Act.put, List.setIfInBounds_toArray, List.set_cons_zero, List.set_cons_succ, i64_w, i32_w]
           rfl
         exact norm_ (by simp only [putAll, Act.put, List.setIfInBounds_toArray, List.set_cons_zero, List.set_cons_succ]) (hCont (xa0, xa1, z, gb) _ ⟨hHeld, (All.drop3 (All.drop3 (All.swap HA.out)))⟩)
       refine box_step ?hg (N := 15) ?hd (cs := #[.int .i64 0, .int .i64 0, .slice none 0 0, .slice none 0 0]) (t := 40) ?hr ?_; (case hd => rfl); (case hg => rfl); (case hr => first | (go_simp; done) | (go_simp; rfl))
       intro gb hg w53 hbox hb
       have n_ := Aside0.mk (All.box (by first | exact HA.out | exact All.drewN HA.out _ | exact All.drew HA.out) hg hbox hb)
       clear HA
       have HA := n_
       clear n_ hg hbox hb
       refine hK.out _ _ HA.out.2.2.2.2.2.2.2.2.2.2.1.1 (fun hHeld => ?_)
       clear hK K
       refine norm_ (a' := ?_) ?_ ?_
       rotate_left
       · show Act.put _ (some 15) _ = _
         simp only [Act.put, List.setIfInBounds_toArray, List.set_cons_zero, List.set_cons_succ, i64_w, i32_w]
         rfl
       refine one_ (i := 4) (N := some 97) #[true, true, true, true, true, false, false, false, true, false, false] rfl rfl (one_of HT_.out (by kernel_rfl)) (by decide) (fun K hK => ?_)
       refine goes_ Try.func19 (by kernel_rfl) rfl #[.slice xa0.A xa0.n xa0.c, .agg #[.int .i64 p11, .int .i64 p12, .slice xa1.A2 xa1.n2 xa1.c2, .slice xa1.A3 xa1.n3 xa1.c3]] (by rfl) rfl rfl la_ ?_
       refine (implW k (by first | exact All.base HA.out | exact pw_below_drewN (All.base HA.out) _ | exact below_drew1 (All.base HA.out)) (rowP_move HA.out.2.2.1.1 (fun _ _ _ => rfl)) (termP_move HA.out.2.1.1 (fun _ _ _ => rfl)) Ag.out).mono ?_
       rintro e w54 ⟨z, rfl, hp, hb⟩
       refine ⟨_, rfl, ?_⟩
       have n_ := Aside0.mk (All.push (by first | exact HA.out | exact All.drewN HA.out _ | exact All.drew HA.out) hb (Ob.term w.heap.size z g3 g4) hp.1 hp.2.1 hp.2.2)
       clear HA
       have HA := n_
       clear n_ hp hb
       refine hK.out _ _ HA.out.2.2.2.2.2.2.2.2.2.2.2.1.1 (fun hHeld => ?_)
       clear hK K
       refine norm_ (a' := ?_) ?_ ?_
       rotate_left
       · show Act.put _ (some 97) _ = _
         simp only [Act.put, List.setIfInBounds_toArray, List.set_cons_zero, List.set_cons_succ, i64_w, i32_w]
         rfl
       refine pure_ (i := 5) (N := some 92) (v := ?_) (a' := ?_) #[true, true, true, true, true, true, false, false, true, false, false] rfl rfl (any_of HT_.out (by kernel_rfl)) (fun _ _ _ h => h) (Or.inl ⟨by rfl, ?_⟩) ?_ ?_
       rotate_left
       · intro w'
         go_simp
         with_reducible rfl
       rotate_left
       · simp only [Act.put, List.setIfInBounds_toArray, List.set_cons_zero, List.set_cons_succ, i64_w, i32_w]
         rfl
       refine pure_ (i := 6) (N := some 98) (v := ?_) (a' := ?_) #[true, true, true, true, true, true, true, false, true, false, false] rfl rfl (any_of HT_.out (by kernel_rfl)) (fun _ _ _ h => h) (Or.inl ⟨by rfl, ?_⟩) ?_ ?_
       rotate_left
       · intro w'
         go_simp
         with_reducible rfl
       rotate_left
       · simp only [Act.put, List.setIfInBounds_toArray, List.set_cons_zero, List.set_cons_succ, i64_w, i32_w]
         rfl
       refine pure_ (i := 7) (N := some 99) (v := ?_) (a' := ?_) #[true, true, true, true, true, true, true, true, true, false, false] rfl rfl (any_of HT_.out (by kernel_rfl)) (fun _ _ _ h => h) (Or.inl ⟨by rfl, ?_⟩) ?_ ?_
       rotate_left
       · intro w'
         go_simp
         with_reducible rfl
       rotate_left
       · simp only [Act.put, List.setIfInBounds_toArray, List.set_cons_zero, List.set_cons_succ, i64_w, i32_w]
         rfl
       exact norm_ (by simp only [putAll, Act.put, List.setIfInBounds_toArray, List.set_cons_zero, List.set_cons_succ]) (hCont (xa0, xa1, z, gb) _ ⟨hHeld, (All.drop3 (All.drop3 HA.out))⟩)
     refine box_step ?hg (N := 15) ?hd (cs := #[.int .i64 0, .int .i64 0, .slice none 0 0, .slice none 0 0]) (t := 40) ?hr ?_; (case hd => rfl); (case hg => rfl); (case hr => first | (go_simp; done) | (go_simp; rfl))
     intro gb hg w55 hbox hb
     have n_ := Aside0.mk (All.box (by first | exact HA.out | exact All.drewN HA.out _ | exact All.drew HA.out) hg hbox hb)
     clear HA
     have HA := n_
     clear n_ hg hbox hb
     refine hK.out _ _ HA.out.2.2.2.2.2.2.2.2.2.1.1 (fun hHeld => ?_)
     clear hK K
     refine norm_ (a' := ?_) ?_ ?_
     rotate_left
     · show Act.put _ (some 15) _ = _
       simp only [Act.put, List.setIfInBounds_toArray, List.set_cons_zero, List.set_cons_succ, i64_w, i32_w]
       rfl
     refine one_ (i := 3) (N := some 96) #[true, true, true, true, false, false, false, false, true, false, false] rfl rfl (one_of HT_.out (by kernel_rfl)) (by decide) (fun K hK => ?_)
     refine goes_ Try.func18 (by kernel_rfl) rfl #[.agg #[.int .i64 a1_0, .int .i64 a1_1, .slice A1_2 l1_2.length c1_2, .slice A1_3 l1_3.length c1_3]] (by rfl) rfl rfl la_ ?_
     refine (toT k HR1_2.out HC1_2.out HR1_3.out HC1_3.out _ (by first | exact All.base HA.out | exact pw_below_drewN (All.base HA.out) _ | exact below_drew1 (All.base HA.out)) A1p.out).mono ?_
     rintro e w56 ⟨xa1, rfl, hp, hb⟩
     refine ⟨_, rfl, ?_⟩
     have n_ := Aside0.mk (All.push (by first | exact HA.out | exact All.drewN HA.out _ | exact All.drew HA.out) hb (Ob.term w.heap.size xa1 p13 p14) hp.1 hp.2.1 hp.2.2)
     clear HA
     have HA := n_
     clear n_ hp hb
     refine hK.out _ _ HA.out.2.2.2.2.2.2.2.2.2.2.1.1 (fun hHeld => ?_)
     clear hK K
     refine norm_ (a' := ?_) ?_ ?_
     rotate_left
     · show Act.put _ (some 96) _ = _
       simp only [Act.put, List.setIfInBounds_toArray, List.set_cons_zero, List.set_cons_succ, i64_w, i32_w]
       rfl
     refine one_ (i := 4) (N := some 97) #[true, true, true, true, true, false, false, false, true, false, false] rfl rfl (one_of HT_.out (by kernel_rfl)) (by decide) (fun K hK => ?_)
     refine goes_ Try.func19 (by kernel_rfl) rfl #[.slice xa0.A xa0.n xa0.c, .agg #[.int .i64 p11, .int .i64 p12, .slice xa1.A2 xa1.n2 xa1.c2, .slice xa1.A3 xa1.n3 xa1.c3]] (by rfl) rfl rfl la_ ?_
     refine (implW k (by first | exact All.base HA.out | exact pw_below_drewN (All.base HA.out) _ | exact below_drew1 (All.base HA.out)) (rowP_move HA.out.2.2.1.1 (fun _ _ _ => rfl)) (termP_move HA.out.1.1 (fun _ _ _ => rfl)) Ag.out).mono ?_
     rintro e w57 ⟨z, rfl, hp, hb⟩
     refine ⟨_, rfl, ?_⟩
     have n_ := Aside0.mk (All.push (by first | exact HA.out | exact All.drewN HA.out _ | exact All.drew HA.out) hb (Ob.term w.heap.size z g3 g4) hp.1 hp.2.1 hp.2.2)
     clear HA
     have HA := n_
     clear n_ hp hb
     refine hK.out _ _ HA.out.2.2.2.2.2.2.2.2.2.2.2.1.1 (fun hHeld => ?_)
     clear hK K
     refine norm_ (a' := ?_) ?_ ?_
     rotate_left
     · show Act.put _ (some 97) _ = _
       simp only [Act.put, List.setIfInBounds_toArray, List.set_cons_zero, List.set_cons_succ, i64_w, i32_w]
       rfl
     refine pure_ (i := 5) (N := some 92) (v := ?_) (a' := ?_) #[true, true, true, true, true, true, false, false, true, false, false] rfl rfl (any_of HT_.out (by kernel_rfl)) (fun _ _ _ h => h) (Or.inl ⟨by rfl, ?_⟩) ?_ ?_
     rotate_left
     · intro w'
       go_simp
       with_reducible rfl
     rotate_left
     · simp only [Act.put, List.setIfInBounds_toArray, List.set_cons_zero, List.set_cons_succ, i64_w, i32_w]
       rfl
     refine pure_ (i := 6) (N := some 98) (v := ?_) (a' := ?_) #[true, true, true, true, true, true, true, false, true, false, false] rfl rfl (any_of HT_.out (by kernel_rfl)) (fun _ _ _ h => h) (Or.inl ⟨by rfl, ?_⟩) ?_ ?_
     rotate_left
     · intro w'
       go_simp
       with_reducible rfl
     rotate_left
     · simp only [Act.put, List.setIfInBounds_toArray, List.set_cons_zero, List.set_cons_succ, i64_w, i32_w]
       rfl
     refine pure_ (i := 7) (N := some 99) (v := ?_) (a' := ?_) #[true, true, true, true, true, true, true, true, true, false, false] rfl rfl (any_of HT_.out (by kernel_rfl)) (fun _ _ _ h => h) (Or.inl ⟨by rfl, ?_⟩) ?_ ?_
     rotate_left
     · intro w'
       go_simp
       with_reducible rfl
     rotate_left
     · simp only [Act.put, List.setIfInBounds_toArray, List.set_cons_zero, List.set_cons_succ, i64_w, i32_w]
       rfl
     exact norm_ (by simp only [putAll, Act.put, List.setIfInBounds_toArray, List.set_cons_zero, List.set_cons_succ]) (hCont (xa0, xa1, z, gb) _ ⟨hHeld, (All.drop3 (All.drop2 HA.out))⟩)
   refine box_step ?hg (N := 15) ?hd (cs := #[.int .i64 0, .int .i64 0, .slice none 0 0, .slice none 0 0]) (t := 40) ?hr ?_; (case hd => rfl); (case hg => rfl); (case hr => first | (go_simp; done) | (go_simp; rfl))
   intro gb hg w58 hbox hb
   have n_ := Aside0.mk (All.box (by first | exact HA.out | exact All.drewN HA.out _ | exact All.drew HA.out) hg hbox hb)
   clear HA
   have HA := n_
   clear n_ hg hbox hb
   refine hK.out _ _ HA.out.2.2.2.2.2.2.2.2.1.1 (fun hHeld => ?_)
   clear hK K
   refine norm_ (a' := ?_) ?_ ?_
   rotate_left
   · show Act.put _ (some 15) _ = _
     simp only [Act.put, List.setIfInBounds_toArray, List.set_cons_zero, List.set_cons_succ, i64_w, i32_w]
     rfl
   refine one_ (i := 1) (N := some 94) #[true, true, true, false, false, false, false, false, true, false, false] rfl rfl (one_of HT_.out (by kernel_rfl)) (by decide) (fun K hK => ?_)
   refine goes_ Try.func17 (by kernel_rfl) rfl #[.slice A0 l0.length c0] (by rfl) rfl rfl la_ ?_
   refine (toI k HR0.out HC0.out _ (by first | exact All.base HA.out | exact pw_below_drewN (All.base HA.out) _ | exact below_drew1 (All.base HA.out)) A0p.out).mono ?_
   rintro e w59 ⟨xa0, rfl, hp, hb⟩
   refine ⟨_, rfl, ?_⟩
   have n_ := Aside0.mk (All.push (by first | exact HA.out | exact All.drewN HA.out _ | exact All.drew HA.out) hb (Ob.rw w.heap.size xa0 p0) hp.1 hp.2.1 hp.2.2)
   clear HA
   have HA := n_
   clear n_ hp hb
   refine hK.out _ _ HA.out.2.2.2.2.2.2.2.2.2.1.1 (fun hHeld => ?_)
   clear hK K
   refine norm_ (a' := ?_) ?_ ?_
   rotate_left
   · show Act.put _ (some 94) _ = _
     simp only [Act.put, List.setIfInBounds_toArray, List.set_cons_zero, List.set_cons_succ, i64_w, i32_w]
     rfl
   refine one_ (i := 3) (N := some 96) #[true, true, true, true, false, false, false, false, true, false, false] rfl rfl (one_of HT_.out (by kernel_rfl)) (by decide) (fun K hK => ?_)
   refine goes_ Try.func18 (by kernel_rfl) rfl #[.agg #[.int .i64 a1_0, .int .i64 a1_1, .slice A1_2 l1_2.length c1_2, .slice A1_3 l1_3.length c1_3]] (by rfl) rfl rfl la_ ?_
   refine (toT k HR1_2.out HC1_2.out HR1_3.out HC1_3.out _ (by first | exact All.base HA.out | exact pw_below_drewN (All.base HA.out) _ | exact below_drew1 (All.base HA.out)) A1p.out).mono ?_
   rintro e w60 ⟨xa1, rfl, hp, hb⟩
   refine ⟨_, rfl, ?_⟩
   have n_ := Aside0.mk (All.push (by first | exact HA.out | exact All.drewN HA.out _ | exact All.drew HA.out) hb (Ob.term w.heap.size xa1 p13 p14) hp.1 hp.2.1 hp.2.2)
   clear HA
   have HA := n_
   clear n_ hp hb
   refine hK.out _ _ HA.out.2.2.2.2.2.2.2.2.2.2.1.1 (fun hHeld => ?_)
   clear hK K
   refine norm_ (a' := ?_) ?_ ?_
   rotate_left
   · show Act.put _ (some 96) _ = _
     simp only [Act.put, List.setIfInBounds_toArray, List.set_cons_zero, List.set_cons_succ, i64_w, i32_w]
     rfl
   refine one_ (i := 4) (N := some 97) #[true, true, true, true, true, false, false, false, true, false, false] rfl rfl (one_of HT_.out (by kernel_rfl)) (by decide) (fun K hK => ?_)
   refine goes_ Try.func19 (by kernel_rfl) rfl #[.slice xa0.A xa0.n xa0.c, .agg #[.int .i64 p11, .int .i64 p12, .slice xa1.A2 xa1.n2 xa1.c2, .slice xa1.A3 xa1.n3 xa1.c3]] (by rfl) rfl rfl la_ ?_
   refine (implW k (by first | exact All.base HA.out | exact pw_below_drewN (All.base HA.out) _ | exact below_drew1 (All.base HA.out)) (rowP_move HA.out.2.1.1 (fun _ _ _ => rfl)) (termP_move HA.out.1.1 (fun _ _ _ => rfl)) Ag.out).mono ?_
   rintro e w61 ⟨z, rfl, hp, hb⟩
   refine ⟨_, rfl, ?_⟩
   have n_ := Aside0.mk (All.push (by first | exact HA.out | exact All.drewN HA.out _ | exact All.drew HA.out) hb (Ob.term w.heap.size z g3 g4) hp.1 hp.2.1 hp.2.2)
   clear HA
   have HA := n_
   clear n_ hp hb
   refine hK.out _ _ HA.out.2.2.2.2.2.2.2.2.2.2.2.1.1 (fun hHeld => ?_)
   clear hK K
   refine norm_ (a' := ?_) ?_ ?_
   rotate_left
   · show Act.put _ (some 97) _ = _
     simp only [Act.put, List.setIfInBounds_toArray, List.set_cons_zero, List.set_cons_succ, i64_w, i32_w]
     rfl
   refine pure_ (i := 5) (N := some 92) (v := ?_) (a' := ?_) #[true, true, true, true, true, true, false, false, true, false, false] rfl rfl (any_of HT_.out (by kernel_rfl)) (fun _ _ _ h => h) (Or.inl ⟨by rfl, ?_⟩) ?_ ?_
   rotate_left
   · intro w'
     go_simp
     with_reducible rfl
   rotate_left
   · simp only [Act.put, List.setIfInBounds_toArray, List.set_cons_zero, List.set_cons_succ, i64_w, i32_w]
     rfl
   refine pure_ (i := 6) (N := some 98) (v := ?_) (a' := ?_) #[true, true, true, true, true, true, true, false, true, false, false] rfl rfl (any_of HT_.out (by kernel_rfl)) (fun _ _ _ h => h) (Or.inl ⟨by rfl, ?_⟩) ?_ ?_
   rotate_left
   · intro w'
     go_simp
     with_reducible rfl
   rotate_left
   · simp only [Act.put, List.setIfInBounds_toArray, List.set_cons_zero, List.set_cons_succ, i64_w, i32_w]
     rfl
   refine pure_ (i := 7) (N := some 99) (v := ?_) (a' := ?_) #[true, true, true, true, true, true, true, true, true, false, false] rfl rfl (any_of HT_.out (by kernel_rfl)) (fun _ _ _ h => h) (Or.inl ⟨by rfl, ?_⟩) ?_ ?_
   rotate_left
   · intro w'
     go_simp
     with_reducible rfl
   rotate_left
   · simp only [Act.put, List.setIfInBounds_toArray, List.set_cons_zero, List.set_cons_succ, i64_w, i32_w]
     rfl
   exact norm_ (by simp only [putAll, Act.put, List.setIfInBounds_toArray, List.set_cons_zero, List.set_cons_succ]) (hCont (xa0, xa1, z, gb) _ ⟨hHeld, (All.drop2 (All.drop2 HA.out))⟩)
 rintro ⟨xa0, xa1, xh, gh⟩ w62 ⟨hHeld, hA⟩
 dsimp only at hHeld hA ⊢
 clear HA
 have HA := Aside0.mk hA
 clear hA
 refine norm_ (a' := ?_) ?_ ?_
 rotate_left
 · simp only [putAll, Act.put, List.setIfInBounds_toArray, List.set_cons_zero, List.set_cons_succ]
   rfl
 refine one_ (i := 9) (N := none) #[true, true, true, true, true, true, true, true, true, true, false] rfl rfl (one_of HT_.out (by kernel_rfl)) (by decide) (fun K hK => ?_)
 obtain ⟨cz0, cz1, cz2, cz3, cz4, cz5, cz6, cz7⟩ := bf4_ HA.out.2.1.1
 have nA := All.set4 (l1 := [_]) HA.out (.int .i64 g1) (.int .i64 g2) (.slice xh.A2 xh.n2 xh.c2) (.slice xh.A3 xh.n3 xh.c3)
 refine skip_ (w1 := ?_) (by rfl) rfl ?_ ?_
 rotate_left
 · go_simp
   rfl
 refine hK.out _ _ nA.2.2.2.2.2.2.2.2.2.1.1 (fun hHeld => ?_)
 clear hK K
 refine gen_any (All w _) nA ?_
 clear HA nA hHeld cz0 cz1 cz2 cz3 cz4 cz5 cz6 cz7
 intro w63 hA
 have HA := Aside0.mk hA
 clear hA
 refine pure_ (i := 10) (N := some 16) (v := ?_) (a' := ?_) #[true, true, true, true, true, true, true, true, true, true, true] rfl rfl (any_of HT_.out (by kernel_rfl)) (fun _ _ _ h => h) (Or.inl ⟨by rfl, ?_⟩) ?_ ?_
 rotate_left
 · intro w'
   go_simp
   with_reducible rfl
 rotate_left
 · simp only [Act.put, List.setIfInBounds_toArray, List.set_cons_zero, List.set_cons_succ, i64_w, i32_w]
   rfl
 refine done_ (done_of HT_.out (by kernel_rfl)) ?_
 go_upto_region 31 with (fail)
 obtain ⟨ci0, ci1, ci2, ci3⟩ := bc4_ HA.out.2.1.1
 obtain ⟨cj0, cj1, cj2, cj3⟩ := bc4_ HA.out.2.2.2.2.2.2.2.2.1.1
 go_upto_region 34 with (first | ((with_reducible refine gate_callee (f := 20) rfl ?_); refine goesL_ (some 102) rfl rfl Try.func20 (by kernel_rfl) rfl #[.agg #[.int .i64 g1, .int .i64 g2, .slice xh.A2 xh.n2 xh.c2, .slice xh.A3 xh.n3 xh.c3], .agg #[.int .i64 s1, .int .i64 s2, .slice xw.A2 xw.n2 xw.c2, .slice xw.A3 xw.n3 xw.c3]] rfl la_ ?_; (refine (eqT k (termP_move HA.out.1.1 (fun _ _ _ => rfl)) (termP_move HA.out.2.2.2.2.2.2.2.1.1 (fun _ _ _ => rfl)) Ae.out).mono ?_); rintro e w64 ⟨rfl, hb⟩; refine ⟨_, rfl, ?_⟩; have n_ := Aside0.mk (All.below (by first | exact HA.out | exact All.drewN HA.out _ | exact All.drew HA.out) hb); clear HA; have HA := n_; clear n_ hb))
 clear ci0 ci1 ci2 ci3 cj0 cj1 cj2 cj3
 obtain ⟨ci0, ci1, ci2, ci3⟩ := bc4_ HA.out.2.2.1.1
 go_wp2_with (first | ((with_reducible refine gate_callee (f := 24) rfl ?_); refine goesL_ (some 111) rfl rfl Try.func24 (by kernel_rfl) rfl #[.agg #[.int .i64 g1, .int .i64 g2, .slice xg.A2 xg.n2 xg.c2, .slice xg.A3 xg.n3 xg.c3], .int .i64 1] rfl la_ ?_; (refine (heldT k (termP_move HA.out.2.2.2.1.1 (fun _ _ _ => rfl)) Ah.out).mono ?_); rintro e w65 ⟨rfl, hb⟩; refine ⟨_, rfl, ?_⟩; have n_ := Aside0.mk (All.below (by first | exact HA.out | exact All.drewN HA.out _ | exact All.drew HA.out) hb); clear HA; have HA := n_; clear n_ hb))
 go_ret
 exact ⟨rfl, (by first | exact All.base HA.out | exact pw_below_drewN (All.base HA.out) _ | exact below_drew1 (All.base HA.out))⟩
def laws_FnExactMapTerm.Pure : Prop := ∀ (l0 : List Int) (a1_0 : Int) (a1_1 : Int) (l1_2 : List Int) (l1_3 : List (S36)), ((∀ z ∈ l0, (Lit.int .i64 z).wf = true) ∧ l0.length ≤ maxLen) → (Lit.int .i64 a1_0).wf = true → (Lit.int .i64 a1_1).wf = true → ((∀ z ∈ l1_2, (Lit.int .i64 z).wf = true) ∧ l1_2.length ≤ maxLen) → ((∀ z ∈ l1_3, Wf36 z) ∧ l1_3.length ≤ maxLen) → ∃ k, laws_FnExactMapTerm.f k l0 a1_0 a1_1 l1_2 l1_3 = some true
end Go.Proofs.Ytipfkicndjddgaa.P
