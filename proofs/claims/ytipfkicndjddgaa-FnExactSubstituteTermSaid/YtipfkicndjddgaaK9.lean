-- by hand: impl.substituted, impl.SubstituteTerm
import Derived.Test.YtipfkicndjddgaaK7
namespace Go.Proofs.Ytipfkicndjddgaa.P
open Go.RowKit Go.Proofs.YtipfkicndjddgaaW.PrintWords Go.Proofs.YtipfkicndjddgaaW.PrintLast Go.Proofs.YtipfkicndjddgaaW.PrintMore
attribute [local go_sem] max2_int min2_int max_two min_two max_three min_three max_four min_four
set_option linter.unusedVariables false
set_option linter.unusedSimpArgs false
def impl_substituted_1.f (k : Nat) (a0 a1 : Int) (l2 : List Int) (l3 : List S40) (d i : Int) (u0 u1 : Int) (m2 : List Int) (m3 : List S40) : Option (Int × Int × List Int × List S40) := if wrap64 (a1 - d) = i then impl_shifted.f k u0 u1 m2 m3 d 0 else if wrap64 (a1 - d) > i then impl_copyTerm.f k a0 (wrap64 (a1 - 1)) l2 l3 else impl_copyTerm.f k a0 a1 l2 l3
set_option maxHeartbeats 8000000 in
set_option maxRecDepth 100000 in
theorem impl_substituted_1.calls (k : Nat) (a0 a1 : Int) (A2 : Option Addr) (c2 : Nat) (l2 : List Int) (A3 : Option Addr) (c3 : Nat) (l3 : List S40) (d i : Int) (u0 u1 : Int) (B2_ : Option Addr) (k2 : Nat) (m2 : List Int) (B3_ : Option Addr) (k3 : Nat) (m3 : List S40) (g2 g3 : Nat) (r1 r2 : Int) (r3 : List Int) (r4 : List S40) (w : World) (hr2 : Kd.C (Kd.int .i64) w A2 l2.length l2) (hc2 : l2.length ≤ c2) (hr3 : Kd.C k40 w A3 l3.length l3) (hc3 : l3.length ≤ c3) (hr4 : Kd.C (Kd.int .i64) w B2_ m2.length m2) (hc4 : m2.length ≤ k2) (hr5 : Kd.C k40 w B3_ m3.length m3) (hc5 : m3.length ≤ k3) (hb2 : w.heap[g2]? = some (.cells #[.int .i64 i] 3 (0, 0))) (hb3 : w.heap[g3]? = some (.cells #[.int .i64 u0, .int .i64 u1, .slice B2_ m2.length k2, .slice B3_ m3.length k3] 40 (0, 0))) (h : impl_substituted_1.f k a0 a1 l2 l3 d i u0 u1 m2 m3 = some (r1, r2, r3, r4)) :
  Calls Try.prog 98 #[.agg #[.int .i64 a0, .int .i64 a1, .slice A2 l2.length c2, .slice A3 l3.length c3], .int .i64 d, .pointer (some ⟨g2, 0, none⟩), .pointer (some ⟨g3, 0, none⟩)] w fun e w' => ∃ (v2 v3 : Value) (f : Nat → Bool), e = .returned (.agg #[.int .i64 r1, .int .i64 r2, v2, v3]) ∧ Made w' w.heap.size f v2 v3 r3 r4 ∧ Below w.heap.size w w' := by
 unfold impl_substituted_1.f at h
 have hu40 := Try.underlying40
 have HR2 := Aside0.mk hr2
 have HC2 := Aside0.mk hc2
 clear hr2 hc2
 have HR3 := Aside0.mk hr3
 have HC3 := Aside0.mk hc3
 clear hr3 hc3
 have HR4 := Aside0.mk hr4
 have HC4 := Aside0.mk hc4
 clear hr4 hc4
 have HR5 := Aside0.mk hr5
 have HC5 := Aside0.mk hc5
 clear hr5 hc5
 have HQ2 := Aside0.mk hb2
 have HQ3 := Aside0.mk hb3
 clear hb2 hb3
 have H := Aside0.mk h
 clear h
 have HA := Aside0.mk (show All w [] w from Below.refl w.heap.size w)
 go_enter Try.func98, Try.ntmps98
 go_upto_region 1 with (first | ((with_reducible refine gate_dst (N := 4) rfl ?_); (try (refine gate_guard (by rfl) ?_; dsimp only)); refine box_event ?hg (N := 4) ?hd (cs := #[.int .i64 a0, .int .i64 a1, .slice A2 l2.length c2, .slice A3 l3.length c3]) (t := 40) ?hr ?_; (case hd => rfl); (case hg => rfl); (case hr => first | (go_simp; done) | (go_simp; rfl)); intro g4 hg w64 hbox hb; have n_ := Aside0.mk (All.box (by first | exact HA.out | exact All.drewN HA.out _ | exact All.drew HA.out) hg hbox hb); clear HA; have HA := n_; clear n_ hg hbox hb) | ((with_reducible refine gate_dst (N := 6) rfl ?_); (try (refine gate_guard (by rfl) ?_; dsimp only)); refine box_event ?hg (N := 6) ?hd (cs := #[.int .i64 0, .int .i64 0, .slice none 0 0, .slice none 0 0]) (t := 40) ?hr ?_; (case hd => rfl); (case hg => rfl); (case hr => first | (go_simp; done) | (go_simp; rfl)); intro g6 hg w65 hbox hb; have n_ := Aside0.mk (All.box (by first | exact HA.out | exact All.drewN HA.out _ | exact All.drew HA.out) hg hbox hb); clear HA; have HA := n_; clear n_ hg hbox hb))
 obtain ⟨ca0, ca1, ca2, ca3⟩ := bc4_ HA.out.2.1.1
 have cq0 : w.cell? ⟨g2, 0, none⟩ = some (.int .i64 i) := (blk_cell HQ2.out 0).trans rfl
 have cq := (HA.out.base.cell (World.block_lt_of_cell? w _ cq0)).trans cq0
 clear cq0
 go_upto_if 12 with (fail)
 by_cases c0 : wrap64 (a1 - d) = i
 · have h := H.out
   clear H
   rw [if_pos c0] at h
   replace h := Aside0.mk h
   have c0b : (wrap64 (a1 - d) == i) = true := beq_iff_eq.mpr c0
   (first | rw [c0b] | skip)
   clear c0
   have hq_ := (HA.out.base.block _ (blk_lt HQ3.out)).trans HQ3.out
   obtain ⟨cu0, cu1, cu2, cu3⟩ := bc4_ hq_
   clear hq_
   go_wp2_with (first | ((with_reducible refine gate_callee (f := 70) rfl ?_); refine goesL_ (some 18) rfl rfl Try.func70 (by kernel_rfl) rfl #[.agg #[.int .i64 u0, .int .i64 u1, .slice B2_ m2.length k2, .slice B3_ m3.length k3], .int .i64 d, .int .i64 0] rfl la_ ?_; (refine (impl_shifted.calls k u0 u1 _ _ m2 _ _ m3 d 0 r1 r2 r3 r4 _ (Kd.C_below HR4.out (by first | exact All.base HA.out | exact pw_below_drewN (All.base HA.out) _ | exact below_drew1 (All.base HA.out))) HC4.out (Kd.C_below HR5.out (by first | exact All.base HA.out | exact pw_below_drewN (All.base HA.out) _ | exact below_drew1 (All.base HA.out))) HC5.out h.out).mono ?_); rintro e w66 ⟨v2, v3, f, rfl, hr, hb⟩; refine ⟨_, rfl, ?_⟩; obtain ⟨B2, e2, rfl⟩ := Kd.R_slice hr.1; obtain ⟨B3, e3, rfl⟩ := Kd.S_slice hr.2; have n_ := Aside0.mk (All.pushMade (by first | exact HA.out | exact All.drewN HA.out _ | exact All.drew HA.out) hb hr); clear HA; have HA := n_; clear n_ hb hr; obtain ⟨cz0, cz1, cz2, cz3, cz4, cz5, cz6, cz7⟩ := bf4_ HA.out.2.1.1))
   have nA := All.set4 (l1 := [_]) HA.out (.int .i64 r1) (.int .i64 r2) (.slice B2 r3.length e2) (.slice B3 r4.length e3)
   refine bodyPost_ret (results_cell_row rfl _ _ g6 40 #[.int .i64 r1, .int .i64 r2, .slice B2 r3.length e2, .slice B3 r4.length e3] (0, 0) _ rfl nA.2.1.1 Try.underlying40 rfl (by kernel_rfl)) rfl ?_
   first | exact ⟨_, _, f, rfl, made_Made nA.1.1, nA.base⟩ | exact ⟨_, _, rfl, ⟨f, made_Made nA.1.1⟩, nA.base⟩
 have h := H.out
 clear H
 rw [if_neg c0] at h
 have H := Aside0.mk h
 clear h
 have c0b : (wrap64 (a1 - d) == i) = false := beq_eq_false_iff_ne.mpr c0
 rw [c0b]
 clear c0b c0
 go_upto_if 19 with (fail)
 by_cases c0 : wrap64 (a1 - d) > i
 · have h := H.out
   clear H
   rw [if_pos c0] at h
   replace h := Aside0.mk h
   have c0b : decide (wrap64 (a1 - d) > i) = true := decide_eq_true c0
   have c0c : decide (i < wrap64 (a1 - d)) = true := decide_eq_true c0
   (first | rw [c0b] | rw [c0c])
   clear c0
   obtain ⟨cf0, cf1, cf2, cf3, cf4, cf5, cf6, cf7⟩ := bf4_ HA.out.2.1.1
   go_upto_region 6 with (fail)
   refine gen_wp (All w _) (All.put (l1 := [_]) HA.out 1 (.int .i64 (wrap64 (a1 - 1))) (cs' := #[.int .i64 a0, .int .i64 (wrap64 (a1 - 1)), .slice A2 l2.length c2, .slice A3 l3.length c3]) rfl) ?_
   clear HA
   intro w67 hA
   have HA := Aside0.mk hA
   clear hA
   clear ca0 ca1 ca2 ca3 cq
   clear cf0 cf1 cf2 cf3 cf4 cf5 cf6 cf7
   obtain ⟨ca0, ca1, ca2, ca3⟩ := bc4_ HA.out.2.1.1
   go_wp2_with (first | ((with_reducible refine gate_callee (f := 96) rfl ?_); refine goesL_ (some 28) rfl rfl Try.func96 (by kernel_rfl) rfl #[.agg #[.int .i64 a0, .int .i64 (wrap64 (a1 - 1)), .slice A2 l2.length c2, .slice A3 l3.length c3]] rfl la_ ?_; (refine (copyTermT k a0 _ _ _ l2 _ _ l3 r1 r2 r3 r4 _ (Kd.C_below HR2.out (by first | exact All.base HA.out | exact pw_below_drewN (All.base HA.out) _ | exact below_drew1 (All.base HA.out))) HC2.out (Kd.C_below HR3.out (by first | exact All.base HA.out | exact pw_below_drewN (All.base HA.out) _ | exact below_drew1 (All.base HA.out))) HC3.out h.out).mono ?_); rintro e w68 ⟨v2, v3, f, rfl, hr, hb⟩; refine ⟨_, rfl, ?_⟩; obtain ⟨B2, e2, rfl⟩ := Kd.R_slice hr.1; obtain ⟨B3, e3, rfl⟩ := Kd.S_slice hr.2; have n_ := Aside0.mk (All.pushMade (by first | exact HA.out | exact All.drewN HA.out _ | exact All.drew HA.out) hb hr); clear HA; have HA := n_; clear n_ hb hr; obtain ⟨cz0, cz1, cz2, cz3, cz4, cz5, cz6, cz7⟩ := bf4_ HA.out.2.1.1))
   have nA := All.set4 (l1 := [_]) HA.out (.int .i64 r1) (.int .i64 r2) (.slice B2 r3.length e2) (.slice B3 r4.length e3)
   refine bodyPost_ret (results_cell_row rfl _ _ g6 40 #[.int .i64 r1, .int .i64 r2, .slice B2 r3.length e2, .slice B3 r4.length e3] (0, 0) _ rfl nA.2.1.1 Try.underlying40 rfl (by kernel_rfl)) rfl ?_
   first | exact ⟨_, _, f, rfl, made_Made nA.1.1, nA.base⟩ | exact ⟨_, _, rfl, ⟨f, made_Made nA.1.1⟩, nA.base⟩
 · have h := H.out
   clear H
   rw [if_neg c0] at h
   replace h := Aside0.mk h
   have c0b : decide (wrap64 (a1 - d) > i) = false := decide_eq_false c0
   have c0c : decide (i < wrap64 (a1 - d)) = false := decide_eq_false c0
   (first | rw [c0b] | rw [c0c])
   clear c0
   go_wp2_with (first | ((with_reducible refine gate_callee (f := 96) rfl ?_); refine goesL_ (some 28) rfl rfl Try.func96 (by kernel_rfl) rfl #[.agg #[.int .i64 a0, .int .i64 a1, .slice A2 l2.length c2, .slice A3 l3.length c3]] rfl la_ ?_; (refine (copyTermT k a0 _ _ _ l2 _ _ l3 r1 r2 r3 r4 _ (Kd.C_below HR2.out (by first | exact All.base HA.out | exact pw_below_drewN (All.base HA.out) _ | exact below_drew1 (All.base HA.out))) HC2.out (Kd.C_below HR3.out (by first | exact All.base HA.out | exact pw_below_drewN (All.base HA.out) _ | exact below_drew1 (All.base HA.out))) HC3.out h.out).mono ?_); rintro e w69 ⟨v2, v3, f, rfl, hr, hb⟩; refine ⟨_, rfl, ?_⟩; obtain ⟨B2, e2, rfl⟩ := Kd.R_slice hr.1; obtain ⟨B3, e3, rfl⟩ := Kd.S_slice hr.2; have n_ := Aside0.mk (All.pushMade (by first | exact HA.out | exact All.drewN HA.out _ | exact All.drew HA.out) hb hr); clear HA; have HA := n_; clear n_ hb hr; obtain ⟨cz0, cz1, cz2, cz3, cz4, cz5, cz6, cz7⟩ := bf4_ HA.out.2.1.1))
   have nA := All.set4 (l1 := [_]) HA.out (.int .i64 r1) (.int .i64 r2) (.slice B2 r3.length e2) (.slice B3 r4.length e3)
   refine bodyPost_ret (results_cell_row rfl _ _ g6 40 #[.int .i64 r1, .int .i64 r2, .slice B2 r3.length e2, .slice B3 r4.length e3] (0, 0) _ rfl nA.2.1.1 Try.underlying40 rfl (by kernel_rfl)) rfl ?_
   first | exact ⟨_, _, f, rfl, made_Made nA.1.1, nA.base⟩ | exact ⟨_, _, rfl, ⟨f, made_Made nA.1.1⟩, nA.base⟩
def impl_substituted.f (k : Nat) (a0 a1 : Int) (l2 : List Int) (l3 : List S40) (i : Int) (u0 u1 : Int) (m2 : List Int) (m3 : List S40) : Option (Int × Int × List Int × List S40) := impl_renamed.f k a0 a1 l2 l3 0 (fun z0 z1 z2 z3 z4 => impl_substituted_1.f k z0 z1 z2 z3 z4 i u0 u1 m2 m3)
theorem substituted_of {g5 g4 : Nat} {w : World} {i : Int} {u0 u1 : Int} {B2_ : Option Addr} {k2 : Nat} {m2 : List Int} {B3_ : Option Addr} {k3 : Nat} {m3 : List S40} (k : Nat) (hr4 : Kd.C (Kd.int .i64) w B2_ m2.length m2) (hc4 : m2.length ≤ k2) (hr5 : Kd.C k40 w B3_ m3.length m3) (hc5 : m3.length ≤ k3) (h4 : w.heap[g4]? = some (.cells #[.int .i64 i] 3 (0, 0))) (h5 : w.heap[g5]? = some (.cells #[.int .i64 u0, .int .i64 u1, .slice B2_ m2.length k2, .slice B3_ m3.length k3] 40 (0, 0))) : MkF w (fun z0 z1 z2 z3 z4 => impl_substituted_1.f k z0 z1 z2 z3 z4 i u0 u1 m2 m3) 98 #[] #[.pointer (some ⟨g4, 0, none⟩), .pointer (some ⟨g5, 0, none⟩)] := by
  intro a0 a1 A2 c2 l2 A3 c3 l3 d r1 r2 r3 r4 W hr2 hc2 hr3 hc3 hb h
  exact impl_substituted_1.calls k a0 a1 A2 c2 l2 A3 c3 l3 d i u0 u1 B2_ k2 m2 B3_ k3 m3 g4 g5 r1 r2 r3 r4 W hr2 hc2 hr3 hc3 (Kd.C_below hr4 hb) hc4 (Kd.C_below hr5 hb) hc5 ((hb.block _ (blk_lt h4)).trans h4) ((hb.block _ (blk_lt h5)).trans h5) h
theorem ofn_98 : OFn 98 := ⟨_, Try.func98, by kernel_rfl, rfl⟩
set_option maxHeartbeats 8000000 in
set_option maxRecDepth 100000 in
theorem impl_substituted.calls (k : Nat) (a0 a1 : Int) (A2 : Option Addr) (c2 : Nat) (l2 : List Int) (A3 : Option Addr) (c3 : Nat) (l3 : List S40) (i : Int) (u0 u1 : Int) (B2_ : Option Addr) (k2 : Nat) (m2 : List Int) (B3_ : Option Addr) (k3 : Nat) (m3 : List S40) (r1 r2 : Int) (r3 : List Int) (r4 : List S40) (w : World) (hr2 : Kd.C (Kd.int .i64) w A2 l2.length l2) (hc2 : l2.length ≤ c2) (hr3 : Kd.C k40 w A3 l3.length l3) (hc3 : l3.length ≤ c3) (hr4 : Kd.C (Kd.int .i64) w B2_ m2.length m2) (hc4 : m2.length ≤ k2) (hr5 : Kd.C k40 w B3_ m3.length m3) (hc5 : m3.length ≤ k3) (h : impl_substituted.f k a0 a1 l2 l3 i u0 u1 m2 m3 = some (r1, r2, r3, r4)) :
  Calls Try.prog 73 #[.agg #[.int .i64 a0, .int .i64 a1, .slice A2 l2.length c2, .slice A3 l3.length c3], .int .i64 i, .agg #[.int .i64 u0, .int .i64 u1, .slice B2_ m2.length k2, .slice B3_ m3.length k3]] w fun e w' => ∃ (v2 v3 : Value) (f : Nat → Bool), e = .returned (.agg #[.int .i64 r1, .int .i64 r2, v2, v3]) ∧ Made w' w.heap.size f v2 v3 r3 r4 ∧ Below w.heap.size w w' := by
 unfold impl_substituted.f at h
 have hu40 := Try.underlying40
 have HR2 := Aside0.mk hr2
 have HC2 := Aside0.mk hc2
 clear hr2 hc2
 have HR3 := Aside0.mk hr3
 have HC3 := Aside0.mk hc3
 clear hr3 hc3
 have HR4 := Aside0.mk hr4
 have HC4 := Aside0.mk hc4
 clear hr4 hc4
 have HR5 := Aside0.mk hr5
 have HC5 := Aside0.mk hc5
 clear hr5 hc5
 replace h := Aside0.mk h
 have HA := Aside0.mk (show All w [] w from Below.refl w.heap.size w)
 go_enter Try.func73, Try.ntmps73
 go_upto_region 1 with (first | ((with_reducible refine gate_dst (N := 3) rfl ?_); (try (refine gate_guard (by rfl) ?_; dsimp only)); refine box_event ?hg (N := 3) ?hd (cs := #[.int .i64 a0, .int .i64 a1, .slice A2 l2.length c2, .slice A3 l3.length c3]) (t := 40) ?hr ?_; (case hd => rfl); (case hg => rfl); (case hr => first | (go_simp; done) | (go_simp; rfl)); intro g3 hg w70 hbox hb; have n_ := Aside0.mk (All.box (by first | exact HA.out | exact All.drewN HA.out _ | exact All.drew HA.out) hg hbox hb); clear HA; have HA := n_; clear n_ hg hbox hb) | ((with_reducible refine gate_dst (N := 4) rfl ?_); (try (refine gate_guard (by rfl) ?_; dsimp only)); refine box_event ?hg (N := 4) ?hd (cs := #[.int .i64 i]) (t := 3) ?hr ?_; (case hd => rfl); (case hg => rfl); (case hr => first | (go_simp; done) | (go_simp; rfl)); intro g4 hg w71 hbox hb; have n_ := Aside0.mk (All.box (by first | exact HA.out | exact All.drewN HA.out _ | exact All.drew HA.out) hg hbox hb); clear HA; have HA := n_; clear n_ hg hbox hb) | ((with_reducible refine gate_dst (N := 5) rfl ?_); (try (refine gate_guard (by rfl) ?_; dsimp only)); refine box_event ?hg (N := 5) ?hd (cs := #[.int .i64 u0, .int .i64 u1, .slice B2_ m2.length k2, .slice B3_ m3.length k3]) (t := 40) ?hr ?_; (case hd => rfl); (case hg => rfl); (case hr => first | (go_simp; done) | (go_simp; rfl)); intro g5 hg w72 hbox hb; have n_ := Aside0.mk (All.box (by first | exact HA.out | exact All.drewN HA.out _ | exact All.drew HA.out) hg hbox hb); clear HA; have HA := n_; clear n_ hg hbox hb) | ((with_reducible refine gate_dst (N := 6) rfl ?_); (try (refine gate_guard (by rfl) ?_; dsimp only)); refine box_event ?hg (N := 6) ?hd (cs := #[.int .i64 0, .int .i64 0, .slice none 0 0, .slice none 0 0]) (t := 40) ?hr ?_; (case hd => rfl); (case hg => rfl); (case hr => first | (go_simp; done) | (go_simp; rfl)); intro g6 hg w73 hbox hb; have n_ := Aside0.mk (All.box (by first | exact HA.out | exact All.drewN HA.out _ | exact All.drew HA.out) hg hbox hb); clear HA; have HA := n_; clear n_ hg hbox hb))
 obtain ⟨ca0, ca1, ca2, ca3⟩ := bc4_ HA.out.2.2.2.1.1
 go_wp2_with (first | ((with_reducible refine gate_callee (f := 94) rfl ?_); refine goesL_ (some 9) rfl rfl Try.func94 (by kernel_rfl) rfl #[.agg #[.int .i64 a0, .int .i64 a1, .slice A2 l2.length c2, .slice A3 l3.length c3], .int .i64 0, .func (.func 98) #[] #[.pointer (some ⟨g4, 0, none⟩), .pointer (some ⟨g5, 0, none⟩)]] rfl la_ ?_; (refine (renamedT k a0 a1 _ _ l2 _ _ l3 0 _ _ _ _ r1 r2 r3 r4 _ (Kd.C_below HR2.out (by first | exact All.base HA.out | exact pw_below_drewN (All.base HA.out) _ | exact below_drew1 (All.base HA.out))) HC2.out (Kd.C_below HR3.out (by first | exact All.base HA.out | exact pw_below_drewN (All.base HA.out) _ | exact below_drew1 (All.base HA.out))) HC3.out ofn_98 (substituted_of k (Kd.C_below HR4.out (by first | exact All.base HA.out | exact pw_below_drewN (All.base HA.out) _ | exact below_drew1 (All.base HA.out))) HC4.out (Kd.C_below HR5.out (by first | exact All.base HA.out | exact pw_below_drewN (All.base HA.out) _ | exact below_drew1 (All.base HA.out))) HC5.out HA.out.2.2.1.1 HA.out.2.1.1) h.out).mono ?_); rintro e w74 ⟨v2, v3, f, rfl, hr, hb⟩; refine ⟨_, rfl, ?_⟩; obtain ⟨B2, e2, rfl⟩ := Kd.R_slice hr.1; obtain ⟨B3, e3, rfl⟩ := Kd.S_slice hr.2; have n_ := Aside0.mk (All.pushMade (by first | exact HA.out | exact All.drewN HA.out _ | exact All.drew HA.out) hb hr); clear HA; have HA := n_; clear n_ hb hr; obtain ⟨cz0, cz1, cz2, cz3, cz4, cz5, cz6, cz7⟩ := bf4_ HA.out.2.1.1))
 have nA := All.set4 (l1 := [_]) HA.out (.int .i64 r1) (.int .i64 r2) (.slice B2 r3.length e2) (.slice B3 r4.length e3)
 refine bodyPost_ret (results_cell_row rfl _ _ g6 40 #[.int .i64 r1, .int .i64 r2, .slice B2 r3.length e2, .slice B3 r4.length e3] (0, 0) _ rfl nA.2.1.1 Try.underlying40 rfl (by kernel_rfl)) rfl ?_
 first | exact ⟨_, _, f, rfl, made_Made nA.1.1, nA.base⟩ | exact ⟨_, _, rfl, ⟨f, made_Made nA.1.1⟩, nA.base⟩
def impl_SubstituteTerm.f (k : Nat) (a0 a1 : Int) (l2 : List Int) (l3 : List S40) (i : Int) (u0 u1 : Int) (m2 : List Int) (m3 : List S40) : Option (Int × Int × List Int × List S40 × Bool) := (impl_IsWritten.f k a0 a1 l2 l3).bind fun b => (impl_IsWritten.f k u0 u1 m2 m3).bind fun bu => if b = false ∨ bu = false ∨ i < 0 then some (0, 0, [], [], false) else (impl_substituted.f k a0 a1 l2 l3 i u0 u1 m2 m3).bind fun q => (impl_IsWritten.f k q.1 q.2.1 q.2.2.1 q.2.2.2).bind fun b2 => if b2 = false then some (0, 0, [], [], false) else some (q.1, q.2.1, q.2.2.1, q.2.2.2, true)
set_option maxHeartbeats 8000000 in
set_option maxRecDepth 100000 in
theorem impl_SubstituteTerm.calls (k : Nat) (a0 a1 : Int) (A2 : Option Addr) (c2 : Nat) (l2 : List Int) (A3 : Option Addr) (c3 : Nat) (l3 : List S40) (i : Int) (u0 u1 : Int) (B2_ : Option Addr) (k2 : Nat) (m2 : List Int) (B3_ : Option Addr) (k3 : Nat) (m3 : List S40) (r1 r2 : Int) (r3 : List Int) (r4 : List S40) (r5 : Bool) (w : World) (hr2 : Kd.C (Kd.int .i64) w A2 l2.length l2) (hc2 : l2.length ≤ c2) (hr3 : Kd.C k40 w A3 l3.length l3) (hc3 : l3.length ≤ c3) (hr4 : Kd.C (Kd.int .i64) w B2_ m2.length m2) (hc4 : m2.length ≤ k2) (hr5 : Kd.C k40 w B3_ m3.length m3) (hc5 : m3.length ≤ k3) (h : impl_SubstituteTerm.f k a0 a1 l2 l3 i u0 u1 m2 m3 = some (r1, r2, r3, r4, r5)) :
  Calls Try.prog 28 #[.agg #[.int .i64 a0, .int .i64 a1, .slice A2 l2.length c2, .slice A3 l3.length c3], .int .i64 i, .agg #[.int .i64 u0, .int .i64 u1, .slice B2_ m2.length k2, .slice B3_ m3.length k3]] w fun e w' => ∃ (v2 v3 : Value) (f : Nat → Bool), e = .returned (.tuple #[.agg #[.int .i64 r1, .int .i64 r2, v2, v3], .bool r5]) ∧ Made w' w.heap.size f v2 v3 r3 r4 ∧ Below w.heap.size w w' := by
 unfold impl_SubstituteTerm.f at h
 obtain ⟨b, Ab, h⟩ := Option.bind_eq_some_iff.mp h
 obtain ⟨bu, Abu, h⟩ := Option.bind_eq_some_iff.mp h
 have hu40 := Try.underlying40
 have HR2 := Aside0.mk hr2
 have HC2 := Aside0.mk hc2
 clear hr2 hc2
 have HR3 := Aside0.mk hr3
 have HC3 := Aside0.mk hc3
 clear hr3 hc3
 have HR4 := Aside0.mk hr4
 have HC4 := Aside0.mk hc4
 clear hr4 hc4
 have HR5 := Aside0.mk hr5
 have HC5 := Aside0.mk hc5
 clear hr5 hc5
 replace Ab := Aside0.mk Ab
 replace Abu := Aside0.mk Abu
 have H := Aside0.mk h
 clear h
 have HA := Aside0.mk (show All w [] w from Below.refl w.heap.size w)
 go_enter Try.func28, Try.ntmps28
 go_upto_region 1 with (first | ((with_reducible refine gate_dst (N := 3) rfl ?_); (try (refine gate_guard (by rfl) ?_; dsimp only)); refine box_event ?hg (N := 3) ?hd (cs := #[.int .i64 a0, .int .i64 a1, .slice A2 l2.length c2, .slice A3 l3.length c3]) (t := 40) ?hr ?_; (case hd => rfl); (case hg => rfl); (case hr => first | (go_simp; done) | (go_simp; rfl)); intro g3 hg w75 hbox hb; have n_ := Aside0.mk (All.box (by first | exact HA.out | exact All.drewN HA.out _ | exact All.drew HA.out) hg hbox hb); clear HA; have HA := n_; clear n_ hg hbox hb) | ((with_reducible refine gate_dst (N := 5) rfl ?_); (try (refine gate_guard (by rfl) ?_; dsimp only)); refine box_event ?hg (N := 5) ?hd (cs := #[.int .i64 u0, .int .i64 u1, .slice B2_ m2.length k2, .slice B3_ m3.length k3]) (t := 40) ?hr ?_; (case hd => rfl); (case hg => rfl); (case hr => first | (go_simp; done) | (go_simp; rfl)); intro g5 hg w76 hbox hb; have n_ := Aside0.mk (All.box (by first | exact HA.out | exact All.drewN HA.out _ | exact All.drew HA.out) hg hbox hb); clear HA; have HA := n_; clear n_ hg hbox hb) | ((with_reducible refine gate_dst (N := 6) rfl ?_); (try (refine gate_guard (by rfl) ?_; dsimp only)); refine box_event ?hg (N := 6) ?hd (cs := #[.int .i64 0, .int .i64 0, .slice none 0 0, .slice none 0 0]) (t := 40) ?hr ?_; (case hd => rfl); (case hg => rfl); (case hr => first | (go_simp; done) | (go_simp; rfl)); intro g6 hg w77 hbox hb; have n_ := Aside0.mk (All.box (by first | exact HA.out | exact All.drewN HA.out _ | exact All.drew HA.out) hg hbox hb); clear HA; have HA := n_; clear n_ hg hbox hb))
 obtain ⟨cnd, hcnd⟩ : ∃ c, c = decide (b = false ∨ bu = false ∨ i < 0) := ⟨_, rfl⟩
 have CN := Aside0.mk hcnd
 clear hcnd
 go_cut [20] (fun v20 wc => v20 = .bool cnd ∧ All w [Ob.box g6 #[.int .i64 0, .int .i64 0, .slice none 0 0, .slice none 0 0] 40, Ob.box g5 #[.int .i64 u0, .int .i64 u1, .slice B2_ m2.length k2, .slice B3_ m3.length k3] 40, Ob.box g3 #[.int .i64 a0, .int .i64 a1, .slice A2 l2.length c2, .slice A3 l3.length c3] 40] wc)
 case first =>
  obtain ⟨ca0, ca1, ca2, ca3⟩ := bc4_ HA.out.2.2.1.1
  obtain ⟨cu0, cu1, cu2, cu3⟩ := bc4_ HA.out.2.1.1
  cases b
  · go_wp2_with (first | ((with_reducible refine gate_callee (f := 63) rfl ?_); refine goesL_ (some 10) rfl rfl Try.func63 (by kernel_rfl) rfl #[.agg #[.int .i64 a0, .int .i64 a1, .slice A2 l2.length c2, .slice A3 l3.length c3]] rfl la_ ?_; (refine (impl_IsWritten.calls k _ _ _ _ l2 _ _ l3 false _ (Kd.C_below HR2.out (by first | exact All.base HA.out | exact pw_below_drewN (All.base HA.out) _ | exact below_drew1 (All.base HA.out))) HC2.out (Kd.C_below HR3.out (by first | exact All.base HA.out | exact pw_below_drewN (All.base HA.out) _ | exact below_drew1 (All.base HA.out))) HC3.out Ab.out).mono ?_); rintro e w78 ⟨rfl, hb⟩; refine ⟨_, rfl, ?_⟩; have n_ := Aside0.mk (All.below (by first | exact HA.out | exact All.drewN HA.out _ | exact All.drew HA.out) hb); clear HA; have HA := n_; clear n_ hb; clear cu0 cu1 cu2 cu3; obtain ⟨cu0, cu1, cu2, cu3⟩ := bc4_ HA.out.2.1.1))
    go_meet
    case rel => exact ⟨by rw [CN.out]; simp, (by first | exact HA.out | exact All.drewN HA.out _ | exact All.drew HA.out)⟩
  · cases bu
    · go_wp2_with (first | ((with_reducible refine gate_callee (f := 63) rfl ?_); refine goesL_ (some 10) rfl rfl Try.func63 (by kernel_rfl) rfl #[.agg #[.int .i64 a0, .int .i64 a1, .slice A2 l2.length c2, .slice A3 l3.length c3]] rfl la_ ?_; (refine (impl_IsWritten.calls k _ _ _ _ l2 _ _ l3 true _ (Kd.C_below HR2.out (by first | exact All.base HA.out | exact pw_below_drewN (All.base HA.out) _ | exact below_drew1 (All.base HA.out))) HC2.out (Kd.C_below HR3.out (by first | exact All.base HA.out | exact pw_below_drewN (All.base HA.out) _ | exact below_drew1 (All.base HA.out))) HC3.out Ab.out).mono ?_); rintro e w79 ⟨rfl, hb⟩; refine ⟨_, rfl, ?_⟩; have n_ := Aside0.mk (All.below (by first | exact HA.out | exact All.drewN HA.out _ | exact All.drew HA.out) hb); clear HA; have HA := n_; clear n_ hb; clear cu0 cu1 cu2 cu3; obtain ⟨cu0, cu1, cu2, cu3⟩ := bc4_ HA.out.2.1.1) | (go_at_call 63; (refine (impl_IsWritten.calls k _ _ _ _ m2 _ _ m3 false _ (Kd.C_below HR4.out (by first | exact All.base HA.out | exact pw_below_drewN (All.base HA.out) _ | exact below_drew1 (All.base HA.out))) HC4.out (Kd.C_below HR5.out (by first | exact All.base HA.out | exact pw_below_drewN (All.base HA.out) _ | exact below_drew1 (All.base HA.out))) HC5.out Abu.out).mono ?_); rintro e w80 ⟨rfl, hb⟩; have n_ := Aside0.mk (All.below (by first | exact HA.out | exact All.drewN HA.out _ | exact All.drew HA.out) hb); clear HA; have HA := n_; clear n_ hb))
      go_meet
      case rel => exact ⟨by rw [CN.out]; simp, (by first | exact HA.out | exact All.drewN HA.out _ | exact All.drew HA.out)⟩
    · have cc := CN.out
      rw [show decide (true = false ∨ true = false ∨ i < 0) = decide (i < 0) from decide_eq_decide.mpr ⟨fun h => by rcases h with h | h | h; cases h; cases h; exact h, fun h => Or.inr (Or.inr h)⟩] at cc
      have CD := Aside0.mk cc
      clear cc
      go_wp2_with (first | ((with_reducible refine gate_callee (f := 63) rfl ?_); refine goesL_ (some 10) rfl rfl Try.func63 (by kernel_rfl) rfl #[.agg #[.int .i64 a0, .int .i64 a1, .slice A2 l2.length c2, .slice A3 l3.length c3]] rfl la_ ?_; (refine (impl_IsWritten.calls k _ _ _ _ l2 _ _ l3 true _ (Kd.C_below HR2.out (by first | exact All.base HA.out | exact pw_below_drewN (All.base HA.out) _ | exact below_drew1 (All.base HA.out))) HC2.out (Kd.C_below HR3.out (by first | exact All.base HA.out | exact pw_below_drewN (All.base HA.out) _ | exact below_drew1 (All.base HA.out))) HC3.out Ab.out).mono ?_); rintro e w81 ⟨rfl, hb⟩; refine ⟨_, rfl, ?_⟩; have n_ := Aside0.mk (All.below (by first | exact HA.out | exact All.drewN HA.out _ | exact All.drew HA.out) hb); clear HA; have HA := n_; clear n_ hb; clear cu0 cu1 cu2 cu3; obtain ⟨cu0, cu1, cu2, cu3⟩ := bc4_ HA.out.2.1.1) | (go_at_call 63; (refine (impl_IsWritten.calls k _ _ _ _ m2 _ _ m3 true _ (Kd.C_below HR4.out (by first | exact All.base HA.out | exact pw_below_drewN (All.base HA.out) _ | exact below_drew1 (All.base HA.out))) HC4.out (Kd.C_below HR5.out (by first | exact All.base HA.out | exact pw_below_drewN (All.base HA.out) _ | exact below_drew1 (All.base HA.out))) HC5.out Abu.out).mono ?_); rintro e w82 ⟨rfl, hb⟩; have n_ := Aside0.mk (All.below (by first | exact HA.out | exact All.drewN HA.out _ | exact All.drew HA.out) hb); clear HA; have HA := n_; clear n_ hb))
      go_meet
      case rel => exact ⟨by rw [CD.out], (by first | exact HA.out | exact All.drewN HA.out _ | exact All.drew HA.out)⟩
 case rest =>
 obtain ⟨rfl, hA⟩ := hcut
 clear HA
 have HA := Aside0.mk hA
 clear hA Ab Abu
 by_cases hc : cnd = true
 · have h := H.out
   clear H
   rw [if_pos (of_decide_eq_true (CN.out.symm.trans hc))] at h
   simp only [Option.some.injEq, Prod.mk.injEq] at h
   obtain ⟨rfl, rfl, rfl, rfl, rfl⟩ := h
   subst hc
   clear CN
   obtain ⟨cz0, cz1, cz2, cz3, cz4, cz5, cz6, cz7⟩ := bf4_ HA.out.1.1
   go_wp2
   have nA := All.set4 (l1 := []) HA.out (.int .i64 0) (.int .i64 0) (.slice none 0 0) (.slice none 0 0)
   refine bodyPost_ret (results_ct rfl _ _ g6 40 #[.int .i64 0, .int .i64 0, .slice none 0 0, .slice none 0 0] (0, 0) _ rfl nA.1.1 Try.underlying40 rfl (by kernel_rfl)) rfl ?_
   first | exact ⟨_, _, _, rfl, made_nil, nA.base⟩ | exact ⟨_, _, rfl, ⟨_, made_nil⟩, nA.base⟩
 have h := H.out
 clear H
 rw [if_neg (fun h => hc (CN.out.trans (decide_eq_true h)))] at h
 replace hc := Bool.eq_false_iff.mpr hc
 subst hc
 clear CN
 obtain ⟨⟨t1, t2, t3, t4⟩, As, h⟩ := Option.bind_eq_some_iff.mp h
 obtain ⟨b2, Ab2, h⟩ := Option.bind_eq_some_iff.mp h
 dsimp only at Ab2 h
 replace As := Aside0.mk As
 replace Ab2 := Aside0.mk Ab2
 have H := Aside0.mk h
 clear h
 obtain ⟨ca0, ca1, ca2, ca3⟩ := bc4_ HA.out.2.2.1.1
 obtain ⟨cu0, cu1, cu2, cu3⟩ := bc4_ HA.out.2.1.1
 go_upto_region 4 with (first | ((with_reducible refine gate_callee (f := 73) rfl ?_); refine goesL_ (some 25) rfl rfl Try.func73 (by kernel_rfl) rfl #[.agg #[.int .i64 a0, .int .i64 a1, .slice A2 l2.length c2, .slice A3 l3.length c3], .int .i64 i, .agg #[.int .i64 u0, .int .i64 u1, .slice B2_ m2.length k2, .slice B3_ m3.length k3]] rfl la_ ?_; (refine (impl_substituted.calls k _ _ _ _ l2 _ _ l3 i _ _ _ _ m2 _ _ m3 t1 t2 t3 t4 _ (Kd.C_below HR2.out (by first | exact All.base HA.out | exact pw_below_drewN (All.base HA.out) _ | exact below_drew1 (All.base HA.out))) HC2.out (Kd.C_below HR3.out (by first | exact All.base HA.out | exact pw_below_drewN (All.base HA.out) _ | exact below_drew1 (All.base HA.out))) HC3.out (Kd.C_below HR4.out (by first | exact All.base HA.out | exact pw_below_drewN (All.base HA.out) _ | exact below_drew1 (All.base HA.out))) HC4.out (Kd.C_below HR5.out (by first | exact All.base HA.out | exact pw_below_drewN (All.base HA.out) _ | exact below_drew1 (All.base HA.out))) HC5.out As.out).mono ?_); rintro e w83 ⟨v2, v3, f, rfl, hr, hb⟩; refine ⟨_, rfl, ?_⟩; obtain ⟨B2, e2, rfl⟩ := Kd.R_slice hr.1; obtain ⟨B3, e3, rfl⟩ := Kd.S_slice hr.2; have n_ := Aside0.mk (All.pushMade (by first | exact HA.out | exact All.drewN HA.out _ | exact All.drew HA.out) hb hr); clear HA; have HA := n_; clear n_ hb hr) | ((with_reducible refine gate_dst (N := 8) rfl ?_); (try (refine gate_guard (by rfl) ?_; dsimp only)); refine box_event ?hg (N := 8) ?hd (cs := #[.int .i64 0, .int .i64 0, .slice none 0 0, .slice none 0 0]) (t := 40) ?hr ?_; (case hd => rfl); (case hg => rfl); (case hr => first | (go_simp; done) | (go_simp; rfl)); intro gy hg w84 hbox hb; have n_ := Aside0.mk (All.box (by first | exact HA.out | exact All.drewN HA.out _ | exact All.drew HA.out) hg hbox hb); clear HA; have HA := n_; clear n_ hg hbox hb; obtain ⟨cb0, cb1, cb2, cb3, cb4, cb5, cb6, cb7⟩ := bf4_ HA.out.1.1))
 refine gen_wp (All w _) (All.set4 (l1 := []) HA.out (.int .i64 t1) (.int .i64 t2) (.slice B2 t3.length e2) (.slice B3 t4.length e3)) ?_
 clear HA
 intro w85 hA
 have HA := Aside0.mk hA
 clear hA
 clear ca0 ca1 ca2 ca3 cu0 cu1 cu2 cu3 cb0 cb1 cb2 cb3 cb4 cb5 cb6 cb7
 obtain ⟨ca0, ca1, ca2, ca3⟩ := bc4_ HA.out.1.1
 have rd_ := made_reads HA.out.2.1.1
 go_upto_if 28 with (first | ((with_reducible refine gate_callee (f := 63) rfl ?_); refine goesL_ (some 27) rfl rfl Try.func63 (by kernel_rfl) rfl #[.agg #[.int .i64 t1, .int .i64 t2, .slice B2 t3.length e2, .slice B3 t4.length e3]] rfl la_ ?_; (refine (impl_IsWritten.calls k t1 t2 _ _ t3 _ _ t4 b2 _ rd_.1.1 rd_.1.2 rd_.2.1 rd_.2.2 Ab2.out).mono ?_); rintro e w86 ⟨rfl, hb⟩; refine ⟨_, rfl, ?_⟩; have n_ := Aside0.mk (All.below (by first | exact HA.out | exact All.drewN HA.out _ | exact All.drew HA.out) hb); clear HA; have HA := n_; clear n_ hb))
 clear rd_
 clear ca0 ca1 ca2 ca3
 by_cases hb2 : b2 = true
 · subst hb2
   have h := H.out
   clear H
   rw [if_neg (by decide)] at h
   simp only [Option.some.injEq, Prod.mk.injEq] at h
   obtain ⟨rfl, rfl, rfl, rfl, rfl⟩ := h
   obtain ⟨ca0, ca1, ca2, ca3⟩ := bc4_ HA.out.1.1
   obtain ⟨cz0, cz1, cz2, cz3, cz4, cz5, cz6, cz7⟩ := bf4_ HA.out.2.2.1.1
   go_wp2
   have nA := All.set4 (l1 := [_, _]) HA.out (.int .i64 t1) (.int .i64 t2) (.slice B2 t3.length e2) (.slice B3 t4.length e3)
   refine bodyPost_ret (results_ct rfl _ _ g6 40 #[.int .i64 t1, .int .i64 t2, .slice B2 t3.length e2, .slice B3 t4.length e3] (0, 0) _ rfl nA.2.2.1.1 Try.underlying40 rfl (by kernel_rfl)) rfl ?_
   first | exact ⟨_, _, f, rfl, made_Made nA.2.1.1, nA.base⟩ | exact ⟨_, _, rfl, ⟨f, made_Made nA.2.1.1⟩, nA.base⟩
 · replace hb2 := Bool.eq_false_iff.mpr hb2
   subst hb2
   have h := H.out
   clear H
   rw [if_pos rfl] at h
   simp only [Option.some.injEq, Prod.mk.injEq] at h
   obtain ⟨rfl, rfl, rfl, rfl, rfl⟩ := h
   obtain ⟨cz0, cz1, cz2, cz3, cz4, cz5, cz6, cz7⟩ := bf4_ HA.out.2.2.1.1
   go_wp2
   have nA := All.set4 (l1 := [_, _]) HA.out (.int .i64 0) (.int .i64 0) (.slice none 0 0) (.slice none 0 0)
   refine bodyPost_ret (results_ct rfl _ _ g6 40 #[.int .i64 0, .int .i64 0, .slice none 0 0, .slice none 0 0] (0, 0) _ rfl nA.2.2.1.1 Try.underlying40 rfl (by kernel_rfl)) rfl ?_
   first | exact ⟨_, _, _, rfl, made_nil, nA.base⟩ | exact ⟨_, _, rfl, ⟨_, made_nil⟩, nA.base⟩
end Go.Proofs.Ytipfkicndjddgaa.P
