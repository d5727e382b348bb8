-- by hand: spec.l2Shift, spec.ShiftTerm
import Derived.Test.YtipfkicndjddgaaK7
import Derived.Test.YtipfkicndjddgaaM3
import Derived.Test.YtipfkicndjddgaaM6
import Derived.Test.YtipfkicndjddgaaM1
import Derived.Test.YtipfkicndjddgaaM10
namespace Go.Proofs.Ytipfkicndjddgaa.P
open Go.RowKit Go.Proofs.YtipfkicndjddgaaW.PrintWords Go.Proofs.YtipfkicndjddgaaW.PrintLast Go.Proofs.YtipfkicndjddgaaW.PrintMore
attribute [local go_sem] max2_int min2_int max_two min_two max_three min_three max_four min_four
set_option linter.unusedVariables false
set_option linter.unusedSimpArgs false
mutual
def spec_l2Shift.l0 : Nat → Int → List S40 → Int → Int → List S40 → Int → Option (List S40)
  | 0, _, _, _, _, _, _ => none
  | k + 1, a0, l3, by_, from_, acc, i => if i < (l3.length : Int) then (if 0 ≤ i then (if acc.length < 2199023255552 then ((spec_l2Adds.f k a0 i).bind fun dd => (spec_l2Shift.f k (rd_T40 l3 i).f0 (rd_T40 l3 i).f1 (rd_T40 l3 i).f2 (rd_T40 l3 i).f3 by_ (wrap64 (from_ + dd))).bind fun q => spec_l2Shift.l0 k a0 l3 by_ from_ (acc ++ [⟨q.1, q.2.1, q.2.2.1, q.2.2.2⟩]) (wrap64 (i + 1))) else none) else none) else some acc
def spec_l2Shift.f : Nat → Int → Int → List Int → List S40 → Int → Int → Option (Int × Int × List Int × List S40)
  | 0, _, _, _, _, _, _ => none
  | k + 1, a0, a1, l2, l3, by_, from_ => (spec_l1Copy.f l2).bind fun t => (spec_l2Shift.l0 k a0 l3 by_ from_ [] 0).bind fun r => some (a0, (if a0 = 0 ∧ a1 ≥ from_ then wrap64 (a1 + by_) else a1), t, r)
end
def spec_l2Shift.T1 : Bool × List (List Nat × List Nat) := (true, [([], []), ([0], [0]), ([], []), ([2], [2]), ([], []), ([4], [4]), ([5], [5]), ([1, 3, 6], [1, 3, 6]), ([], []), ([8, 7, 6, 0, 1, 2, 3, 4, 5, 6, 7, 8], [7, 8])])
def spec_l2Shift.B1 : List Nat := [0, 1, 0, 4, 0, 16, 48, 127, 0, 511]
theorem spec_l2Shift.tab1 : rtab .any (opsOf Try.f68 1) = spec_l2Shift.T1 := by kernel_rfl
theorem spec_l2Shift.bits1 : waitsOk spec_l2Shift.T1.2 spec_l2Shift.B1 = true := by kernel_rfl
def spec_l2Shift.T7 : Bool × List (List Nat × List Nat) := (true, [([], []), ([0], [0]), ([], []), ([2], [2]), ([], []), ([3, 4], [3, 4]), ([5], [5]), ([], []), ([], []), ([], []), ([9], [9]), ([], []), ([10, 11], [10, 11]), ([8, 12], [8, 12]), ([6, 7, 13, 12], [6, 7, 13]), ([14], [14]), ([1, 15, 14], [1, 15]), ([0, 1, 2, 3, 4, 5, 6, 7, 8, 9, 10, 11, 12, 13, 14, 15, 16], []), ([17, 16, 16, 0, 1, 2, 3, 4, 5, 6, 7, 8, 9, 10, 11, 12, 13, 14, 15, 16], [16, 17])])
def spec_l2Shift.B7 : List Nat := [0, 1, 0, 4, 0, 28, 60, 0, 0, 0, 512, 0, 3584, 7936, 16380, 32764, 65535, 131071, 262143]
theorem spec_l2Shift.tab7 : rtab .any (opsOf Try.f68 7) = spec_l2Shift.T7 := by kernel_rfl
theorem spec_l2Shift.bits7 : waitsOk spec_l2Shift.T7.2 spec_l2Shift.B7 = true := by kernel_rfl
def L2ST (k : Nat) : Prop := ∀ (a0 a1 : Int) (A2 : Option Addr) (c2 : Nat) (l2 : List Int) (A3 : Option Addr) (c3 : Nat) (l3 : List S40) (by_ from_ : Int) (r1 r2 : Int) (r3 : List Int) (r4 : List S40) (w : World) (hr2 : Kd.C (Kd.int .i64) w A2 l2.length l2) (hc2 : l2.length ≤ c2) (hr3 : Kd.C k40 w A3 l3.length l3) (hc3 : l3.length ≤ c3) (h : spec_l2Shift.f k a0 a1 l2 l3 by_ from_ = some (r1, r2, r3, r4)),
  Calls Try.prog 68 #[.agg #[.int .i64 a0, .int .i64 a1, .slice A2 l2.length c2, .slice A3 l3.length c3], .int .i64 by_, .int .i64 from_] w fun e w' => ∃ (v2 v3 : Value) (f : Nat → Bool), e = .returned (.agg #[.int .i64 r1, .int .i64 r2, v2, v3]) ∧ Made w' w.heap.size f v2 v3 r3 r4 ∧ Below w.heap.size w w'
set_option maxHeartbeats 8000000 in
set_option maxRecDepth 100000 in
theorem l2ShiftT (k : Nat) : L2ST k := by
 induction k using Nat.strongRecOn with
 | _ k ih =>
 intro a0 a1 A2 c2 l2 A3 c3 l3 by_ from_ r1 r2 r3 r4 w hr2 hc2 hr3 hc3 h
 cases k with
 | zero => exact absurd h (by simp [spec_l2Shift.f])
 | succ k =>
 simp only [spec_l2Shift.f] at h
 obtain ⟨t, At, h⟩ := Option.bind_eq_some_iff.mp h
 obtain ⟨res, Al, h⟩ := Option.bind_eq_some_iff.mp h
 obtain ⟨n, hn⟩ : ∃ n, (if a0 = 0 ∧ a1 ≥ from_ then wrap64 (a1 + by_) else a1) = n := ⟨_, rfl⟩
 rw [hn] at h
 simp only [Option.some.injEq, Prod.mk.injEq] at h
 obtain ⟨rfl, rfl, rfl, rfl⟩ := h
 have hu40 := Try.underlying40
 have HR2 := Aside0.mk hr2
 have HC2 := Aside0.mk hc2
 clear hr2 hc2
 have HR3 := Aside0.mk hr3
 have HC3 := Aside0.mk hc3
 clear hr3 hc3
 replace At := Aside0.mk At
 replace Al := Aside0.mk Al
 replace hn := Aside0.mk hn
 have HA := Aside0.mk (show All w [] w from Below.refl w.heap.size w)
 go_enter Try.func68, Try.ntmps68
 go_upto_region 1 with (first | ((with_reducible refine gate_dst (N := 3) rfl ?_); (try (refine gate_guard (by rfl) ?_; dsimp only)); refine box_event ?hg (N := 3) ?hd (cs := #[.int .i64 a0, .int .i64 a1, .slice A2 l2.length c2, .slice A3 l3.length c3]) (t := 40) ?hr ?_; (case hd => rfl); (case hg => rfl); (case hr => first | (go_simp; done) | (go_simp; rfl)); intro g1 hg w51 hbox hb; have n_ := Aside0.mk (All.box (by first | exact HA.out | exact All.drewN HA.out _ | exact All.drew HA.out) hg hbox hb); clear HA; have HA := n_; clear n_ hg hbox hb) | ((with_reducible refine gate_dst (N := 6) rfl ?_); (try (refine gate_guard (by rfl) ?_; dsimp only)); refine box_event ?hg (N := 6) ?hd (cs := #[.int .i64 0, .int .i64 0, .slice none 0 0, .slice none 0 0]) (t := 40) ?hr ?_; (case hd => rfl); (case hg => rfl); (case hr => first | (go_simp; done) | (go_simp; rfl)); intro g2 hg w52 hbox hb; have n_ := Aside0.mk (All.box (by first | exact HA.out | exact All.drewN HA.out _ | exact All.drew HA.out) hg hbox hb); clear HA; have HA := n_; clear n_ hg hbox hb))
 replace HA := Aside0.mk (All.drew HA.out)
 refine start_ (n := 10) (S := (fun w' => w'.heap[g1]? = some (.cells #[.int .i64 a0, .int .i64 a1, .slice A2 l2.length c2, .slice A3 l3.length c3] 40 (0, 0)))) (ds := []) #[false, false, false, false, false, false, false, false, false, false] (by kernel_rfl) rfl rfl HA.out.2.1.1 (fun hHeld => ?_); refine with_tabW spec_l2Shift.tab1 spec_l2Shift.bits1 (fun HT_ HW_ => ?_)
 generalize w52.drew = w53 at HA hHeld ⊢
 refine pure_ (i := 0) (N := some 9) (v := ?_) (a' := ?_) #[true, false, false, false, false, false, false, false, false, false] rfl rfl (any_of HT_.out (by kernel_rfl)) (fun _ _ _ h => h) (Or.inl ⟨by rfl, ?_⟩) ?_ ?_
 rotate_left
 · intro w'
   go_simp
   with_reducible rfl
 rotate_left
 · simp only [Act.put, List.setIfInBounds_toArray, List.set_cons_zero, List.set_cons_succ, i64_w, i32_w]
   rfl
 refine take_ (i := 1) (N := some 10) (v := ?_) (a' := ?_) #[true, true, false, false, false, false, false, false, false, false] rfl rfl (take_ofW HT_.out HW_.out (by kernel_rfl)) (fun _ _ _ h => h) (Or.inl ⟨by rfl, ?_⟩) hHeld ?_ ?_
 rotate_left
 · rintro w' s0
   obtain ⟨q00, q01, q02, q03⟩ := bc4_ s0
   go_simp
   with_reducible rfl
 rotate_left
 · simp only [Act.put, List.setIfInBounds_toArray, List.set_cons_zero, List.set_cons_succ, i64_w, i32_w]
   rfl
 refine pure_ (i := 2) (N := some 11) (v := ?_) (a' := ?_) #[true, true, true, false, false, false, false, false, false, false] rfl rfl (any_of HT_.out (by kernel_rfl)) (fun _ _ _ h => h) (Or.inl ⟨by rfl, ?_⟩) ?_ ?_
 rotate_left
 · intro w'
   go_simp
   with_reducible rfl
 rotate_left
 · simp only [Act.put, List.setIfInBounds_toArray, List.set_cons_zero, List.set_cons_succ, i64_w, i32_w]
   rfl
 refine take_ (i := 3) (N := some 12) (v := ?_) (a' := ?_) #[true, true, true, true, false, false, false, false, false, false] rfl rfl (take_ofW HT_.out HW_.out (by kernel_rfl)) (fun _ _ _ h => h) (Or.inl ⟨by rfl, ?_⟩) hHeld ?_ ?_
 rotate_left
 · rintro w' s0
   obtain ⟨q00, q01, q02, q03⟩ := bc4_ s0
   go_simp
   with_reducible rfl
 rotate_left
 · simp only [Act.put, List.setIfInBounds_toArray, List.set_cons_zero, List.set_cons_succ, i64_w, i32_w]
   rfl
 refine pure_ (i := 4) (N := some 13) (v := ?_) (a' := ?_) #[true, true, true, true, true, false, false, false, false, false] rfl rfl (any_of HT_.out (by kernel_rfl)) (fun _ _ _ h => h) (Or.inl ⟨by rfl, ?_⟩) ?_ ?_
 rotate_left
 · intro w'
   go_simp
   with_reducible rfl
 rotate_left
 · simp only [Act.put, List.setIfInBounds_toArray, List.set_cons_zero, List.set_cons_succ, i64_w, i32_w]
   rfl
 refine take_ (i := 5) (N := some 14) (v := ?_) (a' := ?_) #[true, true, true, true, true, true, false, false, false, false] rfl rfl (take_ofW HT_.out HW_.out (by kernel_rfl)) (fun _ _ _ h => h) (Or.inl ⟨by rfl, ?_⟩) hHeld ?_ ?_
 rotate_left
 · rintro w' s0
   obtain ⟨q00, q01, q02, q03⟩ := bc4_ s0
   go_simp
   with_reducible rfl
 rotate_left
 · simp only [Act.put, List.setIfInBounds_toArray, List.set_cons_zero, List.set_cons_succ, i64_w, i32_w]
   rfl
 refine join_ (σ := Rx × Nat) 1 #[true, true, true, true, true, true, true, true, true, false] (fun s_ => [(15, .slice s_.1.A s_.1.n s_.1.c), (7, .pointer (some ⟨s_.2, 0, none⟩)), (16, .agg #[.int .i64 a0, .int .i64 a1, .slice s_.1.A s_.1.n s_.1.c, .slice none 0 0])]) (fun s_ w' => (fun w' => w'.heap[g1]? = some (.cells #[.int .i64 a0, .int .i64 a1, .slice A2 l2.length c2, .slice A3 l3.length c3] 40 (0, 0))) w' ∧ All w [Ob.rw w.heap.size s_.1 t, Ob.box s_.2 #[.int .i64 0, .int .i64 0, .slice none 0 0, .slice none 0 0] 40, Ob.box g2 #[.int .i64 0, .int .i64 0, .slice none 0 0, .slice none 0 0] 40, Ob.box g1 #[.int .i64 a0, .int .i64 a1, .slice A2 l2.length c2, .slice A3 l3.length c3] 40] w') ?_ ?_
 rotate_left
 · intro hCont
   refine two_ (i := 6) (j := 8) (Ni := some 15) (Nj := some 7) #[true, true, true, true, true, true, true, false, false, false] #[true, true, true, true, true, true, false, false, true, false] rfl rfl rfl rfl (two_of HT_.out (by kernel_rfl)) (by decide) (by decide) (fun K hK => ?_) (fun K hK => ?_)
   · skip
     refine goes_ Try.func92 (by kernel_rfl) rfl #[.slice A2 l2.length c2] (by rfl) rfl rfl la_ ?_
     refine (spec_l1Copy.calls _ _ l2 t _ (Kd.C_below HR2.out (by first | exact All.base HA.out | exact pw_below_drewN (All.base HA.out) _ | exact below_drew1 (All.base HA.out))) HC2.out At.out).mono ?_
     rintro e w54 ⟨v0, rfl, hr, hb⟩
     refine ⟨_, rfl, ?_⟩
     obtain ⟨xt, rfl, hp⟩ := row_new (B := w.heap.size) (below_size (by first | exact All.base HA.out | exact pw_below_drewN (All.base HA.out) _ | exact below_drew1 (All.base HA.out))) hb.size hr
     have n_ := Aside0.mk (All.push (by first | exact HA.out | exact All.drewN HA.out _ | exact All.drew HA.out) hb (Ob.rw w.heap.size xt t) hp.1 hp.2.1 hp.2.2)
     clear HA
     have HA := n_
     clear n_ hp hb
     refine hK.out _ _ HA.out.2.2.1.1 (fun hHeld => ?_)
     clear hK K
     refine norm_ (a' := ?_) ?_ ?_
     rotate_left
     · show Act.put _ (some 15) _ = _
       simp only [Act.put, List.setIfInBounds_toArray, List.set_cons_zero, List.set_cons_succ, i64_w, i32_w]
       rfl
     refine pure_ (i := 7) (N := some 16) (v := ?_) (a' := ?_) #[true, true, true, true, true, true, true, true, false, false] rfl rfl (any_of HT_.out (by kernel_rfl)) (fun _ _ _ h => h) (Or.inl ⟨by rfl, ?_⟩) ?_ ?_
     rotate_left
     · intro w'
       go_simp
       with_reducible rfl
     rotate_left
     · simp only [Act.put, List.setIfInBounds_toArray, List.set_cons_zero, List.set_cons_succ, i64_w, i32_w]
       rfl
     refine one_ (i := 8) (N := some 7) #[true, true, true, true, true, true, true, true, true, false] rfl rfl (one_of HT_.out (by kernel_rfl)) (by decide) (fun K hK => ?_)
     refine box_step ?hg (N := 7) ?hd (cs := #[.int .i64 0, .int .i64 0, .slice none 0 0, .slice none 0 0]) (t := 40) ?hr ?_; (case hd => rfl); (case hg => rfl); (case hr => first | (go_simp; done) | (go_simp; rfl))
     intro gb hg w55 hbox hb
     have n_ := Aside0.mk (All.box (by first | exact HA.out | exact All.drewN HA.out _ | exact All.drew HA.out) hg hbox hb)
     clear HA
     have HA := n_
     clear n_ hg hbox hb
     refine hK.out _ _ HA.out.2.2.2.1.1 (fun hHeld => ?_)
     clear hK K
     refine norm_ (a' := ?_) ?_ ?_
     rotate_left
     · show Act.put _ (some 7) _ = _
       simp only [Act.put, List.setIfInBounds_toArray, List.set_cons_zero, List.set_cons_succ, i64_w, i32_w]
       rfl
     exact norm_ (by simp only [putAll, Act.put, List.setIfInBounds_toArray, List.set_cons_zero, List.set_cons_succ]) (hCont (xt, gb) _ ⟨hHeld, (All.swap HA.out)⟩)
   refine box_step ?hg (N := 7) ?hd (cs := #[.int .i64 0, .int .i64 0, .slice none 0 0, .slice none 0 0]) (t := 40) ?hr ?_; (case hd => rfl); (case hg => rfl); (case hr => first | (go_simp; done) | (go_simp; rfl))
   intro gb hg w56 hbox hb
   have n_ := Aside0.mk (All.box (by first | exact HA.out | exact All.drewN HA.out _ | exact All.drew HA.out) hg hbox hb)
   clear HA
   have HA := n_
   clear n_ hg hbox hb
   refine hK.out _ _ HA.out.2.2.1.1 (fun hHeld => ?_)
   clear hK K
   refine norm_ (a' := ?_) ?_ ?_
   rotate_left
   · show Act.put _ (some 7) _ = _
     simp only [Act.put, List.setIfInBounds_toArray, List.set_cons_zero, List.set_cons_succ, i64_w, i32_w]
     rfl
   refine one_ (i := 6) (N := some 15) #[true, true, true, true, true, true, true, false, true, false] rfl rfl (one_of HT_.out (by kernel_rfl)) (by decide) (fun K hK => ?_)
   refine goes_ Try.func92 (by kernel_rfl) rfl #[.slice A2 l2.length c2] (by rfl) rfl rfl la_ ?_
   refine (spec_l1Copy.calls _ _ l2 t _ (Kd.C_below HR2.out (by first | exact All.base HA.out | exact pw_below_drewN (All.base HA.out) _ | exact below_drew1 (All.base HA.out))) HC2.out At.out).mono ?_
   rintro e w57 ⟨v0, rfl, hr, hb⟩
   refine ⟨_, rfl, ?_⟩
   obtain ⟨xt, rfl, hp⟩ := row_new (B := w.heap.size) (below_size (by first | exact All.base HA.out | exact pw_below_drewN (All.base HA.out) _ | exact below_drew1 (All.base HA.out))) hb.size hr
   have n_ := Aside0.mk (All.push (by first | exact HA.out | exact All.drewN HA.out _ | exact All.drew HA.out) hb (Ob.rw w.heap.size xt t) hp.1 hp.2.1 hp.2.2)
   clear HA
   have HA := n_
   clear n_ hp hb
   refine hK.out _ _ HA.out.2.2.2.1.1 (fun hHeld => ?_)
   clear hK K
   refine norm_ (a' := ?_) ?_ ?_
   rotate_left
   · show Act.put _ (some 15) _ = _
     simp only [Act.put, List.setIfInBounds_toArray, List.set_cons_zero, List.set_cons_succ, i64_w, i32_w]
     rfl
   refine pure_ (i := 7) (N := some 16) (v := ?_) (a' := ?_) #[true, true, true, true, true, true, true, true, true, false] rfl rfl (any_of HT_.out (by kernel_rfl)) (fun _ _ _ h => h) (Or.inl ⟨by rfl, ?_⟩) ?_ ?_
   rotate_left
   · intro w'
     go_simp
     with_reducible rfl
   rotate_left
   · simp only [Act.put, List.setIfInBounds_toArray, List.set_cons_zero, List.set_cons_succ, i64_w, i32_w]
     rfl
   exact norm_ (by simp only [putAll, Act.put, List.setIfInBounds_toArray, List.set_cons_zero, List.set_cons_succ]) (hCont (xt, gb) _ ⟨hHeld, HA.out⟩)
 rintro ⟨xt, g3⟩ w58 ⟨hHeld, hA⟩
 dsimp only at hHeld hA ⊢
 clear HA
 have HA := Aside0.mk hA
 clear hA
 refine norm_ (a' := ?_) ?_ ?_
 rotate_left
 · simp only [putAll, Act.put, List.setIfInBounds_toArray, List.set_cons_zero, List.set_cons_succ]
   rfl
 refine one_ (i := 9) (N := none) #[true, true, true, true, true, true, true, true, true, true] rfl rfl (one_of HT_.out (by kernel_rfl)) (by decide) (fun K hK => ?_)
 obtain ⟨cz0, cz1, cz2, cz3, cz4, cz5, cz6, cz7⟩ := bf4_ HA.out.2.1.1
 have nA := All.set4 (l1 := [_]) HA.out (.int .i64 a0) (.int .i64 a1) (.slice xt.A xt.n xt.c) (.slice none 0 0)
 refine skip_ (w1 := ?_) (by rfl) rfl ?_ ?_
 rotate_left
 · go_simp
   rfl
 refine hK.out _ _ nA.2.2.2.1.1 (fun hHeld => ?_)
 clear hK K
 refine gen_any (All w _) nA ?_
 clear HA nA hHeld cz0 cz1 cz2 cz3 cz4 cz5 cz6 cz7
 intro w59 hA
 have HA := Aside0.mk hA
 clear hA
 refine done_ (done_of HT_.out (by kernel_rfl)) ?_
 obtain ⟨cnd, hcnd⟩ : ∃ c, c = (decide (a0 = 0) && decide (a1 ≥ from_)) := ⟨_, rfl⟩
 have CN := Aside0.mk hcnd
 clear hcnd
 go_upto_region 2 with (fail)
 go_cut [25] (fun v25 wc => v25 = .bool cnd ∧ All w [Ob.rw w.heap.size xt t, Ob.box g3 #[.int .i64 a0, .int .i64 a1, .slice xt.A xt.n xt.c, .slice none 0 0] 40, Ob.box g2 #[.int .i64 0, .int .i64 0, .slice none 0 0, .slice none 0 0] 40, Ob.box g1 #[.int .i64 a0, .int .i64 a1, .slice A2 l2.length c2, .slice A3 l3.length c3] 40] wc)
 case first =>
  obtain ⟨ca0, ca1, ca2, ca3⟩ := bc4_ HA.out.2.2.2.1.1
  by_cases c0 : a0 = 0
  · have c0b : (a0 == 0) = true := beq_iff_eq.mpr c0
    have cc := CN.out
    rw [decide_eq_true c0, Bool.true_and] at cc
    have CD := Aside0.mk cc
    clear cc c0
    go_wp2
    go_meet
    case rel => exact ⟨by rw [CD.out], (by first | exact HA.out | exact All.drewN HA.out _ | exact All.drew HA.out)⟩
  · have c0b : (a0 == 0) = false := beq_eq_false_iff_ne.mpr c0
    have cc := CN.out
    rw [decide_eq_false c0, Bool.false_and] at cc
    have CD := Aside0.mk cc
    clear cc c0
    go_wp2
    go_meet
    case rel => exact ⟨by rw [CD.out], (by first | exact HA.out | exact All.drewN HA.out _ | exact All.drew HA.out)⟩
 case rest =>
 obtain ⟨rfl, hA⟩ := hcut
 clear HA
 have HA := Aside0.mk hA
 clear hA
 go_upto_if 25 with (fail)
 go_cut [] (fun wc => All w [Ob.rw w.heap.size xt t, Ob.box g3 #[.int .i64 a0, .int .i64 n, .slice xt.A xt.n xt.c, .slice none 0 0] 40, Ob.box g2 #[.int .i64 0, .int .i64 0, .slice none 0 0, .slice none 0 0] 40, Ob.box g1 #[.int .i64 a0, .int .i64 a1, .slice A2 l2.length c2, .slice A3 l3.length c3] 40] wc)
 case first =>
  by_cases hc : cnd = true
  · have hg := Bool.and_eq_true _ _ ▸ (CN.out.symm.trans hc)
    have e := hn.out
    rw [if_pos ⟨of_decide_eq_true hg.1, of_decide_eq_true hg.2⟩] at e
    subst hc e
    clear hg hn CN
    obtain ⟨ca0, ca1, ca2, ca3⟩ := bc4_ HA.out.2.2.2.1.1
    obtain ⟨cf0, cf1, cf2, cf3, cf4, cf5, cf6, cf7⟩ := bf4_ HA.out.2.1.1
    go_wp2
    go_meet
    case rel => exact All.put (l1 := [_]) (by first | exact HA.out | exact All.drewN HA.out _ | exact All.drew HA.out) 1 (.int .i64 (wrap64 (a1 + by_))) rfl
  · have e := hn.out
    rw [if_neg (fun h => hc (by rw [CN.out, decide_eq_true h.1, decide_eq_true h.2]; rfl))] at e
    replace hc := Bool.eq_false_iff.mpr hc
    subst hc e
    clear hn CN
    go_wp2
    go_meet
    case rel => exact (by first | exact HA.out | exact All.drewN HA.out _ | exact All.drew HA.out)
 case rest =>
 clear HA
 have HA := Aside0.mk hcut
 clear hcut hn CN cnd
 have HN := Aside0.mk (show ∀ x ∈ ([Ob.rw w.heap.size xt t, Ob.box g3 #[.int .i64 a0, .int .i64 n, .slice xt.A xt.n xt.c, .slice none 0 0] 40, Ob.box g2 #[.int .i64 0, .int .i64 0, .slice none 0 0, .slice none 0 0] 40, Ob.box g1 #[.int .i64 a0, .int .i64 a1, .slice A2 l2.length c2, .slice A3 l3.length c3] 40] : List Ob).map Ob.hi, x ≤ wc.heap.size from All.tops HA.out)
 have HW := Aside0.mk (show w.heap.size ≤ wc.heap.size from HA.out.base.size)
 obtain ⟨cc0, cc1, cc2, cc3⟩ := bc4_ HA.out.2.2.2.1.1
 go_wp2
 go_loopg [8] k (fun kq v W => ∃ (acc : List S40) (i : Int) (BK : Option Addr) (cK N1 : Nat), v = .int .i64 i ∧ Aside0 (spec_l2Shift.l0 kq a0 l3 by_ from_ acc i = some res) ∧ Aside0 (kq ≤ k) ∧ Aside0 (wc.heap.size ≤ N1) ∧ Aside0 (All w [Ob.kids w.heap.size wc.heap.size N1 (.slice BK acc.length cK) acc, Ob.rw w.heap.size xt t, Ob.box g3 #[.int .i64 a0, .int .i64 n, .slice xt.A xt.n xt.c, .slice BK acc.length cK] 40, Ob.box g2 #[.int .i64 0, .int .i64 0, .slice none 0 0, .slice none 0 0] 40, Ob.box g1 #[.int .i64 a0, .int .i64 a1, .slice A2 l2.length c2, .slice A3 l3.length c3] 40] W))
 case atStart => exact ⟨[], 0, none, 0, _, rfl, Al, ⟨Nat.le_refl _⟩, ⟨Nat.le_refl _⟩, ⟨All.pushNilKids HA.out⟩⟩
 case round =>
  clear Al HA cc0 cc1 cc2 cc3
  obtain ⟨acc, i, BK, cK, N1, rfl, HL, HK1, HN1, HA⟩ := hrel
  cases gk with
  | zero => exact absurd HL.out (by simp [spec_l2Shift.l0])
  | succ k1 =>
  have H := HL.out
  clear HL
  simp only [spec_l2Shift.l0] at H
  by_cases c6 : i < (l3.length : Int)
  · rw [if_pos c6] at H
    have c6b : decide (i < (l3.length : Int)) = true := decide_eq_true c6
    by_cases c7 : ¬ (0 ≤ i)
    · rw [if_neg c7] at H; exact absurd H (by simp)
    replace c7 := Decidable.not_not.mp c7
    rw [if_pos c7] at H
    have c7b : decide (0 ≤ i) = true := decide_eq_true c7
    by_cases c8 : ¬ (acc.length < 2199023255552)
    · rw [if_neg c8] at H; exact absurd H (by simp)
    replace c8 := Decidable.not_not.mp c8
    rw [if_pos c8] at H
    obtain ⟨dd, Ad, H⟩ := Option.bind_eq_some_iff.mp H
    replace Ad := Aside0.mk Ad
    obtain ⟨⟨t1, t2, t3, t4⟩, A8, H⟩ := Option.bind_eq_some_iff.mp H
    dsimp only at H
    have LA := Aside0.mk c8
    replace A8 := Aside0.mk A8
    replace H := Aside0.mk H
    obtain ⟨ad, X2, d2, X3, d3, e1, hx0, hx1, hx2, hx3, hl2, hi2, hl3, hi3⟩ := at_T40 HR3.out i c7 c6
    cases e1
    have HS2 := Aside0.mk hi2
    have HD2 := Aside0.mk hl2
    have HS3 := Aside0.mk hi3
    have HD3 := Aside0.mk hl3
    have p_ := eq_true c7
    have q_ := eq_true c6
    clear hi2 hl2 hi3 hl3 c6 c7 c8
    obtain ⟨cc0, cc1, cc2, cc3⟩ := bc4_ HA.out.2.2.2.2.1.1
    go_upto_region 7 with (fail)
    clear cc0 cc1 cc2 cc3
    replace hx0 := Aside0.mk hx0
    replace hx1 := Aside0.mk hx1
    replace hx2 := Aside0.mk hx2
    replace hx3 := Aside0.mk hx3
    replace HA := Aside0.mk (All.drew HA.out)
    refine start_ (n := 19) (S := (fun w' => w'.heap[g3]? = some (.cells #[.int .i64 a0, .int .i64 n, .slice xt.A xt.n xt.c, .slice BK acc.length cK] 40 (0, 0)) ∧ w'.heap[g1]? = some (.cells #[.int .i64 a0, .int .i64 a1, .slice A2 l2.length c2, .slice (some ad) l3.length c3] 40 (0, 0)) ∧ w'.cell? (ad.add (i.toNat * 4)) = some (.int .i64 (rd_T40 l3 i).f0) ∧ w'.cell? ⟨(ad.add (i.toNat * 4)).block, (ad.add (i.toNat * 4)).off + 1, none⟩ = some (.int .i64 (rd_T40 l3 i).f1) ∧ w'.cell? ⟨(ad.add (i.toNat * 4)).block, (ad.add (i.toNat * 4)).off + 2, none⟩ = some (.slice X2 (rd_T40 l3 i).f2.length d2) ∧ w'.cell? ⟨(ad.add (i.toNat * 4)).block, (ad.add (i.toNat * 4)).off + 3, none⟩ = some (.slice X3 (rd_T40 l3 i).f3.length d3))) (ds := [18]) #[false, false, false, false, false, false, false, false, false, false, false, false, false, false, false, false, false, false, false] (by kernel_rfl) rfl rfl ⟨HA.out.2.2.1.1, HA.out.2.2.2.2.1.1, ((HA.out.base.cell (World.block_lt_of_cell? w _ hx0.out)).trans hx0.out), ((HA.out.base.cell (World.block_lt_of_cell? w _ hx1.out)).trans hx1.out), ((HA.out.base.cell (World.block_lt_of_cell? w _ hx2.out)).trans hx2.out), ((HA.out.base.cell (World.block_lt_of_cell? w _ hx3.out)).trans hx3.out)⟩ (fun hHeld => ?_); refine with_tabW spec_l2Shift.tab7 spec_l2Shift.bits7 (fun HT_ HW_ => ?_)
    generalize wr.drew = w60 at HA hHeld ⊢
    refine pure_ (i := 0) (N := some 38) (v := ?_) (a' := ?_) #[true, false, false, false, false, false, false, false, false, false, false, false, false, false, false, false, false, false, false] rfl rfl (any_of HT_.out (by kernel_rfl)) (fun _ _ _ h => h) (Or.inl ⟨by rfl, ?_⟩) ?_ ?_
    rotate_left
    · intro w'
      go_simp
      with_reducible rfl
    rotate_left
    · simp only [Act.put, List.setIfInBounds_toArray, List.set_cons_zero, List.set_cons_succ, i64_w, i32_w]
      rfl
    refine take_ (i := 1) (N := some 39) (v := ?_) (a' := ?_) #[true, true, false, false, false, false, false, false, false, false, false, false, false, false, false, false, false, false, false] rfl rfl (take_ofW HT_.out HW_.out (by kernel_rfl)) (fun _ _ _ h => h) (Or.inl ⟨by rfl, ?_⟩) hHeld ?_ ?_
    rotate_left
    · rintro w' ⟨s0, s1, s2, s3, s4, s5⟩
      obtain ⟨q00, q01, q02, q03⟩ := bc4_ s0
      obtain ⟨q10, q11, q12, q13⟩ := bc4_ s1
      go_simp
      with_reducible rfl
    rotate_left
    · simp only [Act.put, List.setIfInBounds_toArray, List.set_cons_zero, List.set_cons_succ, i64_w, i32_w]
      rfl
    refine pure_ (i := 2) (N := some 40) (v := ?_) (a' := ?_) #[true, true, true, false, false, false, false, false, false, false, false, false, false, false, false, false, false, false, false] rfl rfl (any_of HT_.out (by kernel_rfl)) (fun _ _ _ h => h) (Or.inl ⟨by rfl, ?_⟩) ?_ ?_
    rotate_left
    · intro w'
      go_simp
      with_reducible rfl
    rotate_left
    · simp only [Act.put, List.setIfInBounds_toArray, List.set_cons_zero, List.set_cons_succ, i64_w, i32_w]
      rfl
    refine take_ (i := 3) (N := some 41) (v := ?_) (a' := ?_) #[true, true, true, true, false, false, false, false, false, false, false, false, false, false, false, false, false, false, false] rfl rfl (take_ofW HT_.out HW_.out (by kernel_rfl)) (fun _ _ _ h => h) (Or.inl ⟨by rfl, ?_⟩) hHeld ?_ ?_
    rotate_left
    · rintro w' ⟨s0, s1, s2, s3, s4, s5⟩
      obtain ⟨q00, q01, q02, q03⟩ := bc4_ s0
      obtain ⟨q10, q11, q12, q13⟩ := bc4_ s1
      go_simp
      with_reducible rfl
    rotate_left
    · simp only [Act.put, List.setIfInBounds_toArray, List.set_cons_zero, List.set_cons_succ, i64_w, i32_w]
      rfl
    refine pure_ (i := 4) (N := some 42) (v := ?_) (a' := ?_) #[true, true, true, true, true, false, false, false, false, false, false, false, false, false, false, false, false, false, false] rfl rfl (any_of HT_.out (by kernel_rfl)) (fun _ _ _ h => h) (Or.inl ⟨by rfl, ?_⟩) ?_ ?_
    rotate_left
    · intro w'
      go_simp
      with_reducible rfl
    rotate_left
    · simp only [Act.put, List.setIfInBounds_toArray, List.set_cons_zero, List.set_cons_succ, i64_w, i32_w]
      rfl
    refine pure_ (i := 5) (N := some 43) (v := ?_) (a' := ?_) #[true, true, true, true, true, true, false, false, false, false, false, false, false, false, false, false, false, false, false] rfl rfl (any_of HT_.out (by kernel_rfl)) (fun _ _ _ h => h) (Or.inl ⟨by rfl, ?_⟩) ?_ ?_
    rotate_left
    · intro w'
      go_simp
      with_reducible rfl
    rotate_left
    · simp only [Act.put, List.setIfInBounds_toArray, List.set_cons_zero, List.set_cons_succ, i64_w, i32_w]
      rfl
    refine take_ (i := 6) (N := some 44) (v := ?_) (a' := ?_) #[true, true, true, true, true, true, true, false, false, false, false, false, false, false, false, false, false, false, false] rfl rfl (take_ofW HT_.out HW_.out (by kernel_rfl)) (fun _ _ _ h => h) (Or.inl ⟨by rfl, ?_⟩) hHeld ?_ ?_
    rotate_left
    · rintro w' ⟨s0, s1, s2, s3, s4, s5⟩
      obtain ⟨q00, q01, q02, q03⟩ := bc4_ s0
      obtain ⟨q10, q11, q12, q13⟩ := bc4_ s1
      go_simp
      with_reducible rfl
    rotate_left
    · simp only [Act.put, List.setIfInBounds_toArray, List.set_cons_zero, List.set_cons_succ, i64_w, i32_w]
      rfl
    refine pure_ (i := 7) (N := some 45) (v := ?_) (a' := ?_) #[true, true, true, true, true, true, true, true, false, false, false, false, false, false, false, false, false, false, false] rfl rfl (any_of HT_.out (by kernel_rfl)) (fun _ _ _ h => h) (Or.inl ⟨by rfl, ?_⟩) ?_ ?_
    rotate_left
    · intro w'
      go_simp
      with_reducible rfl
    rotate_left
    · simp only [Act.put, List.setIfInBounds_toArray, List.set_cons_zero, List.set_cons_succ, i64_w, i32_w]
      rfl
    refine pure_ (i := 8) (N := some 46) (v := ?_) (a' := ?_) #[true, true, true, true, true, true, true, true, true, false, false, false, false, false, false, false, false, false, false] rfl rfl (any_of HT_.out (by kernel_rfl)) (fun _ _ _ h => h) (Or.inl ⟨by rfl, ?_⟩) ?_ ?_
    rotate_left
    · intro w'
      go_simp
      with_reducible rfl
    rotate_left
    · simp only [Act.put, List.setIfInBounds_toArray, List.set_cons_zero, List.set_cons_succ, i64_w, i32_w]
      rfl
    refine pure_ (i := 9) (N := some 47) (v := ?_) (a' := ?_) #[true, true, true, true, true, true, true, true, true, true, false, false, false, false, false, false, false, false, false] rfl rfl (any_of HT_.out (by kernel_rfl)) (fun _ _ _ h => h) (Or.inl ⟨by rfl, ?_⟩) ?_ ?_
    rotate_left
    · intro w'
      go_simp
      with_reducible rfl
    rotate_left
    · simp only [Act.put, List.setIfInBounds_toArray, List.set_cons_zero, List.set_cons_succ, i64_w, i32_w]
      rfl
    refine take_ (i := 10) (N := some 48) (v := ?_) (a' := ?_) #[true, true, true, true, true, true, true, true, true, true, true, false, false, false, false, false, false, false, false] rfl rfl (take_ofW HT_.out HW_.out (by kernel_rfl)) (fun _ _ _ h => h) (Or.inl ⟨by rfl, ?_⟩) hHeld ?_ ?_
    rotate_left
    · rintro w' ⟨s0, s1, s2, s3, s4, s5⟩
      obtain ⟨q00, q01, q02, q03⟩ := bc4_ s0
      obtain ⟨q10, q11, q12, q13⟩ := bc4_ s1
      go_simp
      with_reducible rfl
    rotate_left
    · simp only [Act.put, List.setIfInBounds_toArray, List.set_cons_zero, List.set_cons_succ, i64_w, i32_w]
      rfl
    refine pure_ (i := 11) (N := some 49) (v := ?_) (a' := ?_) #[true, true, true, true, true, true, true, true, true, true, true, true, false, false, false, false, false, false, false] rfl rfl (any_of HT_.out (by kernel_rfl)) (fun _ _ _ h => h) (Or.inl ⟨by rfl, ?_⟩) ?_ ?_
    rotate_left
    · intro w'
      go_simp
      with_reducible rfl
    rotate_left
    · simp only [Act.put, List.setIfInBounds_toArray, List.set_cons_zero, List.set_cons_succ, i64_w, i32_w]
      rfl
    refine one_ (i := 12) (N := some 50) #[true, true, true, true, true, true, true, true, true, true, true, true, true, false, false, false, false, false, false] rfl rfl (one_of HT_.out (by kernel_rfl)) (by decide) (fun K hK => ?_)
    refine goes_ Try.func93 (by kernel_rfl) rfl #[.int .i64 a0, .int .i64 i] (by rfl) rfl rfl la_ ?_
    refine (spec_l2Adds.calls _ a0 i dd _ Ad.out).mono ?_
    rintro e w61 ⟨rfl, hd⟩
    refine ⟨_, rfl, ?_⟩
    have hb := below_of_drawn hd
    clear hd
    have n_ := Aside0.mk (All.below (by first | exact HA.out | exact All.drewN HA.out _ | exact All.drew HA.out) hb)
    clear HA
    have HA := n_
    clear n_ hb
    refine hK.out _ _ ⟨HA.out.2.2.1.1, HA.out.2.2.2.2.1.1, ((HA.out.base.cell (World.block_lt_of_cell? w _ hx0.out)).trans hx0.out), ((HA.out.base.cell (World.block_lt_of_cell? w _ hx1.out)).trans hx1.out), ((HA.out.base.cell (World.block_lt_of_cell? w _ hx2.out)).trans hx2.out), ((HA.out.base.cell (World.block_lt_of_cell? w _ hx3.out)).trans hx3.out)⟩ (fun hHeld => ?_)
    clear hK K
    refine norm_ (a' := ?_) ?_ ?_
    rotate_left
    · show Act.put _ (some 50) _ = _
      simp only [Act.put, List.setIfInBounds_toArray, List.set_cons_zero, List.set_cons_succ, i64_w, i32_w]
      rfl
    refine pure_ (i := 13) (N := some 51) (v := ?_) (a' := ?_) #[true, true, true, true, true, true, true, true, true, true, true, true, true, true, false, false, false, false, false] rfl rfl (any_of HT_.out (by kernel_rfl)) (fun _ _ _ h => h) (Or.inl ⟨by rfl, ?_⟩) ?_ ?_
    rotate_left
    · intro w'
      go_simp
      with_reducible rfl
    rotate_left
    · simp only [Act.put, List.setIfInBounds_toArray, List.set_cons_zero, List.set_cons_succ, i64_w, i32_w]
      rfl
    refine one_ (i := 14) (N := some 52) #[true, true, true, true, true, true, true, true, true, true, true, true, true, true, true, false, false, false, false] rfl rfl (one_of HT_.out (by kernel_rfl)) (by decide) (fun K hK => ?_)
    have NL := Aside0.mk (show N1 ≤ w61.heap.size from HA.out.1.2.1)
    refine goes_ Try.func68 (by kernel_rfl) rfl #[.agg #[.int .i64 (rd_T40 l3 i).f0, .int .i64 (rd_T40 l3 i).f1, .slice X2 (rd_T40 l3 i).f2.length d2, .slice X3 (rd_T40 l3 i).f3.length d3], .int .i64 by_, .int .i64 (wrap64 (from_ + dd))] (by rfl) rfl rfl la_ ?_
    refine (ih k1 (by have := HK1.out; omega) _ _ _ _ (rd_T40 l3 i).f2 _ _ (rd_T40 l3 i).f3 by_ (wrap64 (from_ + dd)) t1 t2 t3 t4 _ (Kd.C_below HS2.out (by first | exact All.base HA.out | exact pw_below_drewN (All.base HA.out) _ | exact below_drew1 (All.base HA.out))) HD2.out (Kd.C_below HS3.out (by first | exact All.base HA.out | exact pw_below_drewN (All.base HA.out) _ | exact below_drew1 (All.base HA.out))) HD3.out A8.out).mono ?_
    rintro e w62 ⟨v2, v3, f, rfl, hr, hb⟩
    refine ⟨_, rfl, ?_⟩
    obtain ⟨B2, e2, rfl⟩ := Kd.R_slice hr.1
    obtain ⟨B3, e3, rfl⟩ := Kd.S_slice hr.2
    have n_ := Aside0.mk (All.pushMade (by first | exact HA.out | exact All.drewN HA.out _ | exact All.drew HA.out) hb hr)
    clear HA
    have HA := n_
    clear n_ hb hr
    refine hK.out _ _ ⟨HA.out.2.2.2.1.1, HA.out.2.2.2.2.2.1.1, ((HA.out.base.cell (World.block_lt_of_cell? w _ hx0.out)).trans hx0.out), ((HA.out.base.cell (World.block_lt_of_cell? w _ hx1.out)).trans hx1.out), ((HA.out.base.cell (World.block_lt_of_cell? w _ hx2.out)).trans hx2.out), ((HA.out.base.cell (World.block_lt_of_cell? w _ hx3.out)).trans hx3.out)⟩ (fun hHeld => ?_)
    clear hK K
    refine norm_ (a' := ?_) ?_ ?_
    rotate_left
    · show Act.put _ (some 52) _ = _
      simp only [Act.put, List.setIfInBounds_toArray, List.set_cons_zero, List.set_cons_succ, i64_w, i32_w]
      rfl
    refine one_ (i := 15) (N := some 53) #[true, true, true, true, true, true, true, true, true, true, true, true, true, true, true, true, false, false, false] rfl rfl (one_of HT_.out (by kernel_rfl)) (by decide) (fun K hK => ?_)
    refine value_ (w1 := ?_) (v := ?_) (by rfl) rfl ?_ ?_
    rotate_left 2
    · go_simp
      constructor
      · rfl
      · rfl
    refine hK.out _ _ ⟨(blk_alloc HA.out.2.2.2.1.1 _), (blk_alloc HA.out.2.2.2.2.2.1.1 _), ((below_alloc HA.out.base _).cell (World.block_lt_of_cell? w _ hx0.out)).trans hx0.out, ((below_alloc HA.out.base _).cell (World.block_lt_of_cell? w _ hx1.out)).trans hx1.out, ((below_alloc HA.out.base _).cell (World.block_lt_of_cell? w _ hx2.out)).trans hx2.out, ((below_alloc HA.out.base _).cell (World.block_lt_of_cell? w _ hx3.out)).trans hx3.out⟩ (fun hHeld => ?_)
    clear hK K
    refine norm_ (a' := ?_) ?_ ?_
    rotate_left
    · show Act.put _ (some 53) _ = _
      simp only [Act.put, List.setIfInBounds_toArray, List.set_cons_zero, List.set_cons_succ, i64_w, i32_w]
      rfl
    refine one_ (i := 16) (N := some 54) #[true, true, true, true, true, true, true, true, true, true, true, true, true, true, true, true, true, false, false] rfl rfl (one_of HT_.out (by kernel_rfl)) (by decide) (fun K hK => ?_)
    refine Kd.S_append_step kT (w0 := w) w.heap.size (by rfl) (.tmp 39) (.tmp 53) 38 40 (.agg #[.int .i64 0, .int .i64 0, .slice none 0 0, .slice none 0 0]) 64 rfl Try.underlying38 info40 rfl (by decide) (by omega) (.slice BK acc.length cK) acc ⟨t1, t2, t3, t4⟩ [.int .i64 t1, .int .i64 t2, .slice B2 t3.length e2, .slice B3 t4.length e3] (fun k_ => wc.heap.size ≤ k_) (fun k_ => w61.heap.size ≤ k_ ∧ k_ < w62.heap.size) rfl (by first | (go_simp; done) | (go_simp; rfl) | rfl) ?aP ?hokp ?aF ?aO ?aB ?aS ?aL ?_
    (case aP => exact made_M HA.out.1.1 t1 t2)
    (case hokp => intro k_ hk; have := NL.out; have := HN1.out; exact ⟨by omega, fun he => by have := (HA.out.2.1.1.choose_spec.1 k_ he.symm).2; omega⟩)
    (case aF => intro k_ hk; have := HN1.out; have := HA.out.2.1.2.1; show wc.heap.size ≤ k_; simp only [Ob.kids] at this; omega)
    (case aO => exact Kd.S_mono HA.out.2.1.1 (fun k_ hk => ⟨hk.1, fun h2 => by have := NL.out; omega⟩))
    (case aB => exact (by first | exact All.base HA.out | exact pw_below_drewN (All.base HA.out) _ | exact below_drew1 (All.base HA.out)))
    (case aS => exact (All.base HA.out).size)
    (case aL => have := LA.out; omega)
    intro v1 w63 ho hb hg hat
    obtain ⟨B4, e4, rfl⟩ := Kd.S_slice ho
    have HM := Aside0.mk (Nat.le_trans HN1.out (Nat.le_trans HA.out.2.1.2.1 hg.size))
    have n_ := Aside0.mk (All.next HA.out.2 HN.out HW.out hg hb ho)
    clear HA
    have HA := n_
    clear n_ ho hb hg hat
    refine hK.out _ _ ⟨HA.out.2.2.1.1, HA.out.2.2.2.2.1.1, ((HA.out.base.cell (World.block_lt_of_cell? w _ hx0.out)).trans hx0.out), ((HA.out.base.cell (World.block_lt_of_cell? w _ hx1.out)).trans hx1.out), ((HA.out.base.cell (World.block_lt_of_cell? w _ hx2.out)).trans hx2.out), ((HA.out.base.cell (World.block_lt_of_cell? w _ hx3.out)).trans hx3.out)⟩ (fun hHeld => ?_)
    clear hK K
    refine norm_ (a' := ?_) ?_ ?_
    rotate_left
    · show Act.put _ (some 54) _ = _
      simp only [Act.put, List.setIfInBounds_toArray, List.set_cons_zero, List.set_cons_succ, i64_w, i32_w]
      rfl
    refine pure_ (i := 17) (N := some 55) (v := ?_) (a' := ?_) #[true, true, true, true, true, true, true, true, true, true, true, true, true, true, true, true, true, true, false] rfl rfl (any_of HT_.out (by kernel_rfl)) (fun _ _ _ h => h) (Or.inl ⟨by rfl, ?_⟩) ?_ ?_
    rotate_left
    · intro w'
      go_simp
      with_reducible rfl
    rotate_left
    · simp only [Act.put, List.setIfInBounds_toArray, List.set_cons_zero, List.set_cons_succ, i64_w, i32_w]
      rfl
    refine last_ (i := 18) (N := none) #[true, true, true, true, true, true, true, true, true, true, true, true, true, true, true, true, true, true, true] rfl rfl (one_of HT_.out (by kernel_rfl)) (by decide) (fun K hK => ?_)
    obtain ⟨cb0, cb1, cb2, cb3, cb4, cb5, cb6, cb7⟩ := bf4_ HA.out.2.2.1.1
    refine skip_ (w1 := ?_) (by rfl) rfl ?_ ?_
    rotate_left
    · go_simp
      rfl
    refine hK.out _ _ ?_
    clear hK K hHeld
    refine done_ (done_of HT_.out (by kernel_rfl)) ?_
    go_wp2
    go_roundg k1
    case measure => have := HK1.out; omega
    case rel => exact ⟨_, _, _, _, _, rfl, H, ⟨by have := HK1.out; omega⟩, HM, ⟨All.put (l1 := [_, _]) HA.out 3 _ (by rw [List.length_append]; rfl)⟩⟩
  · rw [if_neg c6] at H
    have c6b : decide (i < (l3.length : Int)) = false := decide_eq_false c6
    obtain rfl := Option.some.inj H
    clear H c6
    obtain ⟨cc0, cc1, cc2, cc3⟩ := bc4_ HA.out.2.2.2.2.1.1
    obtain ⟨ca0, ca1, ca2, ca3⟩ := bc4_ HA.out.2.2.1.1
    obtain ⟨cz0, cz1, cz2, cz3, cz4, cz5, cz6, cz7⟩ := bf4_ HA.out.2.2.2.1.1
    go_wp2
    have nA := All.set4 (l1 := [_, _, _]) HA.out (.int .i64 a0) (.int .i64 n) (.slice xt.A xt.n xt.c) (.slice BK acc.length cK)
    refine bodyPost_ret (results_cell_row rfl _ _ g2 40 #[.int .i64 a0, .int .i64 n, .slice xt.A xt.n xt.c, .slice BK acc.length cK] (0, 0) _ rfl nA.2.2.2.1.1 Try.underlying40 rfl (by kernel_rfl)) rfl ?_
    obtain ⟨f, hf⟩ := made_of nA.2.1.1 nA.1.1 (Or.inl (HN.out _ List.mem_cons_self))
    first | exact ⟨_, _, f, rfl, hf, nA.base⟩ | exact ⟨_, _, rfl, ⟨f, hf⟩, nA.base⟩
end Go.Proofs.Ytipfkicndjddgaa.P
