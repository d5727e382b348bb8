-- by hand: spec.l2Put, spec.SubstituteTerm
import Derived.Test.YtipfkicndjddgaaK8
import Derived.Test.YtipfkicndjddgaaM7
namespace Go.Proofs.Ytipfkicndjddgaa.P
open Go.RowKit Go.Proofs.YtipfkicndjddgaaW.PrintWords Go.Proofs.YtipfkicndjddgaaW.PrintLast Go.Proofs.YtipfkicndjddgaaW.PrintMore
attribute [local go_sem] max2_int min2_int max_two min_two max_three min_three max_four min_four
set_option linter.unusedVariables false
set_option linter.unusedSimpArgs false
mutual
def spec_l2Put.l0 : Nat → Int → List S40 → Int → Int → Int → List Int → List S40 → Int → List S40 → Int → Option (List S40)
  | 0, _, _, _, _, _, _, _, _, _, _ => none
  | k + 1, a0, l3, i, u0, u1, m2, m3, d, acc, j => if j < (l3.length : Int) then (if 0 ≤ j then (if acc.length < 2199023255552 then ((spec_l2Adds.f k a0 j).bind fun dd => (spec_l2Put.f k (rd_T40 l3 j).f0 (rd_T40 l3 j).f1 (rd_T40 l3 j).f2 (rd_T40 l3 j).f3 i u0 u1 m2 m3 (wrap64 (d + dd))).bind fun q => spec_l2Put.l0 k a0 l3 i u0 u1 m2 m3 d (acc ++ [⟨q.1, q.2.1, q.2.2.1, q.2.2.2⟩]) (wrap64 (j + 1))) else none) else none) else some acc
def spec_l2Put.f : Nat → Int → Int → List Int → List S40 → Int → Int → Int → List Int → List S40 → Int → Option (Int × Int × List Int × List S40)
  | 0, _, _, _, _, _, _, _, _, _, _ => none
  | k + 1, a0, a1, l2, l3, i, u0, u1, m2, m3, d => (spec_l1Copy.f l2).bind fun t => if a0 = 0 ∧ a1 = wrap64 (i + d) then spec_l2Shift.f k u0 u1 m2 m3 d 0 else (spec_l2Put.l0 k a0 l3 i u0 u1 m2 m3 d [] 0).bind fun r => some (a0, (if a0 = 0 ∧ a1 > wrap64 (i + d) then wrap64 (a1 - 1) else a1), t, r)
end
def spec_l2Put.T1 : Bool × List (List Nat × List Nat) := (true, [([], []), ([0], [0]), ([], []), ([2], [2]), ([], []), ([4], [4]), ([5], [5]), ([1, 3, 6], [1, 3, 6]), ([], []), ([8, 7, 6, 0, 1, 2, 3, 4, 5, 6, 7, 8], [7, 8])])
def spec_l2Put.B1 : List Nat := [0, 1, 0, 4, 0, 16, 48, 127, 0, 511]
theorem spec_l2Put.tab1 : rtab .any (opsOf Try.f72 1) = spec_l2Put.T1 := by kernel_rfl
theorem spec_l2Put.bits1 : waitsOk spec_l2Put.T1.2 spec_l2Put.B1 = true := by kernel_rfl
def spec_l2Put.T10 : Bool × List (List Nat × List Nat) := (true, [([], []), ([0], [0]), ([], []), ([2], [2]), ([], []), ([3, 4], [3, 4]), ([5], [5]), ([], []), ([], []), ([], []), ([], []), ([10], [10]), ([], []), ([11, 12], [11, 12]), ([9, 13], [9, 13]), ([6, 7, 8, 14, 13], [6, 7, 8, 14]), ([15], [15]), ([1, 16, 15], [1, 16]), ([0, 1, 2, 3, 4, 5, 6, 7, 8, 9, 10, 11, 12, 13, 14, 15, 16, 17], []), ([18, 17, 17, 0, 1, 2, 3, 4, 5, 6, 7, 8, 9, 10, 11, 12, 13, 14, 15, 16, 17], [17, 18])])
def spec_l2Put.B10 : List Nat := [0, 1, 0, 4, 0, 28, 60, 0, 0, 0, 0, 1024, 0, 7168, 15872, 32764, 65532, 131071, 262143, 524287]
theorem spec_l2Put.tab10 : rtab .any (opsOf Try.f72 10) = spec_l2Put.T10 := by kernel_rfl
theorem spec_l2Put.bits10 : waitsOk spec_l2Put.T10.2 spec_l2Put.B10 = true := by kernel_rfl
def L2PT (k : Nat) : Prop := ∀ (a0 a1 : Int) (A2 : Option Addr) (c2 : Nat) (l2 : List Int) (A3 : Option Addr) (c3 : Nat) (l3 : List S40) (i : Int) (u0 u1 : Int) (B2_ : Option Addr) (k2 : Nat) (m2 : List Int) (B3_ : Option Addr) (k3 : Nat) (m3 : List S40) (d : Int) (r1 r2 : Int) (r3 : List Int) (r4 : List S40) (w : World) (hr2 : Kd.C (Kd.int .i64) w A2 l2.length l2) (hc2 : l2.length ≤ c2) (hr3 : Kd.C k40 w A3 l3.length l3) (hc3 : l3.length ≤ c3) (hr4 : Kd.C (Kd.int .i64) w B2_ m2.length m2) (hc4 : m2.length ≤ k2) (hr5 : Kd.C k40 w B3_ m3.length m3) (hc5 : m3.length ≤ k3) (h : spec_l2Put.f k a0 a1 l2 l3 i u0 u1 m2 m3 d = some (r1, r2, r3, r4)),
  Calls Try.prog 72 #[.agg #[.int .i64 a0, .int .i64 a1, .slice A2 l2.length c2, .slice A3 l3.length c3], .int .i64 i, .agg #[.int .i64 u0, .int .i64 u1, .slice B2_ m2.length k2, .slice B3_ m3.length k3], .int .i64 d] w fun e w' => ∃ (v2 v3 : Value) (f : Nat → Bool), e = .returned (.agg #[.int .i64 r1, .int .i64 r2, v2, v3]) ∧ Made w' w.heap.size f v2 v3 r3 r4 ∧ Below w.heap.size w w'
set_option maxHeartbeats 8000000 in
set_option maxRecDepth 100000 in
theorem l2PutT (k : Nat) : L2PT k := by
 induction k using Nat.strongRecOn with
 | _ k ih =>
 intro a0 a1 A2 c2 l2 A3 c3 l3 iv u0 u1 B2_ k2 m2 B3_ k3 m3 d r1 r2 r3 r4 w hr2 hc2 hr3 hc3 hr4 hc4 hr5 hc5 h
 cases k with
 | zero => exact absurd h (by simp [spec_l2Put.f])
 | succ k =>
 simp only [spec_l2Put.f] at h
 obtain ⟨t, At, h⟩ := Option.bind_eq_some_iff.mp h
 have hu40 := Try.underlying40
 have HR2 := Aside0.mk hr2
 have HC2 := Aside0.mk hc2
 clear hr2 hc2
 have HR3 := Aside0.mk hr3
 have HC3 := Aside0.mk hc3
 clear hr3 hc3
 have HR4 := Aside0.mk hr4
 have HC4 := Aside0.mk hc4
 clear hr4 hc4
 have HR5 := Aside0.mk hr5
 have HC5 := Aside0.mk hc5
 clear hr5 hc5
 replace At := Aside0.mk At
 have H := Aside0.mk h
 clear h
 have HA := Aside0.mk (show All w [] w from Below.refl w.heap.size w)
 go_enter Try.func72, Try.ntmps72
 go_upto_region 1 with (first | ((with_reducible refine gate_dst (N := 4) rfl ?_); (try (refine gate_guard (by rfl) ?_; dsimp only)); refine box_event ?hg (N := 4) ?hd (cs := #[.int .i64 a0, .int .i64 a1, .slice A2 l2.length c2, .slice A3 l3.length c3]) (t := 40) ?hr ?_; (case hd => rfl); (case hg => rfl); (case hr => first | (go_simp; done) | (go_simp; rfl)); intro g1 hg w87 hbox hb; have n_ := Aside0.mk (All.box (by first | exact HA.out | exact All.drewN HA.out _ | exact All.drew HA.out) hg hbox hb); clear HA; have HA := n_; clear n_ hg hbox hb) | ((with_reducible refine gate_dst (N := 6) rfl ?_); (try (refine gate_guard (by rfl) ?_; dsimp only)); refine box_event ?hg (N := 6) ?hd (cs := #[.int .i64 u0, .int .i64 u1, .slice B2_ m2.length k2, .slice B3_ m3.length k3]) (t := 40) ?hr ?_; (case hd => rfl); (case hg => rfl); (case hr => first | (go_simp; done) | (go_simp; rfl)); intro g6 hg w88 hbox hb; have n_ := Aside0.mk (All.box (by first | exact HA.out | exact All.drewN HA.out _ | exact All.drew HA.out) hg hbox hb); clear HA; have HA := n_; clear n_ hg hbox hb) | ((with_reducible refine gate_dst (N := 8) rfl ?_); (try (refine gate_guard (by rfl) ?_; dsimp only)); refine box_event ?hg (N := 8) ?hd (cs := #[.int .i64 0, .int .i64 0, .slice none 0 0, .slice none 0 0]) (t := 40) ?hr ?_; (case hd => rfl); (case hg => rfl); (case hr => first | (go_simp; done) | (go_simp; rfl)); intro g2 hg w89 hbox hb; have n_ := Aside0.mk (All.box (by first | exact HA.out | exact All.drewN HA.out _ | exact All.drew HA.out) hg hbox hb); clear HA; have HA := n_; clear n_ hg hbox hb))
 replace HA := Aside0.mk (All.drew HA.out)
 refine start_ (n := 10) (S := (fun w' => w'.heap[g1]? = some (.cells #[.int .i64 a0, .int .i64 a1, .slice A2 l2.length c2, .slice A3 l3.length c3] 40 (0, 0)))) (ds := []) #[false, false, false, false, false, false, false, false, false, false] (by kernel_rfl) rfl rfl HA.out.2.2.1.1 (fun hHeld => ?_); refine with_tabW spec_l2Put.tab1 spec_l2Put.bits1 (fun HT_ HW_ => ?_)
 generalize w89.drew = w90 at HA hHeld ⊢
 refine pure_ (i := 0) (N := some 11) (v := ?_) (a' := ?_) #[true, false, false, false, false, false, false, false, false, false] rfl rfl (any_of HT_.out (by kernel_rfl)) (fun _ _ _ h => h) (Or.inl ⟨by rfl, ?_⟩) ?_ ?_
 rotate_left
 · intro w'
   go_simp
   with_reducible rfl
 rotate_left
 · simp only [Act.put, List.setIfInBounds_toArray, List.set_cons_zero, List.set_cons_succ, i64_w, i32_w]
   rfl
 refine take_ (i := 1) (N := some 12) (v := ?_) (a' := ?_) #[true, true, false, false, false, false, false, false, false, false] rfl rfl (take_ofW HT_.out HW_.out (by kernel_rfl)) (fun _ _ _ h => h) (Or.inl ⟨by rfl, ?_⟩) hHeld ?_ ?_
 rotate_left
 · rintro w' s0
   obtain ⟨q00, q01, q02, q03⟩ := bc4_ s0
   go_simp
   with_reducible rfl
 rotate_left
 · simp only [Act.put, List.setIfInBounds_toArray, List.set_cons_zero, List.set_cons_succ, i64_w, i32_w]
   rfl
 refine pure_ (i := 2) (N := some 13) (v := ?_) (a' := ?_) #[true, true, true, false, false, false, false, false, false, false] rfl rfl (any_of HT_.out (by kernel_rfl)) (fun _ _ _ h => h) (Or.inl ⟨by rfl, ?_⟩) ?_ ?_
 rotate_left
 · intro w'
   go_simp
   with_reducible rfl
 rotate_left
 · simp only [Act.put, List.setIfInBounds_toArray, List.set_cons_zero, List.set_cons_succ, i64_w, i32_w]
   rfl
 refine take_ (i := 3) (N := some 14) (v := ?_) (a' := ?_) #[true, true, true, true, false, false, false, false, false, false] rfl rfl (take_ofW HT_.out HW_.out (by kernel_rfl)) (fun _ _ _ h => h) (Or.inl ⟨by rfl, ?_⟩) hHeld ?_ ?_
 rotate_left
 · rintro w' s0
   obtain ⟨q00, q01, q02, q03⟩ := bc4_ s0
   go_simp
   with_reducible rfl
 rotate_left
 · simp only [Act.put, List.setIfInBounds_toArray, List.set_cons_zero, List.set_cons_succ, i64_w, i32_w]
   rfl
 refine pure_ (i := 4) (N := some 15) (v := ?_) (a' := ?_) #[true, true, true, true, true, false, false, false, false, false] rfl rfl (any_of HT_.out (by kernel_rfl)) (fun _ _ _ h => h) (Or.inl ⟨by rfl, ?_⟩) ?_ ?_
 rotate_left
 · intro w'
   go_simp
   with_reducible rfl
 rotate_left
 · simp only [Act.put, List.setIfInBounds_toArray, List.set_cons_zero, List.set_cons_succ, i64_w, i32_w]
   rfl
 refine take_ (i := 5) (N := some 16) (v := ?_) (a' := ?_) #[true, true, true, true, true, true, false, false, false, false] rfl rfl (take_ofW HT_.out HW_.out (by kernel_rfl)) (fun _ _ _ h => h) (Or.inl ⟨by rfl, ?_⟩) hHeld ?_ ?_
 rotate_left
 · rintro w' s0
   obtain ⟨q00, q01, q02, q03⟩ := bc4_ s0
   go_simp
   with_reducible rfl
 rotate_left
 · simp only [Act.put, List.setIfInBounds_toArray, List.set_cons_zero, List.set_cons_succ, i64_w, i32_w]
   rfl
 refine join_ (σ := Rx × Nat) 1 #[true, true, true, true, true, true, true, true, true, false] (fun s_ => [(17, .slice s_.1.A s_.1.n s_.1.c), (9, .pointer (some ⟨s_.2, 0, none⟩)), (18, .agg #[.int .i64 a0, .int .i64 a1, .slice s_.1.A s_.1.n s_.1.c, .slice none 0 0])]) (fun s_ w' => (fun w' => w'.heap[g1]? = some (.cells #[.int .i64 a0, .int .i64 a1, .slice A2 l2.length c2, .slice A3 l3.length c3] 40 (0, 0))) w' ∧ All w [Ob.rw w.heap.size s_.1 t, Ob.box s_.2 #[.int .i64 0, .int .i64 0, .slice none 0 0, .slice none 0 0] 40, Ob.box g2 #[.int .i64 0, .int .i64 0, .slice none 0 0, .slice none 0 0] 40, Ob.box g6 #[.int .i64 u0, .int .i64 u1, .slice B2_ m2.length k2, .slice B3_ m3.length k3] 40, Ob.box g1 #[.int .i64 a0, .int .i64 a1, .slice A2 l2.length c2, .slice A3 l3.length c3] 40] w') ?_ ?_
 rotate_left
 · intro hCont
   refine two_ (i := 6) (j := 8) (Ni := some 17) (Nj := some 9) #[true, true, true, true, true, true, true, false, false, false] #[true, true, true, true, true, true, false, false, true, false] rfl rfl rfl rfl (two_of HT_.out (by kernel_rfl)) (by decide) (by decide) (fun K hK => ?_) (fun K hK => ?_)
   · skip
     refine goes_ Try.func92 (by kernel_rfl) rfl #[.slice A2 l2.length c2] (by rfl) rfl rfl la_ ?_
     refine (spec_l1Copy.calls _ _ l2 t _ (Kd.C_below HR2.out (by first | exact All.base HA.out | exact pw_below_drewN (All.base HA.out) _ | exact below_drew1 (All.base HA.out))) HC2.out At.out).mono ?_
     rintro e w91 ⟨v0, rfl, hr, hb⟩
     refine ⟨_, rfl, ?_⟩
     obtain ⟨xt, rfl, hp⟩ := row_new (B := w.heap.size) (below_size (by first | exact All.base HA.out | exact pw_below_drewN (All.base HA.out) _ | exact below_drew1 (All.base HA.out))) hb.size hr
     have n_ := Aside0.mk (All.push (by first | exact HA.out | exact All.drewN HA.out _ | exact All.drew HA.out) hb (Ob.rw w.heap.size xt t) hp.1 hp.2.1 hp.2.2)
     clear HA
     have HA := n_
     clear n_ hp hb
     refine hK.out _ _ HA.out.2.2.2.1.1 (fun hHeld => ?_)
     clear hK K
     refine norm_ (a' := ?_) ?_ ?_
     rotate_left
     · show Act.put _ (some 17) _ = _
       simp only [Act.put, List.setIfInBounds_toArray, List.set_cons_zero, List.set_cons_succ, i64_w, i32_w]
       rfl
     refine pure_ (i := 7) (N := some 18) (v := ?_) (a' := ?_) #[true, true, true, true, true, true, true, true, false, false] rfl rfl (any_of HT_.out (by kernel_rfl)) (fun _ _ _ h => h) (Or.inl ⟨by rfl, ?_⟩) ?_ ?_
     rotate_left
     · intro w'
       go_simp
       with_reducible rfl
     rotate_left
     · simp only [Act.put, List.setIfInBounds_toArray, List.set_cons_zero, List.set_cons_succ, i64_w, i32_w]
       rfl
     refine one_ (i := 8) (N := some 9) #[true, true, true, true, true, true, true, true, true, false] rfl rfl (one_of HT_.out (by kernel_rfl)) (by decide) (fun K hK => ?_)
     refine box_step ?hg (N := 9) ?hd (cs := #[.int .i64 0, .int .i64 0, .slice none 0 0, .slice none 0 0]) (t := 40) ?hr ?_; (case hd => rfl); (case hg => rfl); (case hr => first | (go_simp; done) | (go_simp; rfl))
     intro gb hg w92 hbox hb
     have n_ := Aside0.mk (All.box (by first | exact HA.out | exact All.drewN HA.out _ | exact All.drew HA.out) hg hbox hb)
     clear HA
     have HA := n_
     clear n_ hg hbox hb
     refine hK.out _ _ HA.out.2.2.2.2.1.1 (fun hHeld => ?_)
     clear hK K
     refine norm_ (a' := ?_) ?_ ?_
     rotate_left
     · show Act.put _ (some 9) _ = _
       simp only [Act.put, List.setIfInBounds_toArray, List.set_cons_zero, List.set_cons_succ, i64_w, i32_w]
       rfl
     exact norm_ (by simp only [putAll, Act.put, List.setIfInBounds_toArray, List.set_cons_zero, List.set_cons_succ]) (hCont (xt, gb) _ ⟨hHeld, (All.swap HA.out)⟩)
   refine box_step ?hg (N := 9) ?hd (cs := #[.int .i64 0, .int .i64 0, .slice none 0 0, .slice none 0 0]) (t := 40) ?hr ?_; (case hd => rfl); (case hg => rfl); (case hr => first | (go_simp; done) | (go_simp; rfl))
   intro gb hg w93 hbox hb
   have n_ := Aside0.mk (All.box (by first | exact HA.out | exact All.drewN HA.out _ | exact All.drew HA.out) hg hbox hb)
   clear HA
   have HA := n_
   clear n_ hg hbox hb
   refine hK.out _ _ HA.out.2.2.2.1.1 (fun hHeld => ?_)
   clear hK K
   refine norm_ (a' := ?_) ?_ ?_
   rotate_left
   · show Act.put _ (some 9) _ = _
     simp only [Act.put, List.setIfInBounds_toArray, List.set_cons_zero, List.set_cons_succ, i64_w, i32_w]
     rfl
   refine one_ (i := 6) (N := some 17) #[true, true, true, true, true, true, true, false, true, false] rfl rfl (one_of HT_.out (by kernel_rfl)) (by decide) (fun K hK => ?_)
   refine goes_ Try.func92 (by kernel_rfl) rfl #[.slice A2 l2.length c2] (by rfl) rfl rfl la_ ?_
   refine (spec_l1Copy.calls _ _ l2 t _ (Kd.C_below HR2.out (by first | exact All.base HA.out | exact pw_below_drewN (All.base HA.out) _ | exact below_drew1 (All.base HA.out))) HC2.out At.out).mono ?_
   rintro e w94 ⟨v0, rfl, hr, hb⟩
   refine ⟨_, rfl, ?_⟩
   obtain ⟨xt, rfl, hp⟩ := row_new (B := w.heap.size) (below_size (by first | exact All.base HA.out | exact pw_below_drewN (All.base HA.out) _ | exact below_drew1 (All.base HA.out))) hb.size hr
   have n_ := Aside0.mk (All.push (by first | exact HA.out | exact All.drewN HA.out _ | exact All.drew HA.out) hb (Ob.rw w.heap.size xt t) hp.1 hp.2.1 hp.2.2)
   clear HA
   have HA := n_
   clear n_ hp hb
   refine hK.out _ _ HA.out.2.2.2.2.1.1 (fun hHeld => ?_)
   clear hK K
   refine norm_ (a' := ?_) ?_ ?_
   rotate_left
   · show Act.put _ (some 17) _ = _
     simp only [Act.put, List.setIfInBounds_toArray, List.set_cons_zero, List.set_cons_succ, i64_w, i32_w]
     rfl
   refine pure_ (i := 7) (N := some 18) (v := ?_) (a' := ?_) #[true, true, true, true, true, true, true, true, true, false] rfl rfl (any_of HT_.out (by kernel_rfl)) (fun _ _ _ h => h) (Or.inl ⟨by rfl, ?_⟩) ?_ ?_
   rotate_left
   · intro w'
     go_simp
     with_reducible rfl
   rotate_left
   · simp only [Act.put, List.setIfInBounds_toArray, List.set_cons_zero, List.set_cons_succ, i64_w, i32_w]
     rfl
   exact norm_ (by simp only [putAll, Act.put, List.setIfInBounds_toArray, List.set_cons_zero, List.set_cons_succ]) (hCont (xt, gb) _ ⟨hHeld, HA.out⟩)
 rintro ⟨xt, g3⟩ w95 ⟨hHeld, hA⟩
 dsimp only at hHeld hA ⊢
 clear HA
 have HA := Aside0.mk hA
 clear hA
 refine norm_ (a' := ?_) ?_ ?_
 rotate_left
 · simp only [putAll, Act.put, List.setIfInBounds_toArray, List.set_cons_zero, List.set_cons_succ]
   rfl
 refine one_ (i := 9) (N := none) #[true, true, true, true, true, true, true, true, true, true] rfl rfl (one_of HT_.out (by kernel_rfl)) (by decide) (fun K hK => ?_)
 obtain ⟨cz0, cz1, cz2, cz3, cz4, cz5, cz6, cz7⟩ := bf4_ HA.out.2.1.1
 have nA := All.set4 (l1 := [_]) HA.out (.int .i64 a0) (.int .i64 a1) (.slice xt.A xt.n xt.c) (.slice none 0 0)
 refine skip_ (w1 := ?_) (by rfl) rfl ?_ ?_
 rotate_left
 · go_simp
   rfl
 refine hK.out _ _ nA.2.2.2.2.1.1 (fun hHeld => ?_)
 clear hK K
 refine gen_any (All w _) nA ?_
 clear HA nA hHeld cz0 cz1 cz2 cz3 cz4 cz5 cz6 cz7
 intro w96 hA
 have HA := Aside0.mk hA
 clear hA
 refine done_ (done_of HT_.out (by kernel_rfl)) ?_
 obtain ⟨n, hn⟩ : ∃ n, (if a0 = 0 ∧ a1 > wrap64 (iv + d) then wrap64 (a1 - 1) else a1) = n := ⟨_, rfl⟩
 have h := H.out
 clear H
 rw [hn] at h
 have H := Aside0.mk h
 clear h
 replace hn := Aside0.mk hn
 obtain ⟨ca0, ca1, ca2, ca3⟩ := bc4_ HA.out.2.2.2.2.1.1
 go_upto_if 21 with (fail)
 by_cases cv : a0 = 0 ∧ a1 = wrap64 (iv + d)
 · have h := H.out
   clear H
   rw [if_pos cv] at h
   replace h := Aside0.mk h
   obtain ⟨c0, c1⟩ := cv
   have c0b : (a0 == 0) = true := beq_iff_eq.mpr c0
   rw [c0b]
   clear c0b c0
   have c1b : (a1 == wrap64 (iv + d)) = true := beq_iff_eq.mpr c1
   clear c1 hn
   go_upto_if 27 with (fail)
   (first | rw [c1b] | skip)
   clear c1b
   obtain ⟨cu0, cu1, cu2, cu3⟩ := bc4_ HA.out.2.2.2.1.1
   go_wp2_with (first | ((with_reducible refine gate_callee (f := 68) rfl ?_); refine goesL_ (some 30) rfl rfl Try.func68 (by kernel_rfl) rfl #[.agg #[.int .i64 u0, .int .i64 u1, .slice B2_ m2.length k2, .slice B3_ m3.length k3], .int .i64 d, .int .i64 0] rfl la_ ?_; (refine (l2ShiftT k u0 u1 _ _ m2 _ _ m3 d 0 r1 r2 r3 r4 _ (Kd.C_below HR4.out (by first | exact All.base HA.out | exact pw_below_drewN (All.base HA.out) _ | exact below_drew1 (All.base HA.out))) HC4.out (Kd.C_below HR5.out (by first | exact All.base HA.out | exact pw_below_drewN (All.base HA.out) _ | exact below_drew1 (All.base HA.out))) HC5.out h.out).mono ?_); rintro e w97 ⟨v2, v3, f, rfl, hr, hb⟩; refine ⟨_, rfl, ?_⟩; obtain ⟨B2, e2, rfl⟩ := Kd.R_slice hr.1; obtain ⟨B3, e3, rfl⟩ := Kd.S_slice hr.2; have n_ := Aside0.mk (All.pushMade (by first | exact HA.out | exact All.drewN HA.out _ | exact All.drew HA.out) hb hr); clear HA; have HA := n_; clear n_ hb hr; obtain ⟨cz0, cz1, cz2, cz3, cz4, cz5, cz6, cz7⟩ := bf4_ HA.out.2.2.2.1.1))
   have nA := All.set4 (l1 := [_, _, _]) HA.out (.int .i64 r1) (.int .i64 r2) (.slice B2 r3.length e2) (.slice B3 r4.length e3)
   refine bodyPost_ret (results_cell_row rfl _ _ g2 40 #[.int .i64 r1, .int .i64 r2, .slice B2 r3.length e2, .slice B3 r4.length e3] (0, 0) _ rfl nA.2.2.2.1.1 Try.underlying40 rfl (by kernel_rfl)) rfl ?_
   first | exact ⟨_, _, f, rfl, made_Made nA.1.1, nA.base⟩ | exact ⟨_, _, rfl, ⟨f, made_Made nA.1.1⟩, nA.base⟩
 have h := H.out
 clear H
 rw [if_neg cv] at h
 obtain ⟨res, Al, h⟩ := Option.bind_eq_some_iff.mp h
 simp only [Option.some.injEq, Prod.mk.injEq] at h
 obtain ⟨rfl, rfl, rfl, rfl⟩ := h
 replace Al := Aside0.mk Al
 have CV := Aside0.mk cv
 clear cv ca0 ca1 ca2 ca3
 go_cut [] (fun wc => All w [Ob.rw w.heap.size xt t, Ob.box g3 #[.int .i64 a0, .int .i64 n, .slice xt.A xt.n xt.c, .slice none 0 0] 40, Ob.box g2 #[.int .i64 0, .int .i64 0, .slice none 0 0, .slice none 0 0] 40, Ob.box g6 #[.int .i64 u0, .int .i64 u1, .slice B2_ m2.length k2, .slice B3_ m3.length k3] 40, Ob.box g1 #[.int .i64 a0, .int .i64 a1, .slice A2 l2.length c2, .slice A3 l3.length c3] 40] wc)
 case first =>
  obtain ⟨ca0, ca1, ca2, ca3⟩ := bc4_ HA.out.2.2.2.2.1.1
  obtain ⟨cf0, cf1, cf2, cf3, cf4, cf5, cf6, cf7⟩ := bf4_ HA.out.2.1.1
  by_cases c0 : a0 = 0
  · have c0b : (a0 == 0) = true := beq_iff_eq.mpr c0
    have c1b : (a1 == wrap64 (iv + d)) = false := beq_eq_false_iff_ne.mpr (fun h => CV.out ⟨c0, h⟩)
    by_cases c2 : a1 > wrap64 (iv + d)
    · have e := hn.out
      rw [if_pos ⟨c0, c2⟩] at e
      subst e
      have c2b : decide (a1 > wrap64 (iv + d)) = true := decide_eq_true c2
      have c2c : decide (wrap64 (iv + d) < a1) = true := decide_eq_true c2
      clear hn CV c0 c2
      go_wp2
      go_meet
      case rel => exact All.put (l1 := [_]) (by first | exact HA.out | exact All.drewN HA.out _ | exact All.drew HA.out) 1 (.int .i64 (wrap64 (a1 - 1))) rfl
    · have e := hn.out
      rw [if_neg (fun h => c2 h.2)] at e
      subst e
      have c2b : decide (a1 > wrap64 (iv + d)) = false := decide_eq_false c2
      have c2c : decide (wrap64 (iv + d) < a1) = false := decide_eq_false c2
      clear hn CV c0 c2
      go_wp2
      go_meet
      case rel => exact (by first | exact HA.out | exact All.drewN HA.out _ | exact All.drew HA.out)
  · have c0b : (a0 == 0) = false := beq_eq_false_iff_ne.mpr c0
    have e := hn.out
    rw [if_neg (fun h => c0 h.1)] at e
    subst e
    clear hn CV c0
    go_wp2
    go_meet
    case rel => exact (by first | exact HA.out | exact All.drewN HA.out _ | exact All.drew HA.out)
 case rest =>
 clear HA
 have HA := Aside0.mk hcut
 clear hcut hn CV
 have HN := Aside0.mk (show ∀ x ∈ ([Ob.rw w.heap.size xt t, Ob.box g3 #[.int .i64 a0, .int .i64 n, .slice xt.A xt.n xt.c, .slice none 0 0] 40, Ob.box g2 #[.int .i64 0, .int .i64 0, .slice none 0 0, .slice none 0 0] 40, Ob.box g6 #[.int .i64 u0, .int .i64 u1, .slice B2_ m2.length k2, .slice B3_ m3.length k3] 40, Ob.box g1 #[.int .i64 a0, .int .i64 a1, .slice A2 l2.length c2, .slice A3 l3.length c3] 40] : List Ob).map Ob.hi, x ≤ wc.heap.size from All.tops HA.out)
 have HW := Aside0.mk (show w.heap.size ≤ wc.heap.size from HA.out.base.size)
 obtain ⟨cc0, cc1, cc2, cc3⟩ := bc4_ HA.out.2.2.2.2.1.1
 go_wp2
 go_loopg [10] k (fun kq v W => ∃ (acc : List S40) (i : Int) (BK : Option Addr) (cK N1 : Nat), v = .int .i64 i ∧ Aside0 (spec_l2Put.l0 kq a0 l3 iv u0 u1 m2 m3 d acc i = some res) ∧ Aside0 (kq ≤ k) ∧ Aside0 (wc.heap.size ≤ N1) ∧ Aside0 (All w [Ob.kids w.heap.size wc.heap.size N1 (.slice BK acc.length cK) acc, Ob.rw w.heap.size xt t, Ob.box g3 #[.int .i64 a0, .int .i64 n, .slice xt.A xt.n xt.c, .slice BK acc.length cK] 40, Ob.box g2 #[.int .i64 0, .int .i64 0, .slice none 0 0, .slice none 0 0] 40, Ob.box g6 #[.int .i64 u0, .int .i64 u1, .slice B2_ m2.length k2, .slice B3_ m3.length k3] 40, Ob.box g1 #[.int .i64 a0, .int .i64 a1, .slice A2 l2.length c2, .slice A3 l3.length c3] 40] W))
 case atStart => exact ⟨[], 0, none, 0, _, rfl, Al, ⟨Nat.le_refl _⟩, ⟨Nat.le_refl _⟩, ⟨All.pushNilKids HA.out⟩⟩
 case round =>
  clear Al HA cc0 cc1 cc2 cc3
  obtain ⟨acc, i, BK, cK, N1, rfl, HL, HK1, HN1, HA⟩ := hrel
  cases gk with
  | zero => exact absurd HL.out (by simp [spec_l2Put.l0])
  | succ k1 =>
  have H := HL.out
  clear HL
  simp only [spec_l2Put.l0] at H
  by_cases c6 : i < (l3.length : Int)
  · rw [if_pos c6] at H
    have c6b : decide (i < (l3.length : Int)) = true := decide_eq_true c6
    by_cases c7 : ¬ (0 ≤ i)
    · rw [if_neg c7] at H; exact absurd H (by simp)
    replace c7 := Decidable.not_not.mp c7
    rw [if_pos c7] at H
    have c7b : decide (0 ≤ i) = true := decide_eq_true c7
    by_cases c8 : ¬ (acc.length < 2199023255552)
    · rw [if_neg c8] at H; exact absurd H (by simp)
    replace c8 := Decidable.not_not.mp c8
    rw [if_pos c8] at H
    obtain ⟨dd, Ad, H⟩ := Option.bind_eq_some_iff.mp H
    replace Ad := Aside0.mk Ad
    obtain ⟨⟨t1, t2, t3, t4⟩, A8, H⟩ := Option.bind_eq_some_iff.mp H
    dsimp only at H
    have LA := Aside0.mk c8
    replace A8 := Aside0.mk A8
    replace H := Aside0.mk H
    obtain ⟨ad, X2, d2, X3, d3, e1, hx0, hx1, hx2, hx3, hl2, hi2, hl3, hi3⟩ := at_T40 HR3.out i c7 c6
    cases e1
    have HS2 := Aside0.mk hi2
    have HD2 := Aside0.mk hl2
    have HS3 := Aside0.mk hi3
    have HD3 := Aside0.mk hl3
    have p_ := eq_true c7
    have q_ := eq_true c6
    clear hi2 hl2 hi3 hl3 c6 c7 c8
    obtain ⟨cc0, cc1, cc2, cc3⟩ := bc4_ HA.out.2.2.2.2.2.1.1
    go_upto_region 10 with (fail)
    clear cc0 cc1 cc2 cc3
    replace hx0 := Aside0.mk hx0
    replace hx1 := Aside0.mk hx1
    replace hx2 := Aside0.mk hx2
    replace hx3 := Aside0.mk hx3
    replace HA := Aside0.mk (All.drew HA.out)
    refine start_ (n := 20) (S := (fun w' => w'.heap[g3]? = some (.cells #[.int .i64 a0, .int .i64 n, .slice xt.A xt.n xt.c, .slice BK acc.length cK] 40 (0, 0)) ∧ w'.heap[g1]? = some (.cells #[.int .i64 a0, .int .i64 a1, .slice A2 l2.length c2, .slice (some ad) l3.length c3] 40 (0, 0)) ∧ w'.heap[g6]? = some (.cells #[.int .i64 u0, .int .i64 u1, .slice B2_ m2.length k2, .slice B3_ m3.length k3] 40 (0, 0)) ∧ w'.cell? (ad.add (i.toNat * 4)) = some (.int .i64 (rd_T40 l3 i).f0) ∧ w'.cell? ⟨(ad.add (i.toNat * 4)).block, (ad.add (i.toNat * 4)).off + 1, none⟩ = some (.int .i64 (rd_T40 l3 i).f1) ∧ w'.cell? ⟨(ad.add (i.toNat * 4)).block, (ad.add (i.toNat * 4)).off + 2, none⟩ = some (.slice X2 (rd_T40 l3 i).f2.length d2) ∧ w'.cell? ⟨(ad.add (i.toNat * 4)).block, (ad.add (i.toNat * 4)).off + 3, none⟩ = some (.slice X3 (rd_T40 l3 i).f3.length d3))) (ds := [19]) #[false, false, false, false, false, false, false, false, false, false, false, false, false, false, false, false, false, false, false, false] (by kernel_rfl) rfl rfl ⟨HA.out.2.2.1.1, HA.out.2.2.2.2.2.1.1, HA.out.2.2.2.2.1.1, ((HA.out.base.cell (World.block_lt_of_cell? w _ hx0.out)).trans hx0.out), ((HA.out.base.cell (World.block_lt_of_cell? w _ hx1.out)).trans hx1.out), ((HA.out.base.cell (World.block_lt_of_cell? w _ hx2.out)).trans hx2.out), ((HA.out.base.cell (World.block_lt_of_cell? w _ hx3.out)).trans hx3.out)⟩ (fun hHeld => ?_); refine with_tabW spec_l2Put.tab10 spec_l2Put.bits10 (fun HT_ HW_ => ?_)
    generalize wr.drew = w98 at HA hHeld ⊢
    refine pure_ (i := 0) (N := some 48) (v := ?_) (a' := ?_) #[true, false, false, false, false, false, false, false, false, false, false, false, false, false, false, false, false, false, false, false] rfl rfl (any_of HT_.out (by kernel_rfl)) (fun _ _ _ h => h) (Or.inl ⟨by rfl, ?_⟩) ?_ ?_
    rotate_left
    · intro w'
      go_simp
      with_reducible rfl
    rotate_left
    · simp only [Act.put, List.setIfInBounds_toArray, List.set_cons_zero, List.set_cons_succ, i64_w, i32_w]
      rfl
    refine take_ (i := 1) (N := some 49) (v := ?_) (a' := ?_) #[true, true, false, false, false, false, false, false, false, false, false, false, false, false, false, false, false, false, false, false] rfl rfl (take_ofW HT_.out HW_.out (by kernel_rfl)) (fun _ _ _ h => h) (Or.inl ⟨by rfl, ?_⟩) hHeld ?_ ?_
    rotate_left
    · rintro w' ⟨s0, s1, s2, s3, s4, s5, s6⟩
      obtain ⟨q00, q01, q02, q03⟩ := bc4_ s0
      obtain ⟨q10, q11, q12, q13⟩ := bc4_ s1
      obtain ⟨q20, q21, q22, q23⟩ := bc4_ s2
      go_simp
      with_reducible rfl
    rotate_left
    · simp only [Act.put, List.setIfInBounds_toArray, List.set_cons_zero, List.set_cons_succ, i64_w, i32_w]
      rfl
    refine pure_ (i := 2) (N := some 50) (v := ?_) (a' := ?_) #[true, true, true, false, false, false, false, false, false, false, false, false, false, false, false, false, false, false, false, false] rfl rfl (any_of HT_.out (by kernel_rfl)) (fun _ _ _ h => h) (Or.inl ⟨by rfl, ?_⟩) ?_ ?_
    rotate_left
    · intro w'
      go_simp
      with_reducible rfl
    rotate_left
    · simp only [Act.put, List.setIfInBounds_toArray, List.set_cons_zero, List.set_cons_succ, i64_w, i32_w]
      rfl
    refine take_ (i := 3) (N := some 51) (v := ?_) (a' := ?_) #[true, true, true, true, false, false, false, false, false, false, false, false, false, false, false, false, false, false, false, false] rfl rfl (take_ofW HT_.out HW_.out (by kernel_rfl)) (fun _ _ _ h => h) (Or.inl ⟨by rfl, ?_⟩) hHeld ?_ ?_
    rotate_left
    · rintro w' ⟨s0, s1, s2, s3, s4, s5, s6⟩
      obtain ⟨q00, q01, q02, q03⟩ := bc4_ s0
      obtain ⟨q10, q11, q12, q13⟩ := bc4_ s1
      obtain ⟨q20, q21, q22, q23⟩ := bc4_ s2
      go_simp
      with_reducible rfl
    rotate_left
    · simp only [Act.put, List.setIfInBounds_toArray, List.set_cons_zero, List.set_cons_succ, i64_w, i32_w]
      rfl
    refine pure_ (i := 4) (N := some 52) (v := ?_) (a' := ?_) #[true, true, true, true, true, false, false, false, false, false, false, false, false, false, false, false, false, false, false, false] rfl rfl (any_of HT_.out (by kernel_rfl)) (fun _ _ _ h => h) (Or.inl ⟨by rfl, ?_⟩) ?_ ?_
    rotate_left
    · intro w'
      go_simp
      with_reducible rfl
    rotate_left
    · simp only [Act.put, List.setIfInBounds_toArray, List.set_cons_zero, List.set_cons_succ, i64_w, i32_w]
      rfl
    refine pure_ (i := 5) (N := some 53) (v := ?_) (a' := ?_) #[true, true, true, true, true, true, false, false, false, false, false, false, false, false, false, false, false, false, false, false] rfl rfl (any_of HT_.out (by kernel_rfl)) (fun _ _ _ h => h) (Or.inl ⟨by rfl, ?_⟩) ?_ ?_
    rotate_left
    · intro w'
      go_simp
      with_reducible rfl
    rotate_left
    · simp only [Act.put, List.setIfInBounds_toArray, List.set_cons_zero, List.set_cons_succ, i64_w, i32_w]
      rfl
    refine take_ (i := 6) (N := some 54) (v := ?_) (a' := ?_) #[true, true, true, true, true, true, true, false, false, false, false, false, false, false, false, false, false, false, false, false] rfl rfl (take_ofW HT_.out HW_.out (by kernel_rfl)) (fun _ _ _ h => h) (Or.inl ⟨by rfl, ?_⟩) hHeld ?_ ?_
    rotate_left
    · rintro w' ⟨s0, s1, s2, s3, s4, s5, s6⟩
      obtain ⟨q00, q01, q02, q03⟩ := bc4_ s0
      obtain ⟨q10, q11, q12, q13⟩ := bc4_ s1
      obtain ⟨q20, q21, q22, q23⟩ := bc4_ s2
      go_simp
      with_reducible rfl
    rotate_left
    · simp only [Act.put, List.setIfInBounds_toArray, List.set_cons_zero, List.set_cons_succ, i64_w, i32_w]
      rfl
    refine pure_ (i := 7) (N := some 55) (v := ?_) (a' := ?_) #[true, true, true, true, true, true, true, true, false, false, false, false, false, false, false, false, false, false, false, false] rfl rfl (any_of HT_.out (by kernel_rfl)) (fun _ _ _ h => h) (Or.inl ⟨by rfl, ?_⟩) ?_ ?_
    rotate_left
    · intro w'
      go_simp
      with_reducible rfl
    rotate_left
    · simp only [Act.put, List.setIfInBounds_toArray, List.set_cons_zero, List.set_cons_succ, i64_w, i32_w]
      rfl
    refine take_ (i := 8) (N := some 56) (v := ?_) (a' := ?_) #[true, true, true, true, true, true, true, true, true, false, false, false, false, false, false, false, false, false, false, false] rfl rfl (take_ofW HT_.out HW_.out (by kernel_rfl)) (fun _ _ _ h => h) (Or.inl ⟨by rfl, ?_⟩) hHeld ?_ ?_
    rotate_left
    · rintro w' ⟨s0, s1, s2, s3, s4, s5, s6⟩
      obtain ⟨q00, q01, q02, q03⟩ := bc4_ s0
      obtain ⟨q10, q11, q12, q13⟩ := bc4_ s1
      obtain ⟨q20, q21, q22, q23⟩ := bc4_ s2
      go_simp
      with_reducible rfl
    rotate_left
    · simp only [Act.put, List.setIfInBounds_toArray, List.set_cons_zero, List.set_cons_succ, i64_w, i32_w]
      rfl
    refine pure_ (i := 9) (N := some 57) (v := ?_) (a' := ?_) #[true, true, true, true, true, true, true, true, true, true, false, false, false, false, false, false, false, false, false, false] rfl rfl (any_of HT_.out (by kernel_rfl)) (fun _ _ _ h => h) (Or.inl ⟨by rfl, ?_⟩) ?_ ?_
    rotate_left
    · intro w'
      go_simp
      with_reducible rfl
    rotate_left
    · simp only [Act.put, List.setIfInBounds_toArray, List.set_cons_zero, List.set_cons_succ, i64_w, i32_w]
      rfl
    refine pure_ (i := 10) (N := some 58) (v := ?_) (a' := ?_) #[true, true, true, true, true, true, true, true, true, true, true, false, false, false, false, false, false, false, false, false] rfl rfl (any_of HT_.out (by kernel_rfl)) (fun _ _ _ h => h) (Or.inl ⟨by rfl, ?_⟩) ?_ ?_
    rotate_left
    · intro w'
      go_simp
      with_reducible rfl
    rotate_left
    · simp only [Act.put, List.setIfInBounds_toArray, List.set_cons_zero, List.set_cons_succ, i64_w, i32_w]
      rfl
    refine take_ (i := 11) (N := some 59) (v := ?_) (a' := ?_) #[true, true, true, true, true, true, true, true, true, true, true, true, false, false, false, false, false, false, false, false] rfl rfl (take_ofW HT_.out HW_.out (by kernel_rfl)) (fun _ _ _ h => h) (Or.inl ⟨by rfl, ?_⟩) hHeld ?_ ?_
    rotate_left
    · rintro w' ⟨s0, s1, s2, s3, s4, s5, s6⟩
      obtain ⟨q00, q01, q02, q03⟩ := bc4_ s0
      obtain ⟨q10, q11, q12, q13⟩ := bc4_ s1
      obtain ⟨q20, q21, q22, q23⟩ := bc4_ s2
      go_simp
      with_reducible rfl
    rotate_left
    · simp only [Act.put, List.setIfInBounds_toArray, List.set_cons_zero, List.set_cons_succ, i64_w, i32_w]
      rfl
    refine pure_ (i := 12) (N := some 60) (v := ?_) (a' := ?_) #[true, true, true, true, true, true, true, true, true, true, true, true, true, false, false, false, false, false, false, false] rfl rfl (any_of HT_.out (by kernel_rfl)) (fun _ _ _ h => h) (Or.inl ⟨by rfl, ?_⟩) ?_ ?_
    rotate_left
    · intro w'
      go_simp
      with_reducible rfl
    rotate_left
    · simp only [Act.put, List.setIfInBounds_toArray, List.set_cons_zero, List.set_cons_succ, i64_w, i32_w]
      rfl
    refine one_ (i := 13) (N := some 61) #[true, true, true, true, true, true, true, true, true, true, true, true, true, true, false, false, false, false, false, false] rfl rfl (one_of HT_.out (by kernel_rfl)) (by decide) (fun K hK => ?_)
    refine goes_ Try.func93 (by kernel_rfl) rfl #[.int .i64 a0, .int .i64 i] (by rfl) rfl rfl la_ ?_
    refine (spec_l2Adds.calls _ a0 i dd _ Ad.out).mono ?_
    rintro e w99 ⟨rfl, hd⟩
    refine ⟨_, rfl, ?_⟩
    have hb := below_of_drawn hd
    clear hd
    have n_ := Aside0.mk (All.below (by first | exact HA.out | exact All.drewN HA.out _ | exact All.drew HA.out) hb)
    clear HA
    have HA := n_
    clear n_ hb
    refine hK.out _ _ ⟨HA.out.2.2.1.1, HA.out.2.2.2.2.2.1.1, HA.out.2.2.2.2.1.1, ((HA.out.base.cell (World.block_lt_of_cell? w _ hx0.out)).trans hx0.out), ((HA.out.base.cell (World.block_lt_of_cell? w _ hx1.out)).trans hx1.out), ((HA.out.base.cell (World.block_lt_of_cell? w _ hx2.out)).trans hx2.out), ((HA.out.base.cell (World.block_lt_of_cell? w _ hx3.out)).trans hx3.out)⟩ (fun hHeld => ?_)
    clear hK K
    refine norm_ (a' := ?_) ?_ ?_
    rotate_left
    · show Act.put _ (some 61) _ = _
      simp only [Act.put, List.setIfInBounds_toArray, List.set_cons_zero, List.set_cons_succ, i64_w, i32_w]
      rfl
    refine pure_ (i := 14) (N := some 62) (v := ?_) (a' := ?_) #[true, true, true, true, true, true, true, true, true, true, true, true, true, true, true, false, false, false, false, false] rfl rfl (any_of HT_.out (by kernel_rfl)) (fun _ _ _ h => h) (Or.inl ⟨by rfl, ?_⟩) ?_ ?_
    rotate_left
    · intro w'
      go_simp
      with_reducible rfl
    rotate_left
    · simp only [Act.put, List.setIfInBounds_toArray, List.set_cons_zero, List.set_cons_succ, i64_w, i32_w]
      rfl
    refine one_ (i := 15) (N := some 63) #[true, true, true, true, true, true, true, true, true, true, true, true, true, true, true, true, false, false, false, false] rfl rfl (one_of HT_.out (by kernel_rfl)) (by decide) (fun K hK => ?_)
    have NL := Aside0.mk (show N1 ≤ w99.heap.size from HA.out.1.2.1)
    refine goes_ Try.func72 (by kernel_rfl) rfl #[.agg #[.int .i64 (rd_T40 l3 i).f0, .int .i64 (rd_T40 l3 i).f1, .slice X2 (rd_T40 l3 i).f2.length d2, .slice X3 (rd_T40 l3 i).f3.length d3], .int .i64 iv, .agg #[.int .i64 u0, .int .i64 u1, .slice B2_ m2.length k2, .slice B3_ m3.length k3], .int .i64 (wrap64 (d + dd))] (by rfl) rfl rfl la_ ?_
    refine (ih k1 (by have := HK1.out; omega) _ _ _ _ (rd_T40 l3 i).f2 _ _ (rd_T40 l3 i).f3 iv u0 u1 _ _ m2 _ _ m3 (wrap64 (d + dd)) t1 t2 t3 t4 _ (Kd.C_below HS2.out (by first | exact All.base HA.out | exact pw_below_drewN (All.base HA.out) _ | exact below_drew1 (All.base HA.out))) HD2.out (Kd.C_below HS3.out (by first | exact All.base HA.out | exact pw_below_drewN (All.base HA.out) _ | exact below_drew1 (All.base HA.out))) HD3.out (Kd.C_below HR4.out (by first | exact All.base HA.out | exact pw_below_drewN (All.base HA.out) _ | exact below_drew1 (All.base HA.out))) HC4.out (Kd.C_below HR5.out (by first | exact All.base HA.out | exact pw_below_drewN (All.base HA.out) _ | exact below_drew1 (All.base HA.out))) HC5.out A8.out).mono ?_
    rintro e w100 ⟨v2, v3, f, rfl, hr, hb⟩
    refine ⟨_, rfl, ?_⟩
    obtain ⟨B2, e2, rfl⟩ := Kd.R_slice hr.1
    obtain ⟨B3, e3, rfl⟩ := Kd.S_slice hr.2
    have n_ := Aside0.mk (All.pushMade (by first | exact HA.out | exact All.drewN HA.out _ | exact All.drew HA.out) hb hr)
    clear HA
    have HA := n_
    clear n_ hb hr
    refine hK.out _ _ ⟨HA.out.2.2.2.1.1, HA.out.2.2.2.2.2.2.1.1, HA.out.2.2.2.2.2.1.1, ((HA.out.base.cell (World.block_lt_of_cell? w _ hx0.out)).trans hx0.out), ((HA.out.base.cell (World.block_lt_of_cell? w _ hx1.out)).trans hx1.out), ((HA.out.base.cell (World.block_lt_of_cell? w _ hx2.out)).trans hx2.out), ((HA.out.base.cell (World.block_lt_of_cell? w _ hx3.out)).trans hx3.out)⟩ (fun hHeld => ?_)
    clear hK K
    refine norm_ (a' := ?_) ?_ ?_
    rotate_left
    · show Act.put _ (some 63) _ = _
      simp only [Act.put, List.setIfInBounds_toArray, List.set_cons_zero, List.set_cons_succ, i64_w, i32_w]
      rfl
    refine one_ (i := 16) (N := some 64) #[true, true, true, true, true, true, true, true, true, true, true, true, true, true, true, true, true, false, false, false] rfl rfl (one_of HT_.out (by kernel_rfl)) (by decide) (fun K hK => ?_)
    refine value_ (w1 := ?_) (v := ?_) (by rfl) rfl ?_ ?_
    rotate_left 2
    · go_simp
      constructor
      · rfl
      · rfl
    refine hK.out _ _ ⟨(blk_alloc HA.out.2.2.2.1.1 _), (blk_alloc HA.out.2.2.2.2.2.2.1.1 _), (blk_alloc HA.out.2.2.2.2.2.1.1 _), ((below_alloc HA.out.base _).cell (World.block_lt_of_cell? w _ hx0.out)).trans hx0.out, ((below_alloc HA.out.base _).cell (World.block_lt_of_cell? w _ hx1.out)).trans hx1.out, ((below_alloc HA.out.base _).cell (World.block_lt_of_cell? w _ hx2.out)).trans hx2.out, ((below_alloc HA.out.base _).cell (World.block_lt_of_cell? w _ hx3.out)).trans hx3.out⟩ (fun hHeld => ?_)
    clear hK K
    refine norm_ (a' := ?_) ?_ ?_
    rotate_left
    · show Act.put _ (some 64) _ = _
      simp only [Act.put, List.setIfInBounds_toArray, List.set_cons_zero, List.set_cons_succ, i64_w, i32_w]
      rfl
    refine one_ (i := 17) (N := some 65) #[true, true, true, true, true, true, true, true, true, true, true, true, true, true, true, true, true, true, false, false] rfl rfl (one_of HT_.out (by kernel_rfl)) (by decide) (fun K hK => ?_)
    refine Kd.S_append_step kT (w0 := w) w.heap.size (by rfl) (.tmp 49) (.tmp 64) 38 40 (.agg #[.int .i64 0, .int .i64 0, .slice none 0 0, .slice none 0 0]) 64 rfl Try.underlying38 info40 rfl (by decide) (by omega) (.slice BK acc.length cK) acc ⟨t1, t2, t3, t4⟩ [.int .i64 t1, .int .i64 t2, .slice B2 t3.length e2, .slice B3 t4.length e3] (fun k_ => wc.heap.size ≤ k_) (fun k_ => w99.heap.size ≤ k_ ∧ k_ < w100.heap.size) rfl (by first | (go_simp; done) | (go_simp; rfl) | rfl) ?aP ?hokp ?aF ?aO ?aB ?aS ?aL ?_
    (case aP => exact made_M HA.out.1.1 t1 t2)
    (case hokp => intro k_ hk; have := NL.out; have := HN1.out; exact ⟨by omega, fun he => by have := (HA.out.2.1.1.choose_spec.1 k_ he.symm).2; omega⟩)
    (case aF => intro k_ hk; have := HN1.out; have := HA.out.2.1.2.1; show wc.heap.size ≤ k_; simp only [Ob.kids] at this; omega)
    (case aO => exact Kd.S_mono HA.out.2.1.1 (fun k_ hk => ⟨hk.1, fun h2 => by have := NL.out; omega⟩))
    (case aB => exact (by first | exact All.base HA.out | exact pw_below_drewN (All.base HA.out) _ | exact below_drew1 (All.base HA.out)))
    (case aS => exact (All.base HA.out).size)
    (case aL => have := LA.out; omega)
    intro v1 w101 ho hb hg hat
    obtain ⟨B4, e4, rfl⟩ := Kd.S_slice ho
    have HM := Aside0.mk (Nat.le_trans HN1.out (Nat.le_trans HA.out.2.1.2.1 hg.size))
    have n_ := Aside0.mk (All.next HA.out.2 HN.out HW.out hg hb ho)
    clear HA
    have HA := n_
    clear n_ ho hb hg hat
    refine hK.out _ _ ⟨HA.out.2.2.1.1, HA.out.2.2.2.2.2.1.1, HA.out.2.2.2.2.1.1, ((HA.out.base.cell (World.block_lt_of_cell? w _ hx0.out)).trans hx0.out), ((HA.out.base.cell (World.block_lt_of_cell? w _ hx1.out)).trans hx1.out), ((HA.out.base.cell (World.block_lt_of_cell? w _ hx2.out)).trans hx2.out), ((HA.out.base.cell (World.block_lt_of_cell? w _ hx3.out)).trans hx3.out)⟩ (fun hHeld => ?_)
    clear hK K
    refine norm_ (a' := ?_) ?_ ?_
    rotate_left
    · show Act.put _ (some 65) _ = _
      simp only [Act.put, List.setIfInBounds_toArray, List.set_cons_zero, List.set_cons_succ, i64_w, i32_w]
      rfl
    refine pure_ (i := 18) (N := some 66) (v := ?_) (a' := ?_) #[true, true, true, true, true, true, true, true, true, true, true, true, true, true, true, true, true, true, true, false] rfl rfl (any_of HT_.out (by kernel_rfl)) (fun _ _ _ h => h) (Or.inl ⟨by rfl, ?_⟩) ?_ ?_
    rotate_left
    · intro w'
      go_simp
      with_reducible rfl
    rotate_left
    · simp only [Act.put, List.setIfInBounds_toArray, List.set_cons_zero, List.set_cons_succ, i64_w, i32_w]
      rfl
    refine last_ (i := 19) (N := none) #[true, true, true, true, true, true, true, true, true, true, true, true, true, true, true, true, true, true, true, true] rfl rfl (one_of HT_.out (by kernel_rfl)) (by decide) (fun K hK => ?_)
    obtain ⟨cb0, cb1, cb2, cb3, cb4, cb5, cb6, cb7⟩ := bf4_ HA.out.2.2.1.1
    refine skip_ (w1 := ?_) (by rfl) rfl ?_ ?_
    rotate_left
    · go_simp
      rfl
    refine hK.out _ _ ?_
    clear hK K hHeld
    refine done_ (done_of HT_.out (by kernel_rfl)) ?_
    go_wp2
    go_roundg k1
    case measure => have := HK1.out; omega
    case rel => exact ⟨_, _, _, _, _, rfl, H, ⟨by have := HK1.out; omega⟩, HM, ⟨All.put (l1 := [_, _]) HA.out 3 _ (by rw [List.length_append]; rfl)⟩⟩
  · rw [if_neg c6] at H
    have c6b : decide (i < (l3.length : Int)) = false := decide_eq_false c6
    obtain rfl := Option.some.inj H
    clear H c6
    obtain ⟨cc0, cc1, cc2, cc3⟩ := bc4_ HA.out.2.2.2.2.2.1.1
    obtain ⟨ca0, ca1, ca2, ca3⟩ := bc4_ HA.out.2.2.1.1
    obtain ⟨cz0, cz1, cz2, cz3, cz4, cz5, cz6, cz7⟩ := bf4_ HA.out.2.2.2.1.1
    go_wp2
    have nA := All.set4 (l1 := [_, _, _]) HA.out (.int .i64 a0) (.int .i64 n) (.slice xt.A xt.n xt.c) (.slice BK acc.length cK)
    refine bodyPost_ret (results_cell_row rfl _ _ g2 40 #[.int .i64 a0, .int .i64 n, .slice xt.A xt.n xt.c, .slice BK acc.length cK] (0, 0) _ rfl nA.2.2.2.1.1 Try.underlying40 rfl (by kernel_rfl)) rfl ?_
    obtain ⟨f, hf⟩ := made_of nA.2.1.1 nA.1.1 (Or.inl (HN.out _ List.mem_cons_self))
    first | exact ⟨_, _, f, rfl, hf, nA.base⟩ | exact ⟨_, _, rfl, ⟨f, hf⟩, nA.base⟩
def spec_SubstituteTerm.f (k : Nat) (a0 a1 : Int) (l2 : List Int) (l3 : List S40) (i : Int) (u0 u1 : Int) (m2 : List Int) (m3 : List S40) : Option (Int × Int × List Int × List S40 × Bool) := (spec_IsWritten.f k a0 a1 l2 l3).bind fun b => (spec_IsWritten.f k u0 u1 m2 m3).bind fun bu => if b = false ∨ bu = false ∨ i < 0 then some (0, 0, [], [], false) else (spec_l1Min.f i 8).bind fun m => (spec_l2Fits.f k a0 a1 l2 l3 m u0 u1 m2 m3).bind fun ft => if ft = false then some (0, 0, [], [], false) else (spec_l2Put.f k a0 a1 l2 l3 m u0 u1 m2 m3 0).bind fun q => (spec_IsWritten.f k q.1 q.2.1 q.2.2.1 q.2.2.2).bind fun b2 => if b2 = false then some (0, 0, [], [], false) else some (q.1, q.2.1, q.2.2.1, q.2.2.2, true)
set_option maxHeartbeats 8000000 in
set_option maxRecDepth 100000 in
theorem spec_SubstituteTerm.calls (k : Nat) (a0 a1 : Int) (A2 : Option Addr) (c2 : Nat) (l2 : List Int) (A3 : Option Addr) (c3 : Nat) (l3 : List S40) (i : Int) (u0 u1 : Int) (B2_ : Option Addr) (k2 : Nat) (m2 : List Int) (B3_ : Option Addr) (k3 : Nat) (m3 : List S40) (r1 r2 : Int) (r3 : List Int) (r4 : List S40) (r5 : Bool) (w : World) (hr2 : Kd.C (Kd.int .i64) w A2 l2.length l2) (hc2 : l2.length ≤ c2) (hr3 : Kd.C k40 w A3 l3.length l3) (hc3 : l3.length ≤ c3) (hr4 : Kd.C (Kd.int .i64) w B2_ m2.length m2) (hc4 : m2.length ≤ k2) (hr5 : Kd.C k40 w B3_ m3.length m3) (hc5 : m3.length ≤ k3) (h : spec_SubstituteTerm.f k a0 a1 l2 l3 i u0 u1 m2 m3 = some (r1, r2, r3, r4, r5)) :
  Calls Try.prog 27 #[.agg #[.int .i64 a0, .int .i64 a1, .slice A2 l2.length c2, .slice A3 l3.length c3], .int .i64 i, .agg #[.int .i64 u0, .int .i64 u1, .slice B2_ m2.length k2, .slice B3_ m3.length k3]] w fun e w' => ∃ (v2 v3 : Value) (f : Nat → Bool), e = .returned (.tuple #[.agg #[.int .i64 r1, .int .i64 r2, v2, v3], .bool r5]) ∧ Made w' w.heap.size f v2 v3 r3 r4 ∧ Below w.heap.size w w' := by
 unfold spec_SubstituteTerm.f at h
 obtain ⟨b, Ab, h⟩ := Option.bind_eq_some_iff.mp h
 obtain ⟨bu, Abu, h⟩ := Option.bind_eq_some_iff.mp h
 have hu40 := Try.underlying40
 have HR2 := Aside0.mk hr2
 have HC2 := Aside0.mk hc2
 clear hr2 hc2
 have HR3 := Aside0.mk hr3
 have HC3 := Aside0.mk hc3
 clear hr3 hc3
 have HR4 := Aside0.mk hr4
 have HC4 := Aside0.mk hc4
 clear hr4 hc4
 have HR5 := Aside0.mk hr5
 have HC5 := Aside0.mk hc5
 clear hr5 hc5
 replace Ab := Aside0.mk Ab
 replace Abu := Aside0.mk Abu
 have H := Aside0.mk h
 clear h
 have HA := Aside0.mk (show All w [] w from Below.refl w.heap.size w)
 go_enter Try.func27, Try.ntmps27
 go_upto_region 1 with (first | ((with_reducible refine gate_dst (N := 3) rfl ?_); (try (refine gate_guard (by rfl) ?_; dsimp only)); refine box_event ?hg (N := 3) ?hd (cs := #[.int .i64 a0, .int .i64 a1, .slice A2 l2.length c2, .slice A3 l3.length c3]) (t := 40) ?hr ?_; (case hd => rfl); (case hg => rfl); (case hr => first | (go_simp; done) | (go_simp; rfl)); intro g3 hg w102 hbox hb; have n_ := Aside0.mk (All.box (by first | exact HA.out | exact All.drewN HA.out _ | exact All.drew HA.out) hg hbox hb); clear HA; have HA := n_; clear n_ hg hbox hb) | ((with_reducible refine gate_dst (N := 5) rfl ?_); (try (refine gate_guard (by rfl) ?_; dsimp only)); refine box_event ?hg (N := 5) ?hd (cs := #[.int .i64 u0, .int .i64 u1, .slice B2_ m2.length k2, .slice B3_ m3.length k3]) (t := 40) ?hr ?_; (case hd => rfl); (case hg => rfl); (case hr => first | (go_simp; done) | (go_simp; rfl)); intro g5 hg w103 hbox hb; have n_ := Aside0.mk (All.box (by first | exact HA.out | exact All.drewN HA.out _ | exact All.drew HA.out) hg hbox hb); clear HA; have HA := n_; clear n_ hg hbox hb) | ((with_reducible refine gate_dst (N := 6) rfl ?_); (try (refine gate_guard (by rfl) ?_; dsimp only)); refine box_event ?hg (N := 6) ?hd (cs := #[.int .i64 0, .int .i64 0, .slice none 0 0, .slice none 0 0]) (t := 40) ?hr ?_; (case hd => rfl); (case hg => rfl); (case hr => first | (go_simp; done) | (go_simp; rfl)); intro g6 hg w104 hbox hb; have n_ := Aside0.mk (All.box (by first | exact HA.out | exact All.drewN HA.out _ | exact All.drew HA.out) hg hbox hb); clear HA; have HA := n_; clear n_ hg hbox hb))
 obtain ⟨cnd, hcnd⟩ : ∃ c, c = decide (b = false ∨ bu = false ∨ i < 0) := ⟨_, rfl⟩
 have CN := Aside0.mk hcnd
 clear hcnd
 go_cut [20] (fun v20 wc => v20 = .bool cnd ∧ All w [Ob.box g6 #[.int .i64 0, .int .i64 0, .slice none 0 0, .slice none 0 0] 40, Ob.box g5 #[.int .i64 u0, .int .i64 u1, .slice B2_ m2.length k2, .slice B3_ m3.length k3] 40, Ob.box g3 #[.int .i64 a0, .int .i64 a1, .slice A2 l2.length c2, .slice A3 l3.length c3] 40] wc)
 case first =>
  obtain ⟨ca0, ca1, ca2, ca3⟩ := bc4_ HA.out.2.2.1.1
  obtain ⟨cu0, cu1, cu2, cu3⟩ := bc4_ HA.out.2.1.1
  cases b
  · go_wp2_with (first | ((with_reducible refine gate_callee (f := 60) rfl ?_); refine goesL_ (some 10) rfl rfl Try.func60 (by kernel_rfl) rfl #[.agg #[.int .i64 a0, .int .i64 a1, .slice A2 l2.length c2, .slice A3 l3.length c3]] rfl la_ ?_; (refine (spec_IsWritten.calls k _ _ _ _ l2 _ _ l3 false _ (Kd.C_below HR2.out (by first | exact All.base HA.out | exact pw_below_drewN (All.base HA.out) _ | exact below_drew1 (All.base HA.out))) HC2.out (Kd.C_below HR3.out (by first | exact All.base HA.out | exact pw_below_drewN (All.base HA.out) _ | exact below_drew1 (All.base HA.out))) HC3.out Ab.out).mono ?_); rintro e w105 ⟨rfl, hb⟩; refine ⟨_, rfl, ?_⟩; have n_ := Aside0.mk (All.below (by first | exact HA.out | exact All.drewN HA.out _ | exact All.drew HA.out) hb); clear HA; have HA := n_; clear n_ hb; clear cu0 cu1 cu2 cu3; obtain ⟨cu0, cu1, cu2, cu3⟩ := bc4_ HA.out.2.1.1))
    go_meet
    case rel => exact ⟨by rw [CN.out]; simp, (by first | exact HA.out | exact All.drewN HA.out _ | exact All.drew HA.out)⟩
  · cases bu
    · go_wp2_with (first | ((with_reducible refine gate_callee (f := 60) rfl ?_); refine goesL_ (some 10) rfl rfl Try.func60 (by kernel_rfl) rfl #[.agg #[.int .i64 a0, .int .i64 a1, .slice A2 l2.length c2, .slice A3 l3.length c3]] rfl la_ ?_; (refine (spec_IsWritten.calls k _ _ _ _ l2 _ _ l3 true _ (Kd.C_below HR2.out (by first | exact All.base HA.out | exact pw_below_drewN (All.base HA.out) _ | exact below_drew1 (All.base HA.out))) HC2.out (Kd.C_below HR3.out (by first | exact All.base HA.out | exact pw_below_drewN (All.base HA.out) _ | exact below_drew1 (All.base HA.out))) HC3.out Ab.out).mono ?_); rintro e w106 ⟨rfl, hb⟩; refine ⟨_, rfl, ?_⟩; have n_ := Aside0.mk (All.below (by first | exact HA.out | exact All.drewN HA.out _ | exact All.drew HA.out) hb); clear HA; have HA := n_; clear n_ hb; clear cu0 cu1 cu2 cu3; obtain ⟨cu0, cu1, cu2, cu3⟩ := bc4_ HA.out.2.1.1) | (go_at_call 60; (refine (spec_IsWritten.calls k _ _ _ _ m2 _ _ m3 false _ (Kd.C_below HR4.out (by first | exact All.base HA.out | exact pw_below_drewN (All.base HA.out) _ | exact below_drew1 (All.base HA.out))) HC4.out (Kd.C_below HR5.out (by first | exact All.base HA.out | exact pw_below_drewN (All.base HA.out) _ | exact below_drew1 (All.base HA.out))) HC5.out Abu.out).mono ?_); rintro e w107 ⟨rfl, hb⟩; have n_ := Aside0.mk (All.below (by first | exact HA.out | exact All.drewN HA.out _ | exact All.drew HA.out) hb); clear HA; have HA := n_; clear n_ hb))
      go_meet
      case rel => exact ⟨by rw [CN.out]; simp, (by first | exact HA.out | exact All.drewN HA.out _ | exact All.drew HA.out)⟩
    · have cc := CN.out
      rw [show decide (true = false ∨ true = false ∨ i < 0) = decide (i < 0) from decide_eq_decide.mpr ⟨fun h => by rcases h with h | h | h; cases h; cases h; exact h, fun h => Or.inr (Or.inr h)⟩] at cc
      have CD := Aside0.mk cc
      clear cc
      go_wp2_with (first | ((with_reducible refine gate_callee (f := 60) rfl ?_); refine goesL_ (some 10) rfl rfl Try.func60 (by kernel_rfl) rfl #[.agg #[.int .i64 a0, .int .i64 a1, .slice A2 l2.length c2, .slice A3 l3.length c3]] rfl la_ ?_; (refine (spec_IsWritten.calls k _ _ _ _ l2 _ _ l3 true _ (Kd.C_below HR2.out (by first | exact All.base HA.out | exact pw_below_drewN (All.base HA.out) _ | exact below_drew1 (All.base HA.out))) HC2.out (Kd.C_below HR3.out (by first | exact All.base HA.out | exact pw_below_drewN (All.base HA.out) _ | exact below_drew1 (All.base HA.out))) HC3.out Ab.out).mono ?_); rintro e w108 ⟨rfl, hb⟩; refine ⟨_, rfl, ?_⟩; have n_ := Aside0.mk (All.below (by first | exact HA.out | exact All.drewN HA.out _ | exact All.drew HA.out) hb); clear HA; have HA := n_; clear n_ hb; clear cu0 cu1 cu2 cu3; obtain ⟨cu0, cu1, cu2, cu3⟩ := bc4_ HA.out.2.1.1) | (go_at_call 60; (refine (spec_IsWritten.calls k _ _ _ _ m2 _ _ m3 true _ (Kd.C_below HR4.out (by first | exact All.base HA.out | exact pw_below_drewN (All.base HA.out) _ | exact below_drew1 (All.base HA.out))) HC4.out (Kd.C_below HR5.out (by first | exact All.base HA.out | exact pw_below_drewN (All.base HA.out) _ | exact below_drew1 (All.base HA.out))) HC5.out Abu.out).mono ?_); rintro e w109 ⟨rfl, hb⟩; have n_ := Aside0.mk (All.below (by first | exact HA.out | exact All.drewN HA.out _ | exact All.drew HA.out) hb); clear HA; have HA := n_; clear n_ hb))
      go_meet
      case rel => exact ⟨by rw [CD.out], (by first | exact HA.out | exact All.drewN HA.out _ | exact All.drew HA.out)⟩
 case rest =>
 obtain ⟨rfl, hA⟩ := hcut
 clear HA
 have HA := Aside0.mk hA
 clear hA Ab Abu
 by_cases hc : cnd = true
 · have h := H.out
   clear H
   rw [if_pos (of_decide_eq_true (CN.out.symm.trans hc))] at h
   simp only [Option.some.injEq, Prod.mk.injEq] at h
   obtain ⟨rfl, rfl, rfl, rfl, rfl⟩ := h
   subst hc
   clear CN
   obtain ⟨cz0, cz1, cz2, cz3, cz4, cz5, cz6, cz7⟩ := bf4_ HA.out.1.1
   go_wp2
   have nA := All.set4 (l1 := []) HA.out (.int .i64 0) (.int .i64 0) (.slice none 0 0) (.slice none 0 0)
   refine bodyPost_ret (results_ct rfl _ _ g6 40 #[.int .i64 0, .int .i64 0, .slice none 0 0, .slice none 0 0] (0, 0) _ rfl nA.1.1 Try.underlying40 rfl (by kernel_rfl)) rfl ?_
   first | exact ⟨_, _, _, rfl, made_nil, nA.base⟩ | exact ⟨_, _, rfl, ⟨_, made_nil⟩, nA.base⟩
 have h := H.out
 clear H
 rw [if_neg (fun h => hc (CN.out.trans (decide_eq_true h)))] at h
 replace hc := Bool.eq_false_iff.mpr hc
 subst hc
 clear CN
 obtain ⟨m, Am, h⟩ := Option.bind_eq_some_iff.mp h
 obtain ⟨ft, Af, h⟩ := Option.bind_eq_some_iff.mp h
 replace Am := Aside0.mk Am
 replace Af := Aside0.mk Af
 have H := Aside0.mk h
 clear h
 obtain ⟨ca0, ca1, ca2, ca3⟩ := bc4_ HA.out.2.2.1.1
 obtain ⟨cu0, cu1, cu2, cu3⟩ := bc4_ HA.out.2.1.1
 go_upto_region 4 with (first | ((with_reducible refine gate_callee (f := 69) rfl ?_); refine goesL_ (some 23) rfl rfl Try.func69 (by kernel_rfl) rfl #[.int .i64 i, .int .i64 8] rfl la_ ?_; (refine (spec_l1Min.calls i 8 m _ Am.out).mono ?_); rintro e w110 ⟨rfl, hd⟩; refine ⟨_, rfl, ?_⟩; have hb := below_of_drawn hd; clear hd; have n_ := Aside0.mk (All.below (by first | exact HA.out | exact All.drewN HA.out _ | exact All.drew HA.out) hb); clear HA; have HA := n_; clear n_ hb))
 clear ca0 ca1 ca2 ca3 cu0 cu1 cu2 cu3
 obtain ⟨ca0, ca1, ca2, ca3⟩ := bc4_ HA.out.2.2.1.1
 obtain ⟨cu0, cu1, cu2, cu3⟩ := bc4_ HA.out.2.1.1
 go_upto_if 28 with (first | ((with_reducible refine gate_callee (f := 71) rfl ?_); refine goesL_ (some 27) rfl rfl Try.func71 (by kernel_rfl) rfl #[.agg #[.int .i64 a0, .int .i64 a1, .slice A2 l2.length c2, .slice A3 l3.length c3], .int .i64 m, .agg #[.int .i64 u0, .int .i64 u1, .slice B2_ m2.length k2, .slice B3_ m3.length k3]] rfl la_ ?_; (refine (spec_l2Fits.calls k _ _ _ _ l2 _ _ l3 m _ _ _ _ m2 _ _ m3 ft _ (Kd.C_below HR2.out (by first | exact All.base HA.out | exact pw_below_drewN (All.base HA.out) _ | exact below_drew1 (All.base HA.out))) HC2.out (Kd.C_below HR3.out (by first | exact All.base HA.out | exact pw_below_drewN (All.base HA.out) _ | exact below_drew1 (All.base HA.out))) HC3.out (Kd.C_below HR4.out (by first | exact All.base HA.out | exact pw_below_drewN (All.base HA.out) _ | exact below_drew1 (All.base HA.out))) HC4.out (Kd.C_below HR5.out (by first | exact All.base HA.out | exact pw_below_drewN (All.base HA.out) _ | exact below_drew1 (All.base HA.out))) HC5.out Af.out).mono ?_); rintro e w111 ⟨rfl, hb⟩; refine ⟨_, rfl, ?_⟩; have n_ := Aside0.mk (All.below (by first | exact HA.out | exact All.drewN HA.out _ | exact All.drew HA.out) hb); clear HA; have HA := n_; clear n_ hb))
 clear ca0 ca1 ca2 ca3 cu0 cu1 cu2 cu3
 by_cases hf : ft = true
 rotate_left
 · replace hf := Bool.eq_false_iff.mpr hf
   subst hf
   have h := H.out
   clear H
   rw [if_pos rfl] at h
   simp only [Option.some.injEq, Prod.mk.injEq] at h
   obtain ⟨rfl, rfl, rfl, rfl, rfl⟩ := h
   obtain ⟨cz0, cz1, cz2, cz3, cz4, cz5, cz6, cz7⟩ := bf4_ HA.out.1.1
   go_wp2
   have nA := All.set4 (l1 := []) HA.out (.int .i64 0) (.int .i64 0) (.slice none 0 0) (.slice none 0 0)
   refine bodyPost_ret (results_ct rfl _ _ g6 40 #[.int .i64 0, .int .i64 0, .slice none 0 0, .slice none 0 0] (0, 0) _ rfl nA.1.1 Try.underlying40 rfl (by kernel_rfl)) rfl ?_
   first | exact ⟨_, _, _, rfl, made_nil, nA.base⟩ | exact ⟨_, _, rfl, ⟨_, made_nil⟩, nA.base⟩
 subst hf
 have h := H.out
 clear H
 rw [if_neg (by decide)] at h
 obtain ⟨⟨t1, t2, t3, t4⟩, As, h⟩ := Option.bind_eq_some_iff.mp h
 obtain ⟨b2, Ab2, h⟩ := Option.bind_eq_some_iff.mp h
 dsimp only at Ab2 h
 replace As := Aside0.mk As
 replace Ab2 := Aside0.mk Ab2
 have H := Aside0.mk h
 clear h
 obtain ⟨ca0, ca1, ca2, ca3⟩ := bc4_ HA.out.2.2.1.1
 obtain ⟨cu0, cu1, cu2, cu3⟩ := bc4_ HA.out.2.1.1
 go_upto_region 7 with (first | ((with_reducible refine gate_callee (f := 72) rfl ?_); refine goesL_ (some 33) rfl rfl Try.func72 (by kernel_rfl) rfl #[.agg #[.int .i64 a0, .int .i64 a1, .slice A2 l2.length c2, .slice A3 l3.length c3], .int .i64 m, .agg #[.int .i64 u0, .int .i64 u1, .slice B2_ m2.length k2, .slice B3_ m3.length k3], .int .i64 0] rfl la_ ?_; (refine (l2PutT k _ _ _ _ l2 _ _ l3 m _ _ _ _ m2 _ _ m3 0 t1 t2 t3 t4 _ (Kd.C_below HR2.out (by first | exact All.base HA.out | exact pw_below_drewN (All.base HA.out) _ | exact below_drew1 (All.base HA.out))) HC2.out (Kd.C_below HR3.out (by first | exact All.base HA.out | exact pw_below_drewN (All.base HA.out) _ | exact below_drew1 (All.base HA.out))) HC3.out (Kd.C_below HR4.out (by first | exact All.base HA.out | exact pw_below_drewN (All.base HA.out) _ | exact below_drew1 (All.base HA.out))) HC4.out (Kd.C_below HR5.out (by first | exact All.base HA.out | exact pw_below_drewN (All.base HA.out) _ | exact below_drew1 (All.base HA.out))) HC5.out As.out).mono ?_); rintro e w112 ⟨v2, v3, f, rfl, hr, hb⟩; refine ⟨_, rfl, ?_⟩; obtain ⟨B2, e2, rfl⟩ := Kd.R_slice hr.1; obtain ⟨B3, e3, rfl⟩ := Kd.S_slice hr.2; have n_ := Aside0.mk (All.pushMade (by first | exact HA.out | exact All.drewN HA.out _ | exact All.drew HA.out) hb hr); clear HA; have HA := n_; clear n_ hb hr) | ((with_reducible refine gate_dst (N := 8) rfl ?_); (try (refine gate_guard (by rfl) ?_; dsimp only)); refine box_event ?hg (N := 8) ?hd (cs := #[.int .i64 0, .int .i64 0, .slice none 0 0, .slice none 0 0]) (t := 40) ?hr ?_; (case hd => rfl); (case hg => rfl); (case hr => first | (go_simp; done) | (go_simp; rfl)); intro gy hg w113 hbox hb; have n_ := Aside0.mk (All.box (by first | exact HA.out | exact All.drewN HA.out _ | exact All.drew HA.out) hg hbox hb); clear HA; have HA := n_; clear n_ hg hbox hb; obtain ⟨cb0, cb1, cb2, cb3, cb4, cb5, cb6, cb7⟩ := bf4_ HA.out.1.1))
 refine gen_wp (All w _) (All.set4 (l1 := []) HA.out (.int .i64 t1) (.int .i64 t2) (.slice B2 t3.length e2) (.slice B3 t4.length e3)) ?_
 clear HA
 intro w114 hA
 have HA := Aside0.mk hA
 clear hA
 clear ca0 ca1 ca2 ca3 cu0 cu1 cu2 cu3 cb0 cb1 cb2 cb3 cb4 cb5 cb6 cb7
 obtain ⟨ca0, ca1, ca2, ca3⟩ := bc4_ HA.out.1.1
 have rd_ := made_reads HA.out.2.1.1
 go_upto_if 36 with (first | ((with_reducible refine gate_callee (f := 60) rfl ?_); refine goesL_ (some 35) rfl rfl Try.func60 (by kernel_rfl) rfl #[.agg #[.int .i64 t1, .int .i64 t2, .slice B2 t3.length e2, .slice B3 t4.length e3]] rfl la_ ?_; (refine (spec_IsWritten.calls k t1 t2 _ _ t3 _ _ t4 b2 _ rd_.1.1 rd_.1.2 rd_.2.1 rd_.2.2 Ab2.out).mono ?_); rintro e w115 ⟨rfl, hb⟩; refine ⟨_, rfl, ?_⟩; have n_ := Aside0.mk (All.below (by first | exact HA.out | exact All.drewN HA.out _ | exact All.drew HA.out) hb); clear HA; have HA := n_; clear n_ hb))
 clear rd_
 clear ca0 ca1 ca2 ca3
 by_cases hb2 : b2 = true
 · subst hb2
   have h := H.out
   clear H
   rw [if_neg (by decide)] at h
   simp only [Option.some.injEq, Prod.mk.injEq] at h
   obtain ⟨rfl, rfl, rfl, rfl, rfl⟩ := h
   obtain ⟨ca0, ca1, ca2, ca3⟩ := bc4_ HA.out.1.1
   obtain ⟨cz0, cz1, cz2, cz3, cz4, cz5, cz6, cz7⟩ := bf4_ HA.out.2.2.1.1
   go_wp2
   have nA := All.set4 (l1 := [_, _]) HA.out (.int .i64 t1) (.int .i64 t2) (.slice B2 t3.length e2) (.slice B3 t4.length e3)
   refine bodyPost_ret (results_ct rfl _ _ g6 40 #[.int .i64 t1, .int .i64 t2, .slice B2 t3.length e2, .slice B3 t4.length e3] (0, 0) _ rfl nA.2.2.1.1 Try.underlying40 rfl (by kernel_rfl)) rfl ?_
   first | exact ⟨_, _, f, rfl, made_Made nA.2.1.1, nA.base⟩ | exact ⟨_, _, rfl, ⟨f, made_Made nA.2.1.1⟩, nA.base⟩
 · replace hb2 := Bool.eq_false_iff.mpr hb2
   subst hb2
   have h := H.out
   clear H
   rw [if_pos rfl] at h
   simp only [Option.some.injEq, Prod.mk.injEq] at h
   obtain ⟨rfl, rfl, rfl, rfl, rfl⟩ := h
   obtain ⟨cz0, cz1, cz2, cz3, cz4, cz5, cz6, cz7⟩ := bf4_ HA.out.2.2.1.1
   go_wp2
   have nA := All.set4 (l1 := [_, _]) HA.out (.int .i64 0) (.int .i64 0) (.slice none 0 0) (.slice none 0 0)
   refine bodyPost_ret (results_ct rfl _ _ g6 40 #[.int .i64 0, .int .i64 0, .slice none 0 0, .slice none 0 0] (0, 0) _ rfl nA.2.2.1.1 Try.underlying40 rfl (by kernel_rfl)) rfl ?_
   first | exact ⟨_, _, _, rfl, made_nil, nA.base⟩ | exact ⟨_, _, rfl, ⟨_, made_nil⟩, nA.base⟩
end Go.Proofs.Ytipfkicndjddgaa.P
