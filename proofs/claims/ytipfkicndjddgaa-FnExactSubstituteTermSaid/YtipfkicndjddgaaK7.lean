-- by hand: impl.copyTerm, impl.renamed, impl.shifted, impl.ShiftTerm
import Derived.Test.YtipfkicndjddgaaM5
import Derived.Test.YtipfkicndjddgaaM11
import Derived.Test.YtipfkicndjddgaaM6
import Derived.Test.YtipfkicndjddgaaM8
import Derived.Test.YtipfkicndjddgaaM12
namespace Go.Proofs.Ytipfkicndjddgaa.P
open Go.RowKit Go.Proofs.YtipfkicndjddgaaW.PrintWords Go.Proofs.YtipfkicndjddgaaW.PrintLast Go.Proofs.YtipfkicndjddgaaW.PrintMore
attribute [local go_sem] max2_int min2_int max_two min_two max_three min_three max_four min_four
set_option linter.unusedVariables false
set_option linter.unusedSimpArgs false
mutual
def impl_copyTerm.l0 : Nat → List S40 → List S40 → Int → Option (List S40)
  | 0, _, _, _ => none
  | k + 1, l3, acc, i => if i < (l3.length : Int) then (if 0 ≤ i then (if acc.length < 2199023255552 then ((impl_copyTerm.f k (rd_T40 l3 i).f0 (rd_T40 l3 i).f1 (rd_T40 l3 i).f2 (rd_T40 l3 i).f3).bind fun q => impl_copyTerm.l0 k l3 (acc ++ [⟨q.1, q.2.1, q.2.2.1, q.2.2.2⟩]) (wrap64 (i + 1))) else none) else none) else some acc
def impl_copyTerm.f : Nat → Int → Int → List Int → List S40 → Option (Int × Int × List Int × List S40)
  | 0, _, _, _, _ => none
  | k + 1, a0, a1, l2, l3 => (slices_Clone_int_int.f l2).bind fun t => (impl_copyTerm.l0 k l3 [] 0).bind fun r => some (a0, a1, t, r)
end
def impl_copyTerm.T1 : Bool × List (List Nat × List Nat) := (true, [([], []), ([0], [0]), ([], []), ([2], [2]), ([], []), ([4], [4]), ([5], [5]), ([1, 3, 6], [1, 3, 6]), ([], []), ([8, 7, 6, 0, 1, 2, 3, 4, 5, 6, 7, 8], [7, 8])])
def impl_copyTerm.B1 : List Nat := [0, 1, 0, 4, 0, 16, 48, 127, 0, 511]
theorem impl_copyTerm.tab1 : rtab .any (opsOf Try.f96 1) = impl_copyTerm.T1 := by kernel_rfl
theorem impl_copyTerm.bits1 : waitsOk impl_copyTerm.T1.2 impl_copyTerm.B1 = true := by kernel_rfl
def impl_copyTerm.T5 : Bool × List (List Nat × List Nat) := (true, [([], []), ([0], [0]), ([], []), ([2], [2]), ([3], [3]), ([1, 4, 3], [1, 4]), ([0, 1, 2, 3, 4, 5], []), ([6, 5, 5, 0, 1, 2, 3, 4, 5], [5, 6])])
def impl_copyTerm.B5 : List Nat := [0, 1, 0, 4, 12, 31, 63, 127]
theorem impl_copyTerm.tab5 : rtab .any (opsOf Try.f96 5) = impl_copyTerm.T5 := by kernel_rfl
theorem impl_copyTerm.bits5 : waitsOk impl_copyTerm.T5.2 impl_copyTerm.B5 = true := by kernel_rfl
def CopyT (k : Nat) : Prop := ∀ (a0 a1 : Int) (A2 : Option Addr) (c2 : Nat) (l2 : List Int) (A3 : Option Addr) (c3 : Nat) (l3 : List S40) (r1 r2 : Int) (r3 : List Int) (r4 : List S40) (w : World) (hr2 : Kd.C (Kd.int .i64) w A2 l2.length l2) (hc2 : l2.length ≤ c2) (hr3 : Kd.C k40 w A3 l3.length l3) (hc3 : l3.length ≤ c3) (h : impl_copyTerm.f k a0 a1 l2 l3 = some (r1, r2, r3, r4)),
  Calls Try.prog 96 #[.agg #[.int .i64 a0, .int .i64 a1, .slice A2 l2.length c2, .slice A3 l3.length c3]] w fun e w' => ∃ (v2 v3 : Value) (f : Nat → Bool), e = .returned (.agg #[.int .i64 r1, .int .i64 r2, v2, v3]) ∧ Made w' w.heap.size f v2 v3 r3 r4 ∧ Below w.heap.size w w'
set_option maxHeartbeats 8000000 in
set_option maxRecDepth 100000 in
theorem copyTermT (k : Nat) : CopyT k := by
 induction k using Nat.strongRecOn with
 | _ k ih =>
 intro a0 a1 A2 c2 l2 A3 c3 l3 r1 r2 r3 r4 w hr2 hc2 hr3 hc3 h
 cases k with
 | zero => exact absurd h (by simp [impl_copyTerm.f])
 | succ k =>
 simp only [impl_copyTerm.f] at h
 obtain ⟨t, At, h⟩ := Option.bind_eq_some_iff.mp h
 obtain ⟨res, Al, h⟩ := Option.bind_eq_some_iff.mp h
 simp only [Option.some.injEq, Prod.mk.injEq] at h
 obtain ⟨rfl, rfl, rfl, rfl⟩ := h
 have hu40 := Try.underlying40
 have HR2 := Aside0.mk hr2
 have HC2 := Aside0.mk hc2
 clear hr2 hc2
 have HR3 := Aside0.mk hr3
 have HC3 := Aside0.mk hc3
 clear hr3 hc3
 replace At := Aside0.mk At
 replace Al := Aside0.mk Al
 have HA := Aside0.mk (show All w [] w from Below.refl w.heap.size w)
 go_enter Try.func96, Try.ntmps96
 go_upto_region 1 with (first | ((with_reducible refine gate_dst (N := 1) rfl ?_); (try (refine gate_guard (by rfl) ?_; dsimp only)); refine box_event ?hg (N := 1) ?hd (cs := #[.int .i64 a0, .int .i64 a1, .slice A2 l2.length c2, .slice A3 l3.length c3]) (t := 40) ?hr ?_; (case hd => rfl); (case hg => rfl); (case hr => first | (go_simp; done) | (go_simp; rfl)); intro g1 hg w11 hbox hb; have n_ := Aside0.mk (All.box (by first | exact HA.out | exact All.drewN HA.out _ | exact All.drew HA.out) hg hbox hb); clear HA; have HA := n_; clear n_ hg hbox hb) | ((with_reducible refine gate_dst (N := 2) rfl ?_); (try (refine gate_guard (by rfl) ?_; dsimp only)); refine box_event ?hg (N := 2) ?hd (cs := #[.int .i64 0, .int .i64 0, .slice none 0 0, .slice none 0 0]) (t := 40) ?hr ?_; (case hd => rfl); (case hg => rfl); (case hr => first | (go_simp; done) | (go_simp; rfl)); intro g2 hg w12 hbox hb; have n_ := Aside0.mk (All.box (by first | exact HA.out | exact All.drewN HA.out _ | exact All.drew HA.out) hg hbox hb); clear HA; have HA := n_; clear n_ hg hbox hb))
 replace HA := Aside0.mk (All.drew HA.out)
 refine start_ (n := 10) (S := (fun w' => w'.heap[g1]? = some (.cells #[.int .i64 a0, .int .i64 a1, .slice A2 l2.length c2, .slice A3 l3.length c3] 40 (0, 0)))) (ds := []) #[false, false, false, false, false, false, false, false, false, false] (by kernel_rfl) rfl rfl HA.out.2.1.1 (fun hHeld => ?_); refine with_tabW impl_copyTerm.tab1 impl_copyTerm.bits1 (fun HT_ HW_ => ?_)
 generalize w12.drew = w13 at HA hHeld ⊢
 refine pure_ (i := 0) (N := some 6) (v := ?_) (a' := ?_) #[true, false, false, false, false, false, false, false, false, false] rfl rfl (any_of HT_.out (by kernel_rfl)) (fun _ _ _ h => h) (Or.inl ⟨by rfl, ?_⟩) ?_ ?_
 rotate_left
 · intro w'
   go_simp
   with_reducible rfl
 rotate_left
 · simp only [Act.put, List.setIfInBounds_toArray, List.set_cons_zero, List.set_cons_succ, i64_w, i32_w]
   rfl
 refine take_ (i := 1) (N := some 7) (v := ?_) (a' := ?_) #[true, true, false, false, false, false, false, false, false, false] rfl rfl (take_ofW HT_.out HW_.out (by kernel_rfl)) (fun _ _ _ h => h) (Or.inl ⟨by rfl, ?_⟩) hHeld ?_ ?_
 rotate_left
 · rintro w' s0
   obtain ⟨q00, q01, q02, q03⟩ := bc4_ s0
   go_simp
   with_reducible rfl
 rotate_left
 · simp only [Act.put, List.setIfInBounds_toArray, List.set_cons_zero, List.set_cons_succ, i64_w, i32_w]
   rfl
 refine pure_ (i := 2) (N := some 8) (v := ?_) (a' := ?_) #[true, true, true, false, false, false, false, false, false, false] rfl rfl (any_of HT_.out (by kernel_rfl)) (fun _ _ _ h => h) (Or.inl ⟨by rfl, ?_⟩) ?_ ?_
 rotate_left
 · intro w'
   go_simp
   with_reducible rfl
 rotate_left
 · simp only [Act.put, List.setIfInBounds_toArray, List.set_cons_zero, List.set_cons_succ, i64_w, i32_w]
   rfl
 refine take_ (i := 3) (N := some 9) (v := ?_) (a' := ?_) #[true, true, true, true, false, false, false, false, false, false] rfl rfl (take_ofW HT_.out HW_.out (by kernel_rfl)) (fun _ _ _ h => h) (Or.inl ⟨by rfl, ?_⟩) hHeld ?_ ?_
 rotate_left
 · rintro w' s0
   obtain ⟨q00, q01, q02, q03⟩ := bc4_ s0
   go_simp
   with_reducible rfl
 rotate_left
 · simp only [Act.put, List.setIfInBounds_toArray, List.set_cons_zero, List.set_cons_succ, i64_w, i32_w]
   rfl
 refine pure_ (i := 4) (N := some 10) (v := ?_) (a' := ?_) #[true, true, true, true, true, false, false, false, false, false] rfl rfl (any_of HT_.out (by kernel_rfl)) (fun _ _ _ h => h) (Or.inl ⟨by rfl, ?_⟩) ?_ ?_
 rotate_left
 · intro w'
   go_simp
   with_reducible rfl
 rotate_left
 · simp only [Act.put, List.setIfInBounds_toArray, List.set_cons_zero, List.set_cons_succ, i64_w, i32_w]
   rfl
 refine take_ (i := 5) (N := some 11) (v := ?_) (a' := ?_) #[true, true, true, true, true, true, false, false, false, false] rfl rfl (take_ofW HT_.out HW_.out (by kernel_rfl)) (fun _ _ _ h => h) (Or.inl ⟨by rfl, ?_⟩) hHeld ?_ ?_
 rotate_left
 · rintro w' s0
   obtain ⟨q00, q01, q02, q03⟩ := bc4_ s0
   go_simp
   with_reducible rfl
 rotate_left
 · simp only [Act.put, List.setIfInBounds_toArray, List.set_cons_zero, List.set_cons_succ, i64_w, i32_w]
   rfl
 refine join_ (σ := Rx × Nat) 1 #[true, true, true, true, true, true, true, true, true, false] (fun s_ => [(12, .slice s_.1.A s_.1.n s_.1.c), (3, .pointer (some ⟨s_.2, 0, none⟩)), (13, .agg #[.int .i64 a0, .int .i64 a1, .slice s_.1.A s_.1.n s_.1.c, .slice none 0 0])]) (fun s_ w' => (fun w' => w'.heap[g1]? = some (.cells #[.int .i64 a0, .int .i64 a1, .slice A2 l2.length c2, .slice A3 l3.length c3] 40 (0, 0))) w' ∧ All w [Ob.rw w.heap.size s_.1 t, Ob.box s_.2 #[.int .i64 0, .int .i64 0, .slice none 0 0, .slice none 0 0] 40, Ob.box g2 #[.int .i64 0, .int .i64 0, .slice none 0 0, .slice none 0 0] 40, Ob.box g1 #[.int .i64 a0, .int .i64 a1, .slice A2 l2.length c2, .slice A3 l3.length c3] 40] w') ?_ ?_
 rotate_left
 · intro hCont
   refine two_ (i := 6) (j := 8) (Ni := some 12) (Nj := some 3) #[true, true, true, true, true, true, true, false, false, false] #[true, true, true, true, true, true, false, false, true, false] rfl rfl rfl rfl (two_of HT_.out (by kernel_rfl)) (by decide) (by decide) (fun K hK => ?_) (fun K hK => ?_)
   · skip
     refine goes_ Try.func121 (by kernel_rfl) rfl #[.slice A2 l2.length c2] (by rfl) rfl rfl la_ ?_
     refine (slices_Clone_int_int.calls _ _ l2 t _ (Kd.C_below HR2.out (by first | exact All.base HA.out | exact pw_below_drewN (All.base HA.out) _ | exact below_drew1 (All.base HA.out))) HC2.out At.out).mono ?_
     rintro e w14 ⟨v0, rfl, hr, hb⟩
     refine ⟨_, rfl, ?_⟩
     obtain ⟨xt, rfl, hp⟩ := row_new (B := w.heap.size) (below_size (by first | exact All.base HA.out | exact pw_below_drewN (All.base HA.out) _ | exact below_drew1 (All.base HA.out))) hb.size hr
     have n_ := Aside0.mk (All.push (by first | exact HA.out | exact All.drewN HA.out _ | exact All.drew HA.out) hb (Ob.rw w.heap.size xt t) hp.1 hp.2.1 hp.2.2)
     clear HA
     have HA := n_
     clear n_ hp hb
     refine hK.out _ _ HA.out.2.2.1.1 (fun hHeld => ?_)
     clear hK K
     refine norm_ (a' := ?_) ?_ ?_
     rotate_left
     · show Act.put _ (some 12) _ = _
       simp only [Act.put, List.setIfInBounds_toArray, List.set_cons_zero, List.set_cons_succ, i64_w, i32_w]
       rfl
     refine pure_ (i := 7) (N := some 13) (v := ?_) (a' := ?_) #[true, true, true, true, true, true, true, true, false, false] rfl rfl (any_of HT_.out (by kernel_rfl)) (fun _ _ _ h => h) (Or.inl ⟨by rfl, ?_⟩) ?_ ?_
     rotate_left
     · intro w'
       go_simp
       with_reducible rfl
     rotate_left
     · simp only [Act.put, List.setIfInBounds_toArray, List.set_cons_zero, List.set_cons_succ, i64_w, i32_w]
       rfl
     refine one_ (i := 8) (N := some 3) #[true, true, true, true, true, true, true, true, true, false] rfl rfl (one_of HT_.out (by kernel_rfl)) (by decide) (fun K hK => ?_)
     refine box_step ?hg (N := 3) ?hd (cs := #[.int .i64 0, .int .i64 0, .slice none 0 0, .slice none 0 0]) (t := 40) ?hr ?_; (case hd => rfl); (case hg => rfl); (case hr => first | (go_simp; done) | (go_simp; rfl))
     intro gb hg w15 hbox hb
     have n_ := Aside0.mk (All.box (by first | exact HA.out | exact All.drewN HA.out _ | exact All.drew HA.out) hg hbox hb)
     clear HA
     have HA := n_
     clear n_ hg hbox hb
     refine hK.out _ _ HA.out.2.2.2.1.1 (fun hHeld => ?_)
     clear hK K
     refine norm_ (a' := ?_) ?_ ?_
     rotate_left
     · show Act.put _ (some 3) _ = _
       simp only [Act.put, List.setIfInBounds_toArray, List.set_cons_zero, List.set_cons_succ, i64_w, i32_w]
       rfl
     exact norm_ (by simp only [putAll, Act.put, List.setIfInBounds_toArray, List.set_cons_zero, List.set_cons_succ]) (hCont (xt, gb) _ ⟨hHeld, (All.swap HA.out)⟩)
   refine box_step ?hg (N := 3) ?hd (cs := #[.int .i64 0, .int .i64 0, .slice none 0 0, .slice none 0 0]) (t := 40) ?hr ?_; (case hd => rfl); (case hg => rfl); (case hr => first | (go_simp; done) | (go_simp; rfl))
   intro gb hg w16 hbox hb
   have n_ := Aside0.mk (All.box (by first | exact HA.out | exact All.drewN HA.out _ | exact All.drew HA.out) hg hbox hb)
   clear HA
   have HA := n_
   clear n_ hg hbox hb
   refine hK.out _ _ HA.out.2.2.1.1 (fun hHeld => ?_)
   clear hK K
   refine norm_ (a' := ?_) ?_ ?_
   rotate_left
   · show Act.put _ (some 3) _ = _
     simp only [Act.put, List.setIfInBounds_toArray, List.set_cons_zero, List.set_cons_succ, i64_w, i32_w]
     rfl
   refine one_ (i := 6) (N := some 12) #[true, true, true, true, true, true, true, false, true, false] rfl rfl (one_of HT_.out (by kernel_rfl)) (by decide) (fun K hK => ?_)
   refine goes_ Try.func121 (by kernel_rfl) rfl #[.slice A2 l2.length c2] (by rfl) rfl rfl la_ ?_
   refine (slices_Clone_int_int.calls _ _ l2 t _ (Kd.C_below HR2.out (by first | exact All.base HA.out | exact pw_below_drewN (All.base HA.out) _ | exact below_drew1 (All.base HA.out))) HC2.out At.out).mono ?_
   rintro e w17 ⟨v0, rfl, hr, hb⟩
   refine ⟨_, rfl, ?_⟩
   obtain ⟨xt, rfl, hp⟩ := row_new (B := w.heap.size) (below_size (by first | exact All.base HA.out | exact pw_below_drewN (All.base HA.out) _ | exact below_drew1 (All.base HA.out))) hb.size hr
   have n_ := Aside0.mk (All.push (by first | exact HA.out | exact All.drewN HA.out _ | exact All.drew HA.out) hb (Ob.rw w.heap.size xt t) hp.1 hp.2.1 hp.2.2)
   clear HA
   have HA := n_
   clear n_ hp hb
   refine hK.out _ _ HA.out.2.2.2.1.1 (fun hHeld => ?_)
   clear hK K
   refine norm_ (a' := ?_) ?_ ?_
   rotate_left
   · show Act.put _ (some 12) _ = _
     simp only [Act.put, List.setIfInBounds_toArray, List.set_cons_zero, List.set_cons_succ, i64_w, i32_w]
     rfl
   refine pure_ (i := 7) (N := some 13) (v := ?_) (a' := ?_) #[true, true, true, true, true, true, true, true, true, false] rfl rfl (any_of HT_.out (by kernel_rfl)) (fun _ _ _ h => h) (Or.inl ⟨by rfl, ?_⟩) ?_ ?_
   rotate_left
   · intro w'
     go_simp
     with_reducible rfl
   rotate_left
   · simp only [Act.put, List.setIfInBounds_toArray, List.set_cons_zero, List.set_cons_succ, i64_w, i32_w]
     rfl
   exact norm_ (by simp only [putAll, Act.put, List.setIfInBounds_toArray, List.set_cons_zero, List.set_cons_succ]) (hCont (xt, gb) _ ⟨hHeld, HA.out⟩)
 rintro ⟨xt, g3⟩ w18 ⟨hHeld, hA⟩
 dsimp only at hHeld hA ⊢
 clear HA
 have HA := Aside0.mk hA
 clear hA
 refine norm_ (a' := ?_) ?_ ?_
 rotate_left
 · simp only [putAll, Act.put, List.setIfInBounds_toArray, List.set_cons_zero, List.set_cons_succ]
   rfl
 refine one_ (i := 9) (N := none) #[true, true, true, true, true, true, true, true, true, true] rfl rfl (one_of HT_.out (by kernel_rfl)) (by decide) (fun K hK => ?_)
 obtain ⟨cz0, cz1, cz2, cz3, cz4, cz5, cz6, cz7⟩ := bf4_ HA.out.2.1.1
 have nA := All.set4 (l1 := [_]) HA.out (.int .i64 a0) (.int .i64 a1) (.slice xt.A xt.n xt.c) (.slice none 0 0)
 refine skip_ (w1 := ?_) (by rfl) rfl ?_ ?_
 rotate_left
 · go_simp
   rfl
 refine hK.out _ _ nA.2.2.2.1.1 (fun hHeld => ?_)
 clear hK K
 refine gen_any (All w _) nA ?_
 clear HA nA hHeld cz0 cz1 cz2 cz3 cz4 cz5 cz6 cz7
 intro w19 hA
 have HA := Aside0.mk hA
 clear hA
 refine done_ (done_of HT_.out (by kernel_rfl)) ?_
 have HN := Aside0.mk (show ∀ x ∈ ([Ob.rw w.heap.size xt t, Ob.box g3 #[.int .i64 a0, .int .i64 a1, .slice xt.A xt.n xt.c, .slice none 0 0] 40, Ob.box g2 #[.int .i64 0, .int .i64 0, .slice none 0 0, .slice none 0 0] 40, Ob.box g1 #[.int .i64 a0, .int .i64 a1, .slice A2 l2.length c2, .slice A3 l3.length c3] 40] : List Ob).map Ob.hi, x ≤ w19.heap.size from All.tops HA.out)
 have HW := Aside0.mk (show w.heap.size ≤ w19.heap.size from HA.out.base.size)
 obtain ⟨cc0, cc1, cc2, cc3⟩ := bc4_ HA.out.2.2.2.1.1
 go_wp2
 go_loopg [17] k (fun kq v W => ∃ (acc : List S40) (i : Int) (BK : Option Addr) (cK N1 : Nat), v = .int .i64 i ∧ Aside0 (impl_copyTerm.l0 kq l3 acc i = some res) ∧ Aside0 (kq ≤ k) ∧ Aside0 (w19.heap.size ≤ N1) ∧ Aside0 (All w [Ob.kids w.heap.size w19.heap.size N1 (.slice BK acc.length cK) acc, Ob.rw w.heap.size xt t, Ob.box g3 #[.int .i64 a0, .int .i64 a1, .slice xt.A xt.n xt.c, .slice BK acc.length cK] 40, Ob.box g2 #[.int .i64 0, .int .i64 0, .slice none 0 0, .slice none 0 0] 40, Ob.box g1 #[.int .i64 a0, .int .i64 a1, .slice A2 l2.length c2, .slice A3 l3.length c3] 40] W))
 case atStart => exact ⟨[], 0, none, 0, _, rfl, Al, ⟨Nat.le_refl _⟩, ⟨Nat.le_refl _⟩, ⟨All.pushNilKids HA.out⟩⟩
 case round =>
  clear Al HA cc0 cc1 cc2 cc3
  obtain ⟨acc, i, BK, cK, N1, rfl, HL, HK1, HN1, HA⟩ := hrel
  cases gk with
  | zero => exact absurd HL.out (by simp [impl_copyTerm.l0])
  | succ k1 =>
  have H := HL.out
  clear HL
  simp only [impl_copyTerm.l0] at H
  by_cases c6 : i < (l3.length : Int)
  · rw [if_pos c6] at H
    have c6b : decide (i < (l3.length : Int)) = true := decide_eq_true c6
    by_cases c7 : ¬ (0 ≤ i)
    · rw [if_neg c7] at H; exact absurd H (by simp)
    replace c7 := Decidable.not_not.mp c7
    rw [if_pos c7] at H
    have c7b : decide (0 ≤ i) = true := decide_eq_true c7
    by_cases c8 : ¬ (acc.length < 2199023255552)
    · rw [if_neg c8] at H; exact absurd H (by simp)
    replace c8 := Decidable.not_not.mp c8
    rw [if_pos c8] at H
    obtain ⟨⟨t1, t2, t3, t4⟩, A8, H⟩ := Option.bind_eq_some_iff.mp H
    dsimp only at H
    have LA := Aside0.mk c8
    replace A8 := Aside0.mk A8
    replace H := Aside0.mk H
    obtain ⟨ad, X2, d2, X3, d3, e1, hx0, hx1, hx2, hx3, hl2, hi2, hl3, hi3⟩ := at_T40 HR3.out i c7 c6
    cases e1
    have HS2 := Aside0.mk hi2
    have HD2 := Aside0.mk hl2
    have HS3 := Aside0.mk hi3
    have HD3 := Aside0.mk hl3
    have p_ := eq_true c7
    have q_ := eq_true c6
    clear hi2 hl2 hi3 hl3 c6 c7 c8
    replace hx0 := (HA.out.base.cell (World.block_lt_of_cell? w _ hx0)).trans hx0
    replace hx1 := (HA.out.base.cell (World.block_lt_of_cell? w _ hx1)).trans hx1
    replace hx2 := (HA.out.base.cell (World.block_lt_of_cell? w _ hx2)).trans hx2
    replace hx3 := (HA.out.base.cell (World.block_lt_of_cell? w _ hx3)).trans hx3
    go_upto_region 5 with (first | ((with_reducible refine gate_dst (N := 5) rfl ?_); (try (refine gate_guard (by rfl) ?_; dsimp only)); refine box_event ?hg (N := 5) ?hd (cs := #[.int .i64 0, .int .i64 0, .slice none 0 0, .slice none 0 0]) (t := 40) ?hr ?_; (case hd => rfl); (case hg => rfl); (case hr => first | (go_simp; done) | (go_simp; rfl)); intro gk hg w20 hbox hb; have n_ := Aside0.mk (All.box (by first | exact HA.out | exact All.drewN HA.out _ | exact All.drew HA.out) hg hbox hb); clear HA; have HA := n_; clear n_ hg hbox hb; obtain ⟨cb0, cb1, cb2, cb3, cb4, cb5, cb6, cb7⟩ := bf4_ HA.out.1.1))
    refine gen_wp (All w _) (All.set4 (l1 := []) HA.out (.int .i64 (rd_T40 l3 i).f0) (.int .i64 (rd_T40 l3 i).f1) (.slice X2 (rd_T40 l3 i).f2.length d2) (.slice X3 (rd_T40 l3 i).f3.length d3)) ?_
    clear HA
    intro w21 hA
    have HA := Aside0.mk hA
    clear hA
    clear cb0 cb1 cb2 cb3 cb4 cb5 cb6 cb7 hx0 hx1 hx2 hx3
    replace HA := Aside0.mk (All.drew HA.out)
    refine start_ (n := 8) (S := (fun w' => w'.heap[g3]? = some (.cells #[.int .i64 a0, .int .i64 a1, .slice xt.A xt.n xt.c, .slice BK acc.length cK] 40 (0, 0)) ∧ w'.heap[gk]? = some (.cells #[.int .i64 (rd_T40 l3 i).f0, .int .i64 (rd_T40 l3 i).f1, .slice X2 (rd_T40 l3 i).f2.length d2, .slice X3 (rd_T40 l3 i).f3.length d3] 40 (0, 0)))) (ds := [7]) #[false, false, false, false, false, false, false, false] (by kernel_rfl) rfl rfl ⟨HA.out.2.2.2.1.1, HA.out.1.1⟩ (fun hHeld => ?_); refine with_tabW impl_copyTerm.tab5 impl_copyTerm.bits5 (fun HT_ HW_ => ?_)
    generalize w21.drew = w22 at HA hHeld ⊢
    refine pure_ (i := 0) (N := some 21) (v := ?_) (a' := ?_) #[true, false, false, false, false, false, false, false] rfl rfl (any_of HT_.out (by kernel_rfl)) (fun _ _ _ h => h) (Or.inl ⟨by rfl, ?_⟩) ?_ ?_
    rotate_left
    · intro w'
      go_simp
      with_reducible rfl
    rotate_left
    · simp only [Act.put, List.setIfInBounds_toArray, List.set_cons_zero, List.set_cons_succ, i64_w, i32_w]
      rfl
    refine take_ (i := 1) (N := some 22) (v := ?_) (a' := ?_) #[true, true, false, false, false, false, false, false] rfl rfl (take_ofW HT_.out HW_.out (by kernel_rfl)) (fun _ _ _ h => h) (Or.inl ⟨by rfl, ?_⟩) hHeld ?_ ?_
    rotate_left
    · rintro w' ⟨s0, s1⟩
      obtain ⟨q00, q01, q02, q03⟩ := bc4_ s0
      obtain ⟨q10, q11, q12, q13⟩ := bc4_ s1
      go_simp
      with_reducible rfl
    rotate_left
    · simp only [Act.put, List.setIfInBounds_toArray, List.set_cons_zero, List.set_cons_succ, i64_w, i32_w]
      rfl
    refine take_ (i := 2) (N := some 23) (v := ?_) (a' := ?_) #[true, true, true, false, false, false, false, false] rfl rfl (take_ofW HT_.out HW_.out (by kernel_rfl)) (fun _ _ _ h => h) (Or.inl ⟨by rfl, ?_⟩) hHeld ?_ ?_
    rotate_left
    · rintro w' ⟨s0, s1⟩
      obtain ⟨q00, q01, q02, q03⟩ := bc4_ s0
      obtain ⟨q10, q11, q12, q13⟩ := bc4_ s1
      go_simp
      with_reducible rfl
    rotate_left
    · simp only [Act.put, List.setIfInBounds_toArray, List.set_cons_zero, List.set_cons_succ, i64_w, i32_w]
      rfl
    refine one_ (i := 3) (N := some 24) #[true, true, true, true, false, false, false, false] rfl rfl (one_of HT_.out (by kernel_rfl)) (by decide) (fun K hK => ?_)
    have NL := Aside0.mk (show N1 ≤ w22.heap.size from HA.out.2.1.2.1)
    refine goes_ Try.func96 (by kernel_rfl) rfl #[.agg #[.int .i64 (rd_T40 l3 i).f0, .int .i64 (rd_T40 l3 i).f1, .slice X2 (rd_T40 l3 i).f2.length d2, .slice X3 (rd_T40 l3 i).f3.length d3]] (by rfl) rfl rfl la_ ?_
    refine (ih k1 (by have := HK1.out; omega) _ _ _ _ (rd_T40 l3 i).f2 _ _ (rd_T40 l3 i).f3 t1 t2 t3 t4 _ (Kd.C_below HS2.out (by first | exact All.base HA.out | exact pw_below_drewN (All.base HA.out) _ | exact below_drew1 (All.base HA.out))) HD2.out (Kd.C_below HS3.out (by first | exact All.base HA.out | exact pw_below_drewN (All.base HA.out) _ | exact below_drew1 (All.base HA.out))) HD3.out A8.out).mono ?_
    rintro e w23 ⟨v2, v3, f, rfl, hr, hb⟩
    refine ⟨_, rfl, ?_⟩
    obtain ⟨B2, e2, rfl⟩ := Kd.R_slice hr.1
    obtain ⟨B3, e3, rfl⟩ := Kd.S_slice hr.2
    have n_ := Aside0.mk (All.pushMade (by first | exact HA.out | exact All.drewN HA.out _ | exact All.drew HA.out) hb hr)
    clear HA
    have HA := n_
    clear n_ hb hr
    refine hK.out _ _ ⟨HA.out.2.2.2.2.1.1, HA.out.2.1.1⟩ (fun hHeld => ?_)
    clear hK K
    refine norm_ (a' := ?_) ?_ ?_
    rotate_left
    · show Act.put _ (some 24) _ = _
      simp only [Act.put, List.setIfInBounds_toArray, List.set_cons_zero, List.set_cons_succ, i64_w, i32_w]
      rfl
    refine one_ (i := 4) (N := some 25) #[true, true, true, true, true, false, false, false] rfl rfl (one_of HT_.out (by kernel_rfl)) (by decide) (fun K hK => ?_)
    refine value_ (w1 := ?_) (v := ?_) (by rfl) rfl ?_ ?_
    rotate_left 2
    · go_simp
      constructor
      · rfl
      · rfl
    refine hK.out _ _ ⟨(blk_alloc HA.out.2.2.2.2.1.1 _), (blk_alloc HA.out.2.1.1 _)⟩ (fun hHeld => ?_)
    clear hK K
    refine norm_ (a' := ?_) ?_ ?_
    rotate_left
    · show Act.put _ (some 25) _ = _
      simp only [Act.put, List.setIfInBounds_toArray, List.set_cons_zero, List.set_cons_succ, i64_w, i32_w]
      rfl
    refine one_ (i := 5) (N := some 26) #[true, true, true, true, true, true, false, false] rfl rfl (one_of HT_.out (by kernel_rfl)) (by decide) (fun K hK => ?_)
    refine Kd.S_append_step kT (w0 := w) w.heap.size (by rfl) (.tmp 22) (.tmp 25) 38 40 (.agg #[.int .i64 0, .int .i64 0, .slice none 0 0, .slice none 0 0]) 64 rfl Try.underlying38 info40 rfl (by decide) (by omega) (.slice BK acc.length cK) acc ⟨t1, t2, t3, t4⟩ [.int .i64 t1, .int .i64 t2, .slice B2 t3.length e2, .slice B3 t4.length e3] (fun k_ => w19.heap.size ≤ k_) (fun k_ => w22.heap.size ≤ k_ ∧ k_ < w23.heap.size) rfl (by first | (go_simp; done) | (go_simp; rfl) | rfl) ?aP ?hokp ?aF ?aO ?aB ?aS ?aL ?_
    (case aP => exact made_M HA.out.1.1 t1 t2)
    (case hokp => intro k_ hk; have := NL.out; have := HN1.out; exact ⟨by omega, fun he => by have := (HA.out.2.2.1.1.choose_spec.1 k_ he.symm).2; omega⟩)
    (case aF => intro k_ hk; have := HN1.out; have := HA.out.2.2.1.2.1; show w19.heap.size ≤ k_; simp only [Ob.kids] at this; omega)
    (case aO => exact Kd.S_mono HA.out.2.2.1.1 (fun k_ hk => ⟨hk.1, fun h2 => by have := NL.out; omega⟩))
    (case aB => exact (by first | exact All.base HA.out | exact pw_below_drewN (All.base HA.out) _ | exact below_drew1 (All.base HA.out)))
    (case aS => exact (All.base HA.out).size)
    (case aL => have := LA.out; omega)
    intro v1 w24 ho hb hg hat
    obtain ⟨B4, e4, rfl⟩ := Kd.S_slice ho
    have HM := Aside0.mk (Nat.le_trans HN1.out (Nat.le_trans HA.out.2.2.1.2.1 hg.size))
    have n_ := Aside0.mk (All.next HA.out.2.2 HN.out HW.out hg hb ho)
    have hu1 := (hg.block _ (blk_lt HA.out.2.1.1) (fun he => by have h1_ := (HA.out.2.2.1.1.choose_spec.1 _ he.symm).2; have h0_ := (HA.out.2.2.1.1.choose_spec.1 _ he.symm).1; have h2_ := HA.out.2.1.2.2.2 _ List.mem_cons_self; simp only [Ob.box, Ob.kids] at h2_; omega)).trans HA.out.2.1.1
    clear HA
    have HA := n_
    clear n_ ho hb hg hat
    refine hK.out _ _ ⟨HA.out.2.2.1.1, hu1⟩ (fun hHeld => ?_)
    clear hK K
    refine norm_ (a' := ?_) ?_ ?_
    rotate_left
    · show Act.put _ (some 26) _ = _
      simp only [Act.put, List.setIfInBounds_toArray, List.set_cons_zero, List.set_cons_succ, i64_w, i32_w]
      rfl
    refine pure_ (i := 6) (N := some 27) (v := ?_) (a' := ?_) #[true, true, true, true, true, true, true, false] rfl rfl (any_of HT_.out (by kernel_rfl)) (fun _ _ _ h => h) (Or.inl ⟨by rfl, ?_⟩) ?_ ?_
    rotate_left
    · intro w'
      go_simp
      with_reducible rfl
    rotate_left
    · simp only [Act.put, List.setIfInBounds_toArray, List.set_cons_zero, List.set_cons_succ, i64_w, i32_w]
      rfl
    refine last_ (i := 7) (N := none) #[true, true, true, true, true, true, true, true] rfl rfl (one_of HT_.out (by kernel_rfl)) (by decide) (fun K hK => ?_)
    obtain ⟨cb0, cb1, cb2, cb3, cb4, cb5, cb6, cb7⟩ := bf4_ HA.out.2.2.1.1
    refine skip_ (w1 := ?_) (by rfl) rfl ?_ ?_
    rotate_left
    · go_simp
      rfl
    refine hK.out _ _ ?_
    clear hK K hHeld
    refine done_ (done_of HT_.out (by kernel_rfl)) ?_
    go_wp2
    go_roundg k1
    case measure => have := HK1.out; omega
    case rel => exact ⟨_, _, _, _, _, rfl, H, ⟨by have := HK1.out; omega⟩, HM, ⟨All.put (l1 := [_, _]) HA.out 3 _ (by rw [List.length_append]; rfl)⟩⟩
  · rw [if_neg c6] at H
    have c6b : decide (i < (l3.length : Int)) = false := decide_eq_false c6
    obtain rfl := Option.some.inj H
    clear H c6
    obtain ⟨ca0, ca1, ca2, ca3⟩ := bc4_ HA.out.2.2.1.1
    obtain ⟨cz0, cz1, cz2, cz3, cz4, cz5, cz6, cz7⟩ := bf4_ HA.out.2.2.2.1.1
    go_wp2
    have nA := All.set4 (l1 := [_, _, _]) HA.out (.int .i64 a0) (.int .i64 a1) (.slice xt.A xt.n xt.c) (.slice BK acc.length cK)
    refine bodyPost_ret (results_cell_row rfl _ _ g2 40 #[.int .i64 a0, .int .i64 a1, .slice xt.A xt.n xt.c, .slice BK acc.length cK] (0, 0) _ rfl nA.2.2.2.1.1 Try.underlying40 rfl (by kernel_rfl)) rfl ?_
    obtain ⟨f, hf⟩ := made_of nA.2.1.1 nA.1.1 (Or.inl (HN.out _ List.mem_cons_self))
    first | exact ⟨_, _, f, rfl, hf, nA.base⟩ | exact ⟨_, _, rfl, ⟨f, hf⟩, nA.base⟩
theorem made_Made {W : World} {B lo hi : Nat} {f : Nat → Bool} {v2 v3 : Value} {l2 : List Int} {l3 : List S40} (h : (Ob.made B lo hi f v2 v3 l2 l3).P W) : Made W B f v2 v3 l2 l3 := ⟨Kd.R_mono h.1 fun k hk => hk.2, Kd.S_mono h.2 fun k hk => hk.2⟩
theorem made_nil {W : World} {B : Nat} : Made W B (fun _ => true) (.slice none 0 0) (.slice none 0 0) [] [] := ⟨Kd.R_nil _ _ _ _ _, Kd.S_nil _ _ _ _ _⟩
/-- A function value that makes a term of a term and a number. -/
def MkF (w0 : World) (fx : (Int → Int → List Int → List S40 → Int → Option (Int × Int × List Int × List S40))) (K : Nat) (F C : Array Value) : Prop := ∀ (a0 a1 : Int) (A2 : Option Addr) (c2 : Nat) (l2 : List Int) (A3 : Option Addr) (c3 : Nat) (l3 : List S40) (d : Int) (r1 r2 : Int) (r3 : List Int) (r4 : List S40) (w : World) (hr2 : Kd.C (Kd.int .i64) w A2 l2.length l2) (hc2 : l2.length ≤ c2) (hr3 : Kd.C k40 w A3 l3.length l3) (hc3 : l3.length ≤ c3) (_ : Below w0.heap.size w0 w) (_ : fx a0 a1 l2 l3 d = some (r1, r2, r3, r4)),
  Calls Try.prog K (F ++ #[.agg #[.int .i64 a0, .int .i64 a1, .slice A2 l2.length c2, .slice A3 l3.length c3], .int .i64 d] ++ C) w fun e w' => ∃ (v2 v3 : Value) (f : Nat → Bool), e = .returned (.agg #[.int .i64 r1, .int .i64 r2, v2, v3]) ∧ Made w' w.heap.size f v2 v3 r3 r4 ∧ Below w.heap.size w w'
mutual
def impl_renamed.l0 : Nat → (Int → Int → List Int → List S40 → Int → Option (Int × Int × List Int × List S40)) → Int → Int → List S40 → List S40 → Int → Option (List S40)
  | 0, _, _, _, _, _, _ => none
  | k + 1, x, d, a0, l3, acc, i => if i < (l3.length : Int) then (if 0 ≤ i then (if acc.length < 2199023255552 then ((impl_adds.f k a0 i).bind fun dd => (impl_renamed.f k (rd_T40 l3 i).f0 (rd_T40 l3 i).f1 (rd_T40 l3 i).f2 (rd_T40 l3 i).f3 (wrap64 (d + dd)) x).bind fun q => impl_renamed.l0 k x d a0 l3 (acc ++ [⟨q.1, q.2.1, q.2.2.1, q.2.2.2⟩]) (wrap64 (i + 1))) else none) else none) else some acc
def impl_renamed.f : Nat → Int → Int → List Int → List S40 → Int → (Int → Int → List Int → List S40 → Int → Option (Int × Int × List Int × List S40)) → Option (Int × Int × List Int × List S40)
  | 0, _, _, _, _, _, _ => none
  | k + 1, a0, a1, l2, l3, d, x => if a0 = 0 then x a0 a1 l2 l3 d else (slices_Clone_int_int.f l2).bind fun t => (impl_renamed.l0 k x d a0 l3 [] 0).bind fun r => some (a0, a1, t, r)
end
def impl_renamed.T3 : Bool × List (List Nat × List Nat) := (true, [([], []), ([0], [0]), ([], []), ([2], [2]), ([], []), ([4], [4]), ([5], [5]), ([1, 3, 6], [1, 3, 6]), ([], []), ([8, 7, 6, 0, 1, 2, 3, 4, 5, 6, 7, 8], [7, 8])])
def impl_renamed.B3 : List Nat := [0, 1, 0, 4, 0, 16, 48, 127, 0, 511]
theorem impl_renamed.tab3 : rtab .any (opsOf Try.f94 3) = impl_renamed.T3 := by kernel_rfl
theorem impl_renamed.bits3 : waitsOk impl_renamed.T3.2 impl_renamed.B3 = true := by kernel_rfl
def impl_renamed.T7 : Bool × List (List Nat × List Nat) := (true, [([], []), ([0], [0]), ([], []), ([], []), ([], []), ([4], [4]), ([], []), ([5, 6], [5, 6]), ([3, 7], [3, 7]), ([], []), ([2, 8, 9, 7], [2, 8, 9]), ([10], [10]), ([1, 11, 10], [1, 11]), ([0, 1, 2, 3, 4, 5, 6, 7, 8, 9, 10, 11, 12], []), ([13, 12, 12, 0, 1, 2, 3, 4, 5, 6, 7, 8, 9, 10, 11, 12], [12, 13])])
def impl_renamed.B7 : List Nat := [0, 1, 0, 0, 0, 16, 0, 112, 248, 0, 1020, 2044, 4095, 8191, 16383]
theorem impl_renamed.tab7 : rtab .any (opsOf Try.f94 7) = impl_renamed.T7 := by kernel_rfl
theorem impl_renamed.bits7 : waitsOk impl_renamed.T7.2 impl_renamed.B7 = true := by kernel_rfl
theorem mkf_step {w0 w1 : World} {fx : (Int → Int → List Int → List S40 → Int → Option (Int × Int × List Int × List S40))} {K : Nat} {F C : Array Value} (h : MkF w0 fx K F C) (hb : Below w0.heap.size w0 w1) : MkF w1 fx K F C := fun z0 z1 z2 z3 z4 z5 z6 z7 z8 z9 za zb zc w h0 h1 h2 h3 hb2 he => h z0 z1 z2 z3 z4 z5 z6 z7 z8 z9 za zb zc w h0 h1 h2 h3 (below_step hb hb2) he
def RenT (k : Nat) : Prop := ∀ (a0 a1 : Int) (A2 : Option Addr) (c2 : Nat) (l2 : List Int) (A3 : Option Addr) (c3 : Nat) (l3 : List S40) (d : Int) (x : (Int → Int → List Int → List S40 → Int → Option (Int × Int × List Int × List S40))) (KF : Nat) (FF CC : Array Value) (r1 r2 : Int) (r3 : List Int) (r4 : List S40) (w : World) (hr2 : Kd.C (Kd.int .i64) w A2 l2.length l2) (hc2 : l2.length ≤ c2) (hr3 : Kd.C k40 w A3 l3.length l3) (hc3 : l3.length ≤ c3) (hG : OFn KF) (hF : MkF w x KF FF CC) (h : impl_renamed.f k a0 a1 l2 l3 d x = some (r1, r2, r3, r4)),
  Calls Try.prog 94 #[.agg #[.int .i64 a0, .int .i64 a1, .slice A2 l2.length c2, .slice A3 l3.length c3], .int .i64 d, .func (.func KF) FF CC] w fun e w' => ∃ (v2 v3 : Value) (f : Nat → Bool), e = .returned (.agg #[.int .i64 r1, .int .i64 r2, v2, v3]) ∧ Made w' w.heap.size f v2 v3 r3 r4 ∧ Below w.heap.size w w'
set_option maxHeartbeats 8000000 in
set_option maxRecDepth 100000 in
theorem renamedT (k : Nat) : RenT k := by
 induction k using Nat.strongRecOn with
 | _ k ih =>
 intro a0 a1 A2 c2 l2 A3 c3 l3 d x KF FF CC r1 r2 r3 r4 w hr2 hc2 hr3 hc3 hG hF h
 cases k with
 | zero => exact absurd h (by simp [impl_renamed.f])
 | succ k =>
 simp only [impl_renamed.f] at h
 have hu40 := Try.underlying40
 have HR2 := Aside0.mk hr2
 have HC2 := Aside0.mk hc2
 clear hr2 hc2
 have HR3 := Aside0.mk hr3
 have HC3 := Aside0.mk hc3
 clear hr3 hc3
 have HG := Aside0.mk hG
 have HF := Aside0.mk hF
 have hcf := fun (xs : Array Value) (w : World) => OFn.run HG.out xs w
 clear hG hF
 have H := Aside0.mk h
 clear h
 have HA := Aside0.mk (show All w [] w from Below.refl w.heap.size w)
 go_enter Try.func94, Try.ntmps94
 go_upto_region 1 with (first | ((with_reducible refine gate_dst (N := 3) rfl ?_); (try (refine gate_guard (by rfl) ?_; dsimp only)); refine box_event ?hg (N := 3) ?hd (cs := #[.int .i64 a0, .int .i64 a1, .slice A2 l2.length c2, .slice A3 l3.length c3]) (t := 40) ?hr ?_; (case hd => rfl); (case hg => rfl); (case hr => first | (go_simp; done) | (go_simp; rfl)); intro g1 hg w25 hbox hb; have n_ := Aside0.mk (All.box (by first | exact HA.out | exact All.drewN HA.out _ | exact All.drew HA.out) hg hbox hb); clear HA; have HA := n_; clear n_ hg hbox hb) | ((with_reducible refine gate_dst (N := 6) rfl ?_); (try (refine gate_guard (by rfl) ?_; dsimp only)); refine box_event ?hg (N := 6) ?hd (cs := #[.int .i64 0, .int .i64 0, .slice none 0 0, .slice none 0 0]) (t := 40) ?hr ?_; (case hd => rfl); (case hg => rfl); (case hr => first | (go_simp; done) | (go_simp; rfl)); intro g2 hg w26 hbox hb; have n_ := Aside0.mk (All.box (by first | exact HA.out | exact All.drewN HA.out _ | exact All.drew HA.out) hg hbox hb); clear HA; have HA := n_; clear n_ hg hbox hb))
 obtain ⟨ca0, ca1, ca2, ca3⟩ := bc4_ HA.out.2.1.1
 go_upto_if 12 with (fail)
 by_cases c0 : a0 = 0
 · have h := H.out
   clear H
   rw [if_pos c0] at h
   replace h := Aside0.mk h
   have c0b : (a0 == 0) = true := beq_iff_eq.mpr c0
   clear c0
   go_wp2_with (first | ((with_reducible refine gate_calleeO (t := 13) rfl ?_); refine goesOL_ (some 16) rfl rfl HG.out #[.agg #[.int .i64 a0, .int .i64 a1, .slice A2 l2.length c2, .slice A3 l3.length c3], .int .i64 d] rfl la_ rfl ?_; (refine (HF.out a0 a1 _ _ l2 _ _ l3 d r1 r2 r3 r4 _ (Kd.C_below HR2.out (by first | exact All.base HA.out | exact pw_below_drewN (All.base HA.out) _ | exact below_drew1 (All.base HA.out))) HC2.out (Kd.C_below HR3.out (by first | exact All.base HA.out | exact pw_below_drewN (All.base HA.out) _ | exact below_drew1 (All.base HA.out))) HC3.out (by first | exact All.base HA.out | exact pw_below_drewN (All.base HA.out) _ | exact below_drew1 (All.base HA.out)) h.out).mono ?_); rintro e w27 ⟨v2, v3, f, rfl, hr, hb⟩; refine ⟨_, rfl, ?_⟩; obtain ⟨B2, e2, rfl⟩ := Kd.R_slice hr.1; obtain ⟨B3, e3, rfl⟩ := Kd.S_slice hr.2; have n_ := Aside0.mk (All.pushMade (by first | exact HA.out | exact All.drewN HA.out _ | exact All.drew HA.out) hb hr); clear HA; have HA := n_; clear n_ hb hr; obtain ⟨cz0, cz1, cz2, cz3, cz4, cz5, cz6, cz7⟩ := bf4_ HA.out.2.1.1))
   have nA := All.set4 (l1 := [_]) HA.out (.int .i64 r1) (.int .i64 r2) (.slice B2 r3.length e2) (.slice B3 r4.length e3)
   refine bodyPost_ret (results_cell_row rfl _ _ g2 40 #[.int .i64 r1, .int .i64 r2, .slice B2 r3.length e2, .slice B3 r4.length e3] (0, 0) _ rfl nA.2.1.1 Try.underlying40 rfl (by kernel_rfl)) rfl ?_
   first | exact ⟨_, _, f, rfl, made_Made nA.1.1, nA.base⟩ | exact ⟨_, _, rfl, ⟨f, made_Made nA.1.1⟩, nA.base⟩
 have h := H.out
 clear H
 rw [if_neg c0] at h
 have c0b : (a0 == 0) = false := beq_eq_false_iff_ne.mpr c0
 rw [c0b]
 clear c0b
 obtain ⟨t, At, h⟩ := Option.bind_eq_some_iff.mp h
 obtain ⟨res, Al, h⟩ := Option.bind_eq_some_iff.mp h
 simp only [Option.some.injEq, Prod.mk.injEq] at h
 obtain ⟨rfl, rfl, rfl, rfl⟩ := h
 replace At := Aside0.mk At
 replace Al := Aside0.mk Al
 clear c0 ca0 ca1 ca2 ca3
 go_upto_region 3 with (fail)
 replace HA := Aside0.mk (All.drew HA.out)
 refine start_ (n := 10) (S := (fun w' => w'.heap[g1]? = some (.cells #[.int .i64 a0, .int .i64 a1, .slice A2 l2.length c2, .slice A3 l3.length c3] 40 (0, 0)))) (ds := []) #[false, false, false, false, false, false, false, false, false, false] (by kernel_rfl) rfl rfl HA.out.2.1.1 (fun hHeld => ?_); refine with_tabW impl_renamed.tab3 impl_renamed.bits3 (fun HT_ HW_ => ?_)
 generalize w26.drew = w28 at HA hHeld ⊢
 refine pure_ (i := 0) (N := some 17) (v := ?_) (a' := ?_) #[true, false, false, false, false, false, false, false, false, false] rfl rfl (any_of HT_.out (by kernel_rfl)) (fun _ _ _ h => h) (Or.inl ⟨by rfl, ?_⟩) ?_ ?_
 rotate_left
 · intro w'
   go_simp
   with_reducible rfl
 rotate_left
 · simp only [Act.put, List.setIfInBounds_toArray, List.set_cons_zero, List.set_cons_succ, i64_w, i32_w]
   rfl
 refine take_ (i := 1) (N := some 18) (v := ?_) (a' := ?_) #[true, true, false, false, false, false, false, false, false, false] rfl rfl (take_ofW HT_.out HW_.out (by kernel_rfl)) (fun _ _ _ h => h) (Or.inl ⟨by rfl, ?_⟩) hHeld ?_ ?_
 rotate_left
 · rintro w' s0
   obtain ⟨q00, q01, q02, q03⟩ := bc4_ s0
   go_simp
   with_reducible rfl
 rotate_left
 · simp only [Act.put, List.setIfInBounds_toArray, List.set_cons_zero, List.set_cons_succ, i64_w, i32_w]
   rfl
 refine pure_ (i := 2) (N := some 19) (v := ?_) (a' := ?_) #[true, true, true, false, false, false, false, false, false, false] rfl rfl (any_of HT_.out (by kernel_rfl)) (fun _ _ _ h => h) (Or.inl ⟨by rfl, ?_⟩) ?_ ?_
 rotate_left
 · intro w'
   go_simp
   with_reducible rfl
 rotate_left
 · simp only [Act.put, List.setIfInBounds_toArray, List.set_cons_zero, List.set_cons_succ, i64_w, i32_w]
   rfl
 refine take_ (i := 3) (N := some 20) (v := ?_) (a' := ?_) #[true, true, true, true, false, false, false, false, false, false] rfl rfl (take_ofW HT_.out HW_.out (by kernel_rfl)) (fun _ _ _ h => h) (Or.inl ⟨by rfl, ?_⟩) hHeld ?_ ?_
 rotate_left
 · rintro w' s0
   obtain ⟨q00, q01, q02, q03⟩ := bc4_ s0
   go_simp
   with_reducible rfl
 rotate_left
 · simp only [Act.put, List.setIfInBounds_toArray, List.set_cons_zero, List.set_cons_succ, i64_w, i32_w]
   rfl
 refine pure_ (i := 4) (N := some 21) (v := ?_) (a' := ?_) #[true, true, true, true, true, false, false, false, false, false] rfl rfl (any_of HT_.out (by kernel_rfl)) (fun _ _ _ h => h) (Or.inl ⟨by rfl, ?_⟩) ?_ ?_
 rotate_left
 · intro w'
   go_simp
   with_reducible rfl
 rotate_left
 · simp only [Act.put, List.setIfInBounds_toArray, List.set_cons_zero, List.set_cons_succ, i64_w, i32_w]
   rfl
 refine take_ (i := 5) (N := some 22) (v := ?_) (a' := ?_) #[true, true, true, true, true, true, false, false, false, false] rfl rfl (take_ofW HT_.out HW_.out (by kernel_rfl)) (fun _ _ _ h => h) (Or.inl ⟨by rfl, ?_⟩) hHeld ?_ ?_
 rotate_left
 · rintro w' s0
   obtain ⟨q00, q01, q02, q03⟩ := bc4_ s0
   go_simp
   with_reducible rfl
 rotate_left
 · simp only [Act.put, List.setIfInBounds_toArray, List.set_cons_zero, List.set_cons_succ, i64_w, i32_w]
   rfl
 refine join_ (σ := Rx × Nat) 1 #[true, true, true, true, true, true, true, true, true, false] (fun s_ => [(23, .slice s_.1.A s_.1.n s_.1.c), (7, .pointer (some ⟨s_.2, 0, none⟩)), (24, .agg #[.int .i64 a0, .int .i64 a1, .slice s_.1.A s_.1.n s_.1.c, .slice none 0 0])]) (fun s_ w' => (fun w' => w'.heap[g1]? = some (.cells #[.int .i64 a0, .int .i64 a1, .slice A2 l2.length c2, .slice A3 l3.length c3] 40 (0, 0))) w' ∧ All w [Ob.rw w.heap.size s_.1 t, Ob.box s_.2 #[.int .i64 0, .int .i64 0, .slice none 0 0, .slice none 0 0] 40, Ob.box g2 #[.int .i64 0, .int .i64 0, .slice none 0 0, .slice none 0 0] 40, Ob.box g1 #[.int .i64 a0, .int .i64 a1, .slice A2 l2.length c2, .slice A3 l3.length c3] 40] w') ?_ ?_
 rotate_left
 · intro hCont
   refine two_ (i := 6) (j := 8) (Ni := some 23) (Nj := some 7) #[true, true, true, true, true, true, true, false, false, false] #[true, true, true, true, true, true, false, false, true, false] rfl rfl rfl rfl (two_of HT_.out (by kernel_rfl)) (by decide) (by decide) (fun K hK => ?_) (fun K hK => ?_)
   · skip
     refine goes_ Try.func121 (by kernel_rfl) rfl #[.slice A2 l2.length c2] (by rfl) rfl rfl la_ ?_
     refine (slices_Clone_int_int.calls _ _ l2 t _ (Kd.C_below HR2.out (by first | exact All.base HA.out | exact pw_below_drewN (All.base HA.out) _ | exact below_drew1 (All.base HA.out))) HC2.out At.out).mono ?_
     rintro e w29 ⟨v0, rfl, hr, hb⟩
     refine ⟨_, rfl, ?_⟩
     obtain ⟨xt, rfl, hp⟩ := row_new (B := w.heap.size) (below_size (by first | exact All.base HA.out | exact pw_below_drewN (All.base HA.out) _ | exact below_drew1 (All.base HA.out))) hb.size hr
     have n_ := Aside0.mk (All.push (by first | exact HA.out | exact All.drewN HA.out _ | exact All.drew HA.out) hb (Ob.rw w.heap.size xt t) hp.1 hp.2.1 hp.2.2)
     clear HA
     have HA := n_
     clear n_ hp hb
     refine hK.out _ _ HA.out.2.2.1.1 (fun hHeld => ?_)
     clear hK K
     refine norm_ (a' := ?_) ?_ ?_
     rotate_left
     · show Act.put _ (some 23) _ = _
       simp only [Act.put, List.setIfInBounds_toArray, List.set_cons_zero, List.set_cons_succ, i64_w, i32_w]
       rfl
     refine pure_ (i := 7) (N := some 24) (v := ?_) (a' := ?_) #[true, true, true, true, true, true, true, true, false, false] rfl rfl (any_of HT_.out (by kernel_rfl)) (fun _ _ _ h => h) (Or.inl ⟨by rfl, ?_⟩) ?_ ?_
     rotate_left
     · intro w'
       go_simp
       with_reducible rfl
     rotate_left
     · simp only [Act.put, List.setIfInBounds_toArray, List.set_cons_zero, List.set_cons_succ, i64_w, i32_w]
       rfl
     refine one_ (i := 8) (N := some 7) #[true, true, true, true, true, true, true, true, true, false] rfl rfl (one_of HT_.out (by kernel_rfl)) (by decide) (fun K hK => ?_)
     refine box_step ?hg (N := 7) ?hd (cs := #[.int .i64 0, .int .i64 0, .slice none 0 0, .slice none 0 0]) (t := 40) ?hr ?_; (case hd => rfl); (case hg => rfl); (case hr => first | (go_simp; done) | (go_simp; rfl))
     intro gb hg w30 hbox hb
     have n_ := Aside0.mk (All.box (by first | exact HA.out | exact All.drewN HA.out _ | exact All.drew HA.out) hg hbox hb)
     clear HA
     have HA := n_
     clear n_ hg hbox hb
     refine hK.out _ _ HA.out.2.2.2.1.1 (fun hHeld => ?_)
     clear hK K
     refine norm_ (a' := ?_) ?_ ?_
     rotate_left
     · show Act.put _ (some 7) _ = _
       simp only [Act.put, List.setIfInBounds_toArray, List.set_cons_zero, List.set_cons_succ, i64_w, i32_w]
       rfl
     exact norm_ (by simp only [putAll, Act.put, List.setIfInBounds_toArray, List.set_cons_zero, List.set_cons_succ]) (hCont (xt, gb) _ ⟨hHeld, (All.swap HA.out)⟩)
   refine box_step ?hg (N := 7) ?hd (cs := #[.int .i64 0, .int .i64 0, .slice none 0 0, .slice none 0 0]) (t := 40) ?hr ?_; (case hd => rfl); (case hg => rfl); (case hr => first | (go_simp; done) | (go_simp; rfl))
   intro gb hg w31 hbox hb
   have n_ := Aside0.mk (All.box (by first | exact HA.out | exact All.drewN HA.out _ | exact All.drew HA.out) hg hbox hb)
   clear HA
   have HA := n_
   clear n_ hg hbox hb
   refine hK.out _ _ HA.out.2.2.1.1 (fun hHeld => ?_)
   clear hK K
   refine norm_ (a' := ?_) ?_ ?_
   rotate_left
   · show Act.put _ (some 7) _ = _
     simp only [Act.put, List.setIfInBounds_toArray, List.set_cons_zero, List.set_cons_succ, i64_w, i32_w]
     rfl
   refine one_ (i := 6) (N := some 23) #[true, true, true, true, true, true, true, false, true, false] rfl rfl (one_of HT_.out (by kernel_rfl)) (by decide) (fun K hK => ?_)
   refine goes_ Try.func121 (by kernel_rfl) rfl #[.slice A2 l2.length c2] (by rfl) rfl rfl la_ ?_
   refine (slices_Clone_int_int.calls _ _ l2 t _ (Kd.C_below HR2.out (by first | exact All.base HA.out | exact pw_below_drewN (All.base HA.out) _ | exact below_drew1 (All.base HA.out))) HC2.out At.out).mono ?_
   rintro e w32 ⟨v0, rfl, hr, hb⟩
   refine ⟨_, rfl, ?_⟩
   obtain ⟨xt, rfl, hp⟩ := row_new (B := w.heap.size) (below_size (by first | exact All.base HA.out | exact pw_below_drewN (All.base HA.out) _ | exact below_drew1 (All.base HA.out))) hb.size hr
   have n_ := Aside0.mk (All.push (by first | exact HA.out | exact All.drewN HA.out _ | exact All.drew HA.out) hb (Ob.rw w.heap.size xt t) hp.1 hp.2.1 hp.2.2)
   clear HA
   have HA := n_
   clear n_ hp hb
   refine hK.out _ _ HA.out.2.2.2.1.1 (fun hHeld => ?_)
   clear hK K
   refine norm_ (a' := ?_) ?_ ?_
   rotate_left
   · show Act.put _ (some 23) _ = _
     simp only [Act.put, List.setIfInBounds_toArray, List.set_cons_zero, List.set_cons_succ, i64_w, i32_w]
     rfl
   refine pure_ (i := 7) (N := some 24) (v := ?_) (a' := ?_) #[true, true, true, true, true, true, true, true, true, false] rfl rfl (any_of HT_.out (by kernel_rfl)) (fun _ _ _ h => h) (Or.inl ⟨by rfl, ?_⟩) ?_ ?_
   rotate_left
   · intro w'
     go_simp
     with_reducible rfl
   rotate_left
   · simp only [Act.put, List.setIfInBounds_toArray, List.set_cons_zero, List.set_cons_succ, i64_w, i32_w]
     rfl
   exact norm_ (by simp only [putAll, Act.put, List.setIfInBounds_toArray, List.set_cons_zero, List.set_cons_succ]) (hCont (xt, gb) _ ⟨hHeld, HA.out⟩)
 rintro ⟨xt, g3⟩ w33 ⟨hHeld, hA⟩
 dsimp only at hHeld hA ⊢
 clear HA
 have HA := Aside0.mk hA
 clear hA
 refine norm_ (a' := ?_) ?_ ?_
 rotate_left
 · simp only [putAll, Act.put, List.setIfInBounds_toArray, List.set_cons_zero, List.set_cons_succ]
   rfl
 refine one_ (i := 9) (N := none) #[true, true, true, true, true, true, true, true, true, true] rfl rfl (one_of HT_.out (by kernel_rfl)) (by decide) (fun K hK => ?_)
 obtain ⟨cz0, cz1, cz2, cz3, cz4, cz5, cz6, cz7⟩ := bf4_ HA.out.2.1.1
 have nA := All.set4 (l1 := [_]) HA.out (.int .i64 a0) (.int .i64 a1) (.slice xt.A xt.n xt.c) (.slice none 0 0)
 refine skip_ (w1 := ?_) (by rfl) rfl ?_ ?_
 rotate_left
 · go_simp
   rfl
 refine hK.out _ _ nA.2.2.2.1.1 (fun hHeld => ?_)
 clear hK K
 refine gen_any (All w _) nA ?_
 clear HA nA hHeld cz0 cz1 cz2 cz3 cz4 cz5 cz6 cz7
 intro w34 hA
 have HA := Aside0.mk hA
 clear hA
 refine done_ (done_of HT_.out (by kernel_rfl)) ?_
 have HN := Aside0.mk (show ∀ x ∈ ([Ob.rw w.heap.size xt t, Ob.box g3 #[.int .i64 a0, .int .i64 a1, .slice xt.A xt.n xt.c, .slice none 0 0] 40, Ob.box g2 #[.int .i64 0, .int .i64 0, .slice none 0 0, .slice none 0 0] 40, Ob.box g1 #[.int .i64 a0, .int .i64 a1, .slice A2 l2.length c2, .slice A3 l3.length c3] 40] : List Ob).map Ob.hi, x ≤ w34.heap.size from All.tops HA.out)
 have HW := Aside0.mk (show w.heap.size ≤ w34.heap.size from HA.out.base.size)
 obtain ⟨cc0, cc1, cc2, cc3⟩ := bc4_ HA.out.2.2.2.1.1
 go_wp2
 go_loopg [28] k (fun kq v W => ∃ (acc : List S40) (i : Int) (BK : Option Addr) (cK N1 : Nat), v = .int .i64 i ∧ Aside0 (impl_renamed.l0 kq x d a0 l3 acc i = some res) ∧ Aside0 (kq ≤ k) ∧ Aside0 (w34.heap.size ≤ N1) ∧ Aside0 (All w [Ob.kids w.heap.size w34.heap.size N1 (.slice BK acc.length cK) acc, Ob.rw w.heap.size xt t, Ob.box g3 #[.int .i64 a0, .int .i64 a1, .slice xt.A xt.n xt.c, .slice BK acc.length cK] 40, Ob.box g2 #[.int .i64 0, .int .i64 0, .slice none 0 0, .slice none 0 0] 40, Ob.box g1 #[.int .i64 a0, .int .i64 a1, .slice A2 l2.length c2, .slice A3 l3.length c3] 40] W))
 case atStart => exact ⟨[], 0, none, 0, _, rfl, Al, ⟨Nat.le_refl _⟩, ⟨Nat.le_refl _⟩, ⟨All.pushNilKids HA.out⟩⟩
 case round =>
  clear Al HA cc0 cc1 cc2 cc3
  obtain ⟨acc, i, BK, cK, N1, rfl, HL, HK1, HN1, HA⟩ := hrel
  cases gk with
  | zero => exact absurd HL.out (by simp [impl_renamed.l0])
  | succ k1 =>
  have H := HL.out
  clear HL
  simp only [impl_renamed.l0] at H
  by_cases c6 : i < (l3.length : Int)
  · rw [if_pos c6] at H
    have c6b : decide (i < (l3.length : Int)) = true := decide_eq_true c6
    by_cases c7 : ¬ (0 ≤ i)
    · rw [if_neg c7] at H; exact absurd H (by simp)
    replace c7 := Decidable.not_not.mp c7
    rw [if_pos c7] at H
    have c7b : decide (0 ≤ i) = true := decide_eq_true c7
    by_cases c8 : ¬ (acc.length < 2199023255552)
    · rw [if_neg c8] at H; exact absurd H (by simp)
    replace c8 := Decidable.not_not.mp c8
    rw [if_pos c8] at H
    obtain ⟨dd, Ad, H⟩ := Option.bind_eq_some_iff.mp H
    replace Ad := Aside0.mk Ad
    obtain ⟨⟨t1, t2, t3, t4⟩, A8, H⟩ := Option.bind_eq_some_iff.mp H
    dsimp only at H
    have LA := Aside0.mk c8
    replace A8 := Aside0.mk A8
    replace H := Aside0.mk H
    obtain ⟨ad, X2, d2, X3, d3, e1, hx0, hx1, hx2, hx3, hl2, hi2, hl3, hi3⟩ := at_T40 HR3.out i c7 c6
    cases e1
    have HS2 := Aside0.mk hi2
    have HD2 := Aside0.mk hl2
    have HS3 := Aside0.mk hi3
    have HD3 := Aside0.mk hl3
    have p_ := eq_true c7
    have q_ := eq_true c6
    clear hi2 hl2 hi3 hl3 c6 c7 c8
    replace hx0 := (HA.out.base.cell (World.block_lt_of_cell? w _ hx0)).trans hx0
    replace hx1 := (HA.out.base.cell (World.block_lt_of_cell? w _ hx1)).trans hx1
    replace hx2 := (HA.out.base.cell (World.block_lt_of_cell? w _ hx2)).trans hx2
    replace hx3 := (HA.out.base.cell (World.block_lt_of_cell? w _ hx3)).trans hx3
    go_upto_region 7 with (first | ((with_reducible refine gate_dst (N := 9) rfl ?_); (try (refine gate_guard (by rfl) ?_; dsimp only)); refine box_event ?hg (N := 9) ?hd (cs := #[.int .i64 0, .int .i64 0, .slice none 0 0, .slice none 0 0]) (t := 40) ?hr ?_; (case hd => rfl); (case hg => rfl); (case hr => first | (go_simp; done) | (go_simp; rfl)); intro gk hg w35 hbox hb; have n_ := Aside0.mk (All.box (by first | exact HA.out | exact All.drewN HA.out _ | exact All.drew HA.out) hg hbox hb); clear HA; have HA := n_; clear n_ hg hbox hb; obtain ⟨cb0, cb1, cb2, cb3, cb4, cb5, cb6, cb7⟩ := bf4_ HA.out.1.1))
    refine gen_wp (All w _) (All.set4 (l1 := []) HA.out (.int .i64 (rd_T40 l3 i).f0) (.int .i64 (rd_T40 l3 i).f1) (.slice X2 (rd_T40 l3 i).f2.length d2) (.slice X3 (rd_T40 l3 i).f3.length d3)) ?_
    clear HA
    intro w36 hA
    have HA := Aside0.mk hA
    clear hA
    clear cb0 cb1 cb2 cb3 cb4 cb5 cb6 cb7 hx0 hx1 hx2 hx3
    replace HA := Aside0.mk (All.drew HA.out)
    refine start_ (n := 15) (S := (fun w' => w'.heap[g3]? = some (.cells #[.int .i64 a0, .int .i64 a1, .slice xt.A xt.n xt.c, .slice BK acc.length cK] 40 (0, 0)) ∧ w'.heap[gk]? = some (.cells #[.int .i64 (rd_T40 l3 i).f0, .int .i64 (rd_T40 l3 i).f1, .slice X2 (rd_T40 l3 i).f2.length d2, .slice X3 (rd_T40 l3 i).f3.length d3] 40 (0, 0)) ∧ w'.heap[g1]? = some (.cells #[.int .i64 a0, .int .i64 a1, .slice A2 l2.length c2, .slice (some ad) l3.length c3] 40 (0, 0)))) (ds := [14]) #[false, false, false, false, false, false, false, false, false, false, false, false, false, false, false] (by kernel_rfl) rfl rfl ⟨HA.out.2.2.2.1.1, HA.out.1.1, HA.out.2.2.2.2.2.1.1⟩ (fun hHeld => ?_); refine with_tabW impl_renamed.tab7 impl_renamed.bits7 (fun HT_ HW_ => ?_)
    generalize w36.drew = w37 at HA hHeld ⊢
    refine pure_ (i := 0) (N := some 33) (v := ?_) (a' := ?_) #[true, false, false, false, false, false, false, false, false, false, false, false, false, false, false] rfl rfl (any_of HT_.out (by kernel_rfl)) (fun _ _ _ h => h) (Or.inl ⟨by rfl, ?_⟩) ?_ ?_
    rotate_left
    · intro w'
      go_simp
      with_reducible rfl
    rotate_left
    · simp only [Act.put, List.setIfInBounds_toArray, List.set_cons_zero, List.set_cons_succ, i64_w, i32_w]
      rfl
    refine take_ (i := 1) (N := some 34) (v := ?_) (a' := ?_) #[true, true, false, false, false, false, false, false, false, false, false, false, false, false, false] rfl rfl (take_ofW HT_.out HW_.out (by kernel_rfl)) (fun _ _ _ h => h) (Or.inl ⟨by rfl, ?_⟩) hHeld ?_ ?_
    rotate_left
    · rintro w' ⟨s0, s1, s2⟩
      obtain ⟨q00, q01, q02, q03⟩ := bc4_ s0
      obtain ⟨q10, q11, q12, q13⟩ := bc4_ s1
      obtain ⟨q20, q21, q22, q23⟩ := bc4_ s2
      go_simp
      with_reducible rfl
    rotate_left
    · simp only [Act.put, List.setIfInBounds_toArray, List.set_cons_zero, List.set_cons_succ, i64_w, i32_w]
      rfl
    refine take_ (i := 2) (N := some 35) (v := ?_) (a' := ?_) #[true, true, true, false, false, false, false, false, false, false, false, false, false, false, false] rfl rfl (take_ofW HT_.out HW_.out (by kernel_rfl)) (fun _ _ _ h => h) (Or.inl ⟨by rfl, ?_⟩) hHeld ?_ ?_
    rotate_left
    · rintro w' ⟨s0, s1, s2⟩
      obtain ⟨q00, q01, q02, q03⟩ := bc4_ s0
      obtain ⟨q10, q11, q12, q13⟩ := bc4_ s1
      obtain ⟨q20, q21, q22, q23⟩ := bc4_ s2
      go_simp
      with_reducible rfl
    rotate_left
    · simp only [Act.put, List.setIfInBounds_toArray, List.set_cons_zero, List.set_cons_succ, i64_w, i32_w]
      rfl
    refine pure_ (i := 3) (N := some 36) (v := ?_) (a' := ?_) #[true, true, true, true, false, false, false, false, false, false, false, false, false, false, false] rfl rfl (any_of HT_.out (by kernel_rfl)) (fun _ _ _ h => h) (Or.inl ⟨by rfl, ?_⟩) ?_ ?_
    rotate_left
    · intro w'
      go_simp
      with_reducible rfl
    rotate_left
    · simp only [Act.put, List.setIfInBounds_toArray, List.set_cons_zero, List.set_cons_succ, i64_w, i32_w]
      rfl
    refine pure_ (i := 4) (N := some 37) (v := ?_) (a' := ?_) #[true, true, true, true, true, false, false, false, false, false, false, false, false, false, false] rfl rfl (any_of HT_.out (by kernel_rfl)) (fun _ _ _ h => h) (Or.inl ⟨by rfl, ?_⟩) ?_ ?_
    rotate_left
    · intro w'
      go_simp
      with_reducible rfl
    rotate_left
    · simp only [Act.put, List.setIfInBounds_toArray, List.set_cons_zero, List.set_cons_succ, i64_w, i32_w]
      rfl
    refine take_ (i := 5) (N := some 38) (v := ?_) (a' := ?_) #[true, true, true, true, true, true, false, false, false, false, false, false, false, false, false] rfl rfl (take_ofW HT_.out HW_.out (by kernel_rfl)) (fun _ _ _ h => h) (Or.inl ⟨by rfl, ?_⟩) hHeld ?_ ?_
    rotate_left
    · rintro w' ⟨s0, s1, s2⟩
      obtain ⟨q00, q01, q02, q03⟩ := bc4_ s0
      obtain ⟨q10, q11, q12, q13⟩ := bc4_ s1
      obtain ⟨q20, q21, q22, q23⟩ := bc4_ s2
      go_simp
      with_reducible rfl
    rotate_left
    · simp only [Act.put, List.setIfInBounds_toArray, List.set_cons_zero, List.set_cons_succ, i64_w, i32_w]
      rfl
    refine pure_ (i := 6) (N := some 39) (v := ?_) (a' := ?_) #[true, true, true, true, true, true, true, false, false, false, false, false, false, false, false] rfl rfl (any_of HT_.out (by kernel_rfl)) (fun _ _ _ h => h) (Or.inl ⟨by rfl, ?_⟩) ?_ ?_
    rotate_left
    · intro w'
      go_simp
      with_reducible rfl
    rotate_left
    · simp only [Act.put, List.setIfInBounds_toArray, List.set_cons_zero, List.set_cons_succ, i64_w, i32_w]
      rfl
    refine pure_ (i := 9) (N := some 42) (v := ?_) (a' := ?_) #[true, true, true, true, true, true, true, false, false, true, false, false, false, false, false] rfl rfl (any_of HT_.out (by kernel_rfl)) (fun _ _ _ h => h) (Or.inl ⟨by rfl, ?_⟩) ?_ ?_
    rotate_left
    · intro w'
      go_simp
      with_reducible rfl
    rotate_left
    · simp only [Act.put, List.setIfInBounds_toArray, List.set_cons_zero, List.set_cons_succ, i64_w, i32_w]
      rfl
    refine one_ (i := 7) (N := some 40) #[true, true, true, true, true, true, true, true, false, true, false, false, false, false, false] rfl rfl (one_of HT_.out (by kernel_rfl)) (by decide) (fun K hK => ?_)
    refine goes_ Try.func123 (by kernel_rfl) rfl #[.int .i64 a0, .int .i64 i] (by rfl) rfl rfl la_ ?_
    refine (impl_adds.calls _ a0 i dd _ Ad.out).mono ?_
    rintro e w38 ⟨rfl, hd⟩
    refine ⟨_, rfl, ?_⟩
    have hb := below_of_drawn hd
    clear hd
    have n_ := Aside0.mk (All.below (by first | exact HA.out | exact All.drewN HA.out _ | exact All.drew HA.out) hb)
    clear HA
    have HA := n_
    clear n_ hb
    refine hK.out _ _ ⟨HA.out.2.2.2.1.1, HA.out.1.1, HA.out.2.2.2.2.2.1.1⟩ (fun hHeld => ?_)
    clear hK K
    refine norm_ (a' := ?_) ?_ ?_
    rotate_left
    · show Act.put _ (some 40) _ = _
      simp only [Act.put, List.setIfInBounds_toArray, List.set_cons_zero, List.set_cons_succ, i64_w, i32_w]
      rfl
    refine pure_ (i := 8) (N := some 41) (v := ?_) (a' := ?_) #[true, true, true, true, true, true, true, true, true, true, false, false, false, false, false] rfl rfl (any_of HT_.out (by kernel_rfl)) (fun _ _ _ h => h) (Or.inl ⟨by rfl, ?_⟩) ?_ ?_
    rotate_left
    · intro w'
      go_simp
      with_reducible rfl
    rotate_left
    · simp only [Act.put, List.setIfInBounds_toArray, List.set_cons_zero, List.set_cons_succ, i64_w, i32_w]
      rfl
    refine one_ (i := 10) (N := some 43) #[true, true, true, true, true, true, true, true, true, true, true, false, false, false, false] rfl rfl (one_of HT_.out (by kernel_rfl)) (by decide) (fun K hK => ?_)
    have NL := Aside0.mk (show N1 ≤ w38.heap.size from HA.out.2.1.2.1)
    refine goes_ Try.func94 (by kernel_rfl) rfl #[.agg #[.int .i64 (rd_T40 l3 i).f0, .int .i64 (rd_T40 l3 i).f1, .slice X2 (rd_T40 l3 i).f2.length d2, .slice X3 (rd_T40 l3 i).f3.length d3], .int .i64 (wrap64 (d + dd)), .func (.func KF) FF CC] (by rfl) rfl rfl la_ ?_
    refine (ih k1 (by have := HK1.out; omega) _ _ _ _ (rd_T40 l3 i).f2 _ _ (rd_T40 l3 i).f3 (wrap64 (d + dd)) x KF FF CC t1 t2 t3 t4 _ (Kd.C_below HS2.out (by first | exact All.base HA.out | exact pw_below_drewN (All.base HA.out) _ | exact below_drew1 (All.base HA.out))) HD2.out (Kd.C_below HS3.out (by first | exact All.base HA.out | exact pw_below_drewN (All.base HA.out) _ | exact below_drew1 (All.base HA.out))) HD3.out HG.out (mkf_step HF.out (by first | exact All.base HA.out | exact pw_below_drewN (All.base HA.out) _ | exact below_drew1 (All.base HA.out))) A8.out).mono ?_
    rintro e w39 ⟨v2, v3, f, rfl, hr, hb⟩
    refine ⟨_, rfl, ?_⟩
    obtain ⟨B2, e2, rfl⟩ := Kd.R_slice hr.1
    obtain ⟨B3, e3, rfl⟩ := Kd.S_slice hr.2
    have n_ := Aside0.mk (All.pushMade (by first | exact HA.out | exact All.drewN HA.out _ | exact All.drew HA.out) hb hr)
    clear HA
    have HA := n_
    clear n_ hb hr
    refine hK.out _ _ ⟨HA.out.2.2.2.2.1.1, HA.out.2.1.1, HA.out.2.2.2.2.2.2.1.1⟩ (fun hHeld => ?_)
    clear hK K
    refine norm_ (a' := ?_) ?_ ?_
    rotate_left
    · show Act.put _ (some 43) _ = _
      simp only [Act.put, List.setIfInBounds_toArray, List.set_cons_zero, List.set_cons_succ, i64_w, i32_w]
      rfl
    refine one_ (i := 11) (N := some 44) #[true, true, true, true, true, true, true, true, true, true, true, true, false, false, false] rfl rfl (one_of HT_.out (by kernel_rfl)) (by decide) (fun K hK => ?_)
    refine value_ (w1 := ?_) (v := ?_) (by rfl) rfl ?_ ?_
    rotate_left 2
    · go_simp
      constructor
      · rfl
      · rfl
    refine hK.out _ _ ⟨(blk_alloc HA.out.2.2.2.2.1.1 _), (blk_alloc HA.out.2.1.1 _), (blk_alloc HA.out.2.2.2.2.2.2.1.1 _)⟩ (fun hHeld => ?_)
    clear hK K
    refine norm_ (a' := ?_) ?_ ?_
    rotate_left
    · show Act.put _ (some 44) _ = _
      simp only [Act.put, List.setIfInBounds_toArray, List.set_cons_zero, List.set_cons_succ, i64_w, i32_w]
      rfl
    refine one_ (i := 12) (N := some 45) #[true, true, true, true, true, true, true, true, true, true, true, true, true, false, false] rfl rfl (one_of HT_.out (by kernel_rfl)) (by decide) (fun K hK => ?_)
    refine Kd.S_append_step kT (w0 := w) w.heap.size (by rfl) (.tmp 34) (.tmp 44) 38 40 (.agg #[.int .i64 0, .int .i64 0, .slice none 0 0, .slice none 0 0]) 64 rfl Try.underlying38 info40 rfl (by decide) (by omega) (.slice BK acc.length cK) acc ⟨t1, t2, t3, t4⟩ [.int .i64 t1, .int .i64 t2, .slice B2 t3.length e2, .slice B3 t4.length e3] (fun k_ => w34.heap.size ≤ k_) (fun k_ => w38.heap.size ≤ k_ ∧ k_ < w39.heap.size) rfl (by first | (go_simp; done) | (go_simp; rfl) | rfl) ?aP ?hokp ?aF ?aO ?aB ?aS ?aL ?_
    (case aP => exact made_M HA.out.1.1 t1 t2)
    (case hokp => intro k_ hk; have := NL.out; have := HN1.out; exact ⟨by omega, fun he => by have := (HA.out.2.2.1.1.choose_spec.1 k_ he.symm).2; omega⟩)
    (case aF => intro k_ hk; have := HN1.out; have := HA.out.2.2.1.2.1; show w34.heap.size ≤ k_; simp only [Ob.kids] at this; omega)
    (case aO => exact Kd.S_mono HA.out.2.2.1.1 (fun k_ hk => ⟨hk.1, fun h2 => by have := NL.out; omega⟩))
    (case aB => exact (by first | exact All.base HA.out | exact pw_below_drewN (All.base HA.out) _ | exact below_drew1 (All.base HA.out)))
    (case aS => exact (All.base HA.out).size)
    (case aL => have := LA.out; omega)
    intro v1 w40 ho hb hg hat
    obtain ⟨B4, e4, rfl⟩ := Kd.S_slice ho
    have HM := Aside0.mk (Nat.le_trans HN1.out (Nat.le_trans HA.out.2.2.1.2.1 hg.size))
    have n_ := Aside0.mk (All.next HA.out.2.2 HN.out HW.out hg hb ho)
    have hu1 := (hg.block _ (blk_lt HA.out.2.1.1) (fun he => by have h1_ := (HA.out.2.2.1.1.choose_spec.1 _ he.symm).2; have h0_ := (HA.out.2.2.1.1.choose_spec.1 _ he.symm).1; have h2_ := HA.out.2.1.2.2.2 _ List.mem_cons_self; simp only [Ob.box, Ob.kids] at h2_; omega)).trans HA.out.2.1.1
    clear HA
    have HA := n_
    clear n_ ho hb hg hat
    refine hK.out _ _ ⟨HA.out.2.2.1.1, hu1, HA.out.2.2.2.2.1.1⟩ (fun hHeld => ?_)
    clear hK K
    refine norm_ (a' := ?_) ?_ ?_
    rotate_left
    · show Act.put _ (some 45) _ = _
      simp only [Act.put, List.setIfInBounds_toArray, List.set_cons_zero, List.set_cons_succ, i64_w, i32_w]
      rfl
    refine pure_ (i := 13) (N := some 46) (v := ?_) (a' := ?_) #[true, true, true, true, true, true, true, true, true, true, true, true, true, true, false] rfl rfl (any_of HT_.out (by kernel_rfl)) (fun _ _ _ h => h) (Or.inl ⟨by rfl, ?_⟩) ?_ ?_
    rotate_left
    · intro w'
      go_simp
      with_reducible rfl
    rotate_left
    · simp only [Act.put, List.setIfInBounds_toArray, List.set_cons_zero, List.set_cons_succ, i64_w, i32_w]
      rfl
    refine last_ (i := 14) (N := none) #[true, true, true, true, true, true, true, true, true, true, true, true, true, true, true] rfl rfl (one_of HT_.out (by kernel_rfl)) (by decide) (fun K hK => ?_)
    obtain ⟨cb0, cb1, cb2, cb3, cb4, cb5, cb6, cb7⟩ := bf4_ HA.out.2.2.1.1
    refine skip_ (w1 := ?_) (by rfl) rfl ?_ ?_
    rotate_left
    · go_simp
      rfl
    refine hK.out _ _ ?_
    clear hK K hHeld
    refine done_ (done_of HT_.out (by kernel_rfl)) ?_
    go_wp2
    go_roundg k1
    case measure => have := HK1.out; omega
    case rel => exact ⟨_, _, _, _, _, rfl, H, ⟨by have := HK1.out; omega⟩, HM, ⟨All.put (l1 := [_, _]) HA.out 3 _ (by rw [List.length_append]; rfl)⟩⟩
  · rw [if_neg c6] at H
    have c6b : decide (i < (l3.length : Int)) = false := decide_eq_false c6
    obtain rfl := Option.some.inj H
    clear H c6
    obtain ⟨ca0, ca1, ca2, ca3⟩ := bc4_ HA.out.2.2.1.1
    obtain ⟨cz0, cz1, cz2, cz3, cz4, cz5, cz6, cz7⟩ := bf4_ HA.out.2.2.2.1.1
    go_wp2
    have nA := All.set4 (l1 := [_, _, _]) HA.out (.int .i64 a0) (.int .i64 a1) (.slice xt.A xt.n xt.c) (.slice BK acc.length cK)
    refine bodyPost_ret (results_cell_row rfl _ _ g2 40 #[.int .i64 a0, .int .i64 a1, .slice xt.A xt.n xt.c, .slice BK acc.length cK] (0, 0) _ rfl nA.2.2.2.1.1 Try.underlying40 rfl (by kernel_rfl)) rfl ?_
    obtain ⟨f, hf⟩ := made_of nA.2.1.1 nA.1.1 (Or.inl (HN.out _ List.mem_cons_self))
    first | exact ⟨_, _, f, rfl, hf, nA.base⟩ | exact ⟨_, _, rfl, ⟨f, hf⟩, nA.base⟩
def impl_shifted_1.f (k : Nat) (a0 a1 : Int) (l2 : List Int) (l3 : List S40) (d from_ by_ : Int) : Option (Int × Int × List Int × List S40) := if wrap64 (a1 - d) ≥ from_ then impl_copyTerm.f k a0 (wrap64 (a1 + by_)) l2 l3 else impl_copyTerm.f k a0 a1 l2 l3
set_option maxHeartbeats 8000000 in
set_option maxRecDepth 100000 in
theorem impl_shifted_1.calls (k : Nat) (a0 a1 : Int) (A2 : Option Addr) (c2 : Nat) (l2 : List Int) (A3 : Option Addr) (c3 : Nat) (l3 : List S40) (d from_ by_ : Int) (g2 g3 : Nat) (r1 r2 : Int) (r3 : List Int) (r4 : List S40) (w : World) (hr2 : Kd.C (Kd.int .i64) w A2 l2.length l2) (hc2 : l2.length ≤ c2) (hr3 : Kd.C k40 w A3 l3.length l3) (hc3 : l3.length ≤ c3) (hb2 : w.heap[g2]? = some (.cells #[.int .i64 from_] 3 (0, 0))) (hb3 : w.heap[g3]? = some (.cells #[.int .i64 by_] 3 (0, 0))) (h : impl_shifted_1.f k a0 a1 l2 l3 d from_ by_ = some (r1, r2, r3, r4)) :
  Calls Try.prog 95 #[.agg #[.int .i64 a0, .int .i64 a1, .slice A2 l2.length c2, .slice A3 l3.length c3], .int .i64 d, .pointer (some ⟨g2, 0, none⟩), .pointer (some ⟨g3, 0, none⟩)] w fun e w' => ∃ (v2 v3 : Value) (f : Nat → Bool), e = .returned (.agg #[.int .i64 r1, .int .i64 r2, v2, v3]) ∧ Made w' w.heap.size f v2 v3 r3 r4 ∧ Below w.heap.size w w' := by
 unfold impl_shifted_1.f at h
 have hu40 := Try.underlying40
 have HR2 := Aside0.mk hr2
 have HC2 := Aside0.mk hc2
 clear hr2 hc2
 have HR3 := Aside0.mk hr3
 have HC3 := Aside0.mk hc3
 clear hr3 hc3
 have HQ2 := Aside0.mk hb2
 have HQ3 := Aside0.mk hb3
 clear hb2 hb3
 have H := Aside0.mk h
 clear h
 have HA := Aside0.mk (show All w [] w from Below.refl w.heap.size w)
 go_enter Try.func95, Try.ntmps95
 go_upto_region 1 with (first | ((with_reducible refine gate_dst (N := 4) rfl ?_); (try (refine gate_guard (by rfl) ?_; dsimp only)); refine box_event ?hg (N := 4) ?hd (cs := #[.int .i64 a0, .int .i64 a1, .slice A2 l2.length c2, .slice A3 l3.length c3]) (t := 40) ?hr ?_; (case hd => rfl); (case hg => rfl); (case hr => first | (go_simp; done) | (go_simp; rfl)); intro g4 hg w41 hbox hb; have n_ := Aside0.mk (All.box (by first | exact HA.out | exact All.drewN HA.out _ | exact All.drew HA.out) hg hbox hb); clear HA; have HA := n_; clear n_ hg hbox hb) | ((with_reducible refine gate_dst (N := 6) rfl ?_); (try (refine gate_guard (by rfl) ?_; dsimp only)); refine box_event ?hg (N := 6) ?hd (cs := #[.int .i64 0, .int .i64 0, .slice none 0 0, .slice none 0 0]) (t := 40) ?hr ?_; (case hd => rfl); (case hg => rfl); (case hr => first | (go_simp; done) | (go_simp; rfl)); intro g6 hg w42 hbox hb; have n_ := Aside0.mk (All.box (by first | exact HA.out | exact All.drewN HA.out _ | exact All.drew HA.out) hg hbox hb); clear HA; have HA := n_; clear n_ hg hbox hb))
 obtain ⟨ca0, ca1, ca2, ca3⟩ := bc4_ HA.out.2.1.1
 have cq0 : w.cell? ⟨g2, 0, none⟩ = some (.int .i64 from_) := (blk_cell HQ2.out 0).trans rfl
 have cq := (HA.out.base.cell (World.block_lt_of_cell? w _ cq0)).trans cq0
 clear cq0
 go_upto_if 12 with (fail)
 by_cases c0 : wrap64 (a1 - d) ≥ from_
 · have h := H.out
   clear H
   rw [if_pos c0] at h
   replace h := Aside0.mk h
   have c0b : decide (wrap64 (a1 - d) ≥ from_) = true := decide_eq_true c0
   have c0c : decide (from_ ≤ wrap64 (a1 - d)) = true := decide_eq_true c0
   (first | rw [c0b] | rw [c0c])
   clear c0
   have cr0 : w.cell? ⟨g3, 0, none⟩ = some (.int .i64 by_) := (blk_cell HQ3.out 0).trans rfl
   have cr := (HA.out.base.cell (World.block_lt_of_cell? w _ cr0)).trans cr0
   clear cr0
   obtain ⟨cf0, cf1, cf2, cf3, cf4, cf5, cf6, cf7⟩ := bf4_ HA.out.2.1.1
   go_upto_region 3 with (fail)
   refine gen_wp (All w _) (All.put (l1 := [_]) HA.out 1 (.int .i64 (wrap64 (a1 + by_))) (cs' := #[.int .i64 a0, .int .i64 (wrap64 (a1 + by_)), .slice A2 l2.length c2, .slice A3 l3.length c3]) rfl) ?_
   clear HA
   intro w43 hA
   have HA := Aside0.mk hA
   clear hA
   clear ca0 ca1 ca2 ca3 cq cr
   clear cf0 cf1 cf2 cf3 cf4 cf5 cf6 cf7
   obtain ⟨ca0, ca1, ca2, ca3⟩ := bc4_ HA.out.2.1.1
   go_wp2_with (first | ((with_reducible refine gate_callee (f := 96) rfl ?_); refine goesL_ (some 19) rfl rfl Try.func96 (by kernel_rfl) rfl #[.agg #[.int .i64 a0, .int .i64 (wrap64 (a1 + by_)), .slice A2 l2.length c2, .slice A3 l3.length c3]] rfl la_ ?_; (refine (copyTermT k a0 _ _ _ l2 _ _ l3 r1 r2 r3 r4 _ (Kd.C_below HR2.out (by first | exact All.base HA.out | exact pw_below_drewN (All.base HA.out) _ | exact below_drew1 (All.base HA.out))) HC2.out (Kd.C_below HR3.out (by first | exact All.base HA.out | exact pw_below_drewN (All.base HA.out) _ | exact below_drew1 (All.base HA.out))) HC3.out h.out).mono ?_); rintro e w44 ⟨v2, v3, f, rfl, hr, hb⟩; refine ⟨_, rfl, ?_⟩; obtain ⟨B2, e2, rfl⟩ := Kd.R_slice hr.1; obtain ⟨B3, e3, rfl⟩ := Kd.S_slice hr.2; have n_ := Aside0.mk (All.pushMade (by first | exact HA.out | exact All.drewN HA.out _ | exact All.drew HA.out) hb hr); clear HA; have HA := n_; clear n_ hb hr; obtain ⟨cz0, cz1, cz2, cz3, cz4, cz5, cz6, cz7⟩ := bf4_ HA.out.2.1.1))
   have nA := All.set4 (l1 := [_]) HA.out (.int .i64 r1) (.int .i64 r2) (.slice B2 r3.length e2) (.slice B3 r4.length e3)
   refine bodyPost_ret (results_cell_row rfl _ _ g6 40 #[.int .i64 r1, .int .i64 r2, .slice B2 r3.length e2, .slice B3 r4.length e3] (0, 0) _ rfl nA.2.1.1 Try.underlying40 rfl (by kernel_rfl)) rfl ?_
   first | exact ⟨_, _, f, rfl, made_Made nA.1.1, nA.base⟩ | exact ⟨_, _, rfl, ⟨f, made_Made nA.1.1⟩, nA.base⟩
 · have h := H.out
   clear H
   rw [if_neg c0] at h
   replace h := Aside0.mk h
   have c0b : decide (wrap64 (a1 - d) ≥ from_) = false := decide_eq_false c0
   have c0c : decide (from_ ≤ wrap64 (a1 - d)) = false := decide_eq_false c0
   (first | rw [c0b] | rw [c0c])
   clear c0
   go_wp2_with (first | ((with_reducible refine gate_callee (f := 96) rfl ?_); refine goesL_ (some 19) rfl rfl Try.func96 (by kernel_rfl) rfl #[.agg #[.int .i64 a0, .int .i64 a1, .slice A2 l2.length c2, .slice A3 l3.length c3]] rfl la_ ?_; (refine (copyTermT k a0 _ _ _ l2 _ _ l3 r1 r2 r3 r4 _ (Kd.C_below HR2.out (by first | exact All.base HA.out | exact pw_below_drewN (All.base HA.out) _ | exact below_drew1 (All.base HA.out))) HC2.out (Kd.C_below HR3.out (by first | exact All.base HA.out | exact pw_below_drewN (All.base HA.out) _ | exact below_drew1 (All.base HA.out))) HC3.out h.out).mono ?_); rintro e w45 ⟨v2, v3, f, rfl, hr, hb⟩; refine ⟨_, rfl, ?_⟩; obtain ⟨B2, e2, rfl⟩ := Kd.R_slice hr.1; obtain ⟨B3, e3, rfl⟩ := Kd.S_slice hr.2; have n_ := Aside0.mk (All.pushMade (by first | exact HA.out | exact All.drewN HA.out _ | exact All.drew HA.out) hb hr); clear HA; have HA := n_; clear n_ hb hr; obtain ⟨cz0, cz1, cz2, cz3, cz4, cz5, cz6, cz7⟩ := bf4_ HA.out.2.1.1))
   have nA := All.set4 (l1 := [_]) HA.out (.int .i64 r1) (.int .i64 r2) (.slice B2 r3.length e2) (.slice B3 r4.length e3)
   refine bodyPost_ret (results_cell_row rfl _ _ g6 40 #[.int .i64 r1, .int .i64 r2, .slice B2 r3.length e2, .slice B3 r4.length e3] (0, 0) _ rfl nA.2.1.1 Try.underlying40 rfl (by kernel_rfl)) rfl ?_
   first | exact ⟨_, _, f, rfl, made_Made nA.1.1, nA.base⟩ | exact ⟨_, _, rfl, ⟨f, made_Made nA.1.1⟩, nA.base⟩
def impl_shifted.f (k : Nat) (a0 a1 : Int) (l2 : List Int) (l3 : List S40) (by_ from_ : Int) : Option (Int × Int × List Int × List S40) := impl_renamed.f k a0 a1 l2 l3 0 (fun z0 z1 z2 z3 z4 => impl_shifted_1.f k z0 z1 z2 z3 z4 from_ by_)
theorem shifted_of {g5 g4 : Nat} {w : World} {from_ by_ : Int} (k : Nat) (h5 : w.heap[g5]? = some (.cells #[.int .i64 from_] 3 (0, 0))) (h4 : w.heap[g4]? = some (.cells #[.int .i64 by_] 3 (0, 0))) : MkF w (fun z0 z1 z2 z3 z4 => impl_shifted_1.f k z0 z1 z2 z3 z4 from_ by_) 95 #[] #[.pointer (some ⟨g5, 0, none⟩), .pointer (some ⟨g4, 0, none⟩)] := by
  intro a0 a1 A2 c2 l2 A3 c3 l3 d r1 r2 r3 r4 W hr2 hc2 hr3 hc3 hb h
  exact impl_shifted_1.calls k a0 a1 A2 c2 l2 A3 c3 l3 d from_ by_ g5 g4 r1 r2 r3 r4 W hr2 hc2 hr3 hc3 ((hb.block _ (blk_lt h5)).trans h5) ((hb.block _ (blk_lt h4)).trans h4) h
theorem ofn_95 : OFn 95 := ⟨_, Try.func95, by kernel_rfl, rfl⟩
set_option maxHeartbeats 8000000 in
set_option maxRecDepth 100000 in
theorem impl_shifted.calls (k : Nat) (a0 a1 : Int) (A2 : Option Addr) (c2 : Nat) (l2 : List Int) (A3 : Option Addr) (c3 : Nat) (l3 : List S40) (by_ from_ : Int) (r1 r2 : Int) (r3 : List Int) (r4 : List S40) (w : World) (hr2 : Kd.C (Kd.int .i64) w A2 l2.length l2) (hc2 : l2.length ≤ c2) (hr3 : Kd.C k40 w A3 l3.length l3) (hc3 : l3.length ≤ c3) (h : impl_shifted.f k a0 a1 l2 l3 by_ from_ = some (r1, r2, r3, r4)) :
  Calls Try.prog 70 #[.agg #[.int .i64 a0, .int .i64 a1, .slice A2 l2.length c2, .slice A3 l3.length c3], .int .i64 by_, .int .i64 from_] w fun e w' => ∃ (v2 v3 : Value) (f : Nat → Bool), e = .returned (.agg #[.int .i64 r1, .int .i64 r2, v2, v3]) ∧ Made w' w.heap.size f v2 v3 r3 r4 ∧ Below w.heap.size w w' := by
 unfold impl_shifted.f at h
 have hu40 := Try.underlying40
 have HR2 := Aside0.mk hr2
 have HC2 := Aside0.mk hc2
 clear hr2 hc2
 have HR3 := Aside0.mk hr3
 have HC3 := Aside0.mk hc3
 clear hr3 hc3
 replace h := Aside0.mk h
 have HA := Aside0.mk (show All w [] w from Below.refl w.heap.size w)
 go_enter Try.func70, Try.ntmps70
 go_upto_region 1 with (first | ((with_reducible refine gate_dst (N := 3) rfl ?_); (try (refine gate_guard (by rfl) ?_; dsimp only)); refine box_event ?hg (N := 3) ?hd (cs := #[.int .i64 a0, .int .i64 a1, .slice A2 l2.length c2, .slice A3 l3.length c3]) (t := 40) ?hr ?_; (case hd => rfl); (case hg => rfl); (case hr => first | (go_simp; done) | (go_simp; rfl)); intro g3 hg w46 hbox hb; have n_ := Aside0.mk (All.box (by first | exact HA.out | exact All.drewN HA.out _ | exact All.drew HA.out) hg hbox hb); clear HA; have HA := n_; clear n_ hg hbox hb) | ((with_reducible refine gate_dst (N := 4) rfl ?_); (try (refine gate_guard (by rfl) ?_; dsimp only)); refine box_event ?hg (N := 4) ?hd (cs := #[.int .i64 by_]) (t := 3) ?hr ?_; (case hd => rfl); (case hg => rfl); (case hr => first | (go_simp; done) | (go_simp; rfl)); intro g4 hg w47 hbox hb; have n_ := Aside0.mk (All.box (by first | exact HA.out | exact All.drewN HA.out _ | exact All.drew HA.out) hg hbox hb); clear HA; have HA := n_; clear n_ hg hbox hb) | ((with_reducible refine gate_dst (N := 5) rfl ?_); (try (refine gate_guard (by rfl) ?_; dsimp only)); refine box_event ?hg (N := 5) ?hd (cs := #[.int .i64 from_]) (t := 3) ?hr ?_; (case hd => rfl); (case hg => rfl); (case hr => first | (go_simp; done) | (go_simp; rfl)); intro g5 hg w48 hbox hb; have n_ := Aside0.mk (All.box (by first | exact HA.out | exact All.drewN HA.out _ | exact All.drew HA.out) hg hbox hb); clear HA; have HA := n_; clear n_ hg hbox hb) | ((with_reducible refine gate_dst (N := 6) rfl ?_); (try (refine gate_guard (by rfl) ?_; dsimp only)); refine box_event ?hg (N := 6) ?hd (cs := #[.int .i64 0, .int .i64 0, .slice none 0 0, .slice none 0 0]) (t := 40) ?hr ?_; (case hd => rfl); (case hg => rfl); (case hr => first | (go_simp; done) | (go_simp; rfl)); intro g6 hg w49 hbox hb; have n_ := Aside0.mk (All.box (by first | exact HA.out | exact All.drewN HA.out _ | exact All.drew HA.out) hg hbox hb); clear HA; have HA := n_; clear n_ hg hbox hb))
 obtain ⟨ca0, ca1, ca2, ca3⟩ := bc4_ HA.out.2.2.2.1.1
 go_wp2_with (first | ((with_reducible refine gate_callee (f := 94) rfl ?_); refine goesL_ (some 9) rfl rfl Try.func94 (by kernel_rfl) rfl #[.agg #[.int .i64 a0, .int .i64 a1, .slice A2 l2.length c2, .slice A3 l3.length c3], .int .i64 0, .func (.func 95) #[] #[.pointer (some ⟨g5, 0, none⟩), .pointer (some ⟨g4, 0, none⟩)]] rfl la_ ?_; (refine (renamedT k a0 a1 _ _ l2 _ _ l3 0 _ _ _ _ r1 r2 r3 r4 _ (Kd.C_below HR2.out (by first | exact All.base HA.out | exact pw_below_drewN (All.base HA.out) _ | exact below_drew1 (All.base HA.out))) HC2.out (Kd.C_below HR3.out (by first | exact All.base HA.out | exact pw_below_drewN (All.base HA.out) _ | exact below_drew1 (All.base HA.out))) HC3.out ofn_95 (shifted_of k HA.out.2.1.1 HA.out.2.2.1.1) h.out).mono ?_); rintro e w50 ⟨v2, v3, f, rfl, hr, hb⟩; refine ⟨_, rfl, ?_⟩; obtain ⟨B2, e2, rfl⟩ := Kd.R_slice hr.1; obtain ⟨B3, e3, rfl⟩ := Kd.S_slice hr.2; have n_ := Aside0.mk (All.pushMade (by first | exact HA.out | exact All.drewN HA.out _ | exact All.drew HA.out) hb hr); clear HA; have HA := n_; clear n_ hb hr; obtain ⟨cz0, cz1, cz2, cz3, cz4, cz5, cz6, cz7⟩ := bf4_ HA.out.2.1.1))
 have nA := All.set4 (l1 := [_]) HA.out (.int .i64 r1) (.int .i64 r2) (.slice B2 r3.length e2) (.slice B3 r4.length e3)
 refine bodyPost_ret (results_cell_row rfl _ _ g6 40 #[.int .i64 r1, .int .i64 r2, .slice B2 r3.length e2, .slice B3 r4.length e3] (0, 0) _ rfl nA.2.1.1 Try.underlying40 rfl (by kernel_rfl)) rfl ?_
 first | exact ⟨_, _, f, rfl, made_Made nA.1.1, nA.base⟩ | exact ⟨_, _, rfl, ⟨f, made_Made nA.1.1⟩, nA.base⟩
theorem made_reads {W : World} {B lo hi : Nat} {f : Nat → Bool} {A2 A3 : Option Addr} {c2 c3 : Nat} {l2 : List Int} {l3 : List S40} (h : (Ob.made B lo hi f (.slice A2 l2.length c2) (.slice A3 l3.length c3) l2 l3).P W) : (Kd.C (Kd.int .i64) W A2 l2.length l2 ∧ l2.length ≤ c2) ∧ (Kd.C k40 W A3 l3.length l3 ∧ l3.length ≤ c3) := ⟨⟨(Kd.R_reads' h.1).2.2, (Kd.R_reads' h.1).2.1⟩, ⟨kT_C (Kd.S_reads' h.2).2.2, (Kd.S_reads' h.2).2.1⟩⟩
end Go.Proofs.Ytipfkicndjddgaa.P
