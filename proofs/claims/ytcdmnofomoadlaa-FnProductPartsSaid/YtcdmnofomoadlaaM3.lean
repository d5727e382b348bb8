-- Several texts in one (wip/tools/merge.py).
import Derived.Test.YtcdmnofomoadlaaM1
import Derived.Laws.EntriesVeiled
import Derived.Test.YtcdmnofomoadlaaM2
section
namespace Go.Proofs.Ytcdmnofomoadlaa.P
open Go.RowKit Go.Proofs.YtcdmnofomoadlaaW.PrintWords Go.Proofs.YtcdmnofomoadlaaW.PrintLast Go.Proofs.YtcdmnofomoadlaaW.PrintMore
attribute [local go_sem] max2_int min2_int max_two min_two max_three min_three max_four min_four   -- for this text's walks alone
set_option linter.unusedVariables false
set_option linter.unusedSimpArgs false

/-! ### impl_LevelSystem_2: function 59 -/
def impl_LevelSystem_2.f (a0 : Int) (a1 : Int) (x2_0 : (Int → Option (Int))) : Option (Int) := (x2_0 a0).bind fun t140 => ((x2_0 a1).bind fun t141 => ((x2_0 (mx t140 t141)).bind fun t142 => (some t142)))
def impl_LevelSystem_2.T1 : Bool × List (List Nat × List Nat) := (true, [([], []), ([], []), ([], []), ([1, 2], [1, 2]), ([], []), ([], []), ([4, 5, 3], [4, 5]), ([3, 6], [3, 6]), ([0, 7, 6], [0, 7]), ([8, 8, 0, 1, 2, 3, 4, 5, 6, 7, 8], [8])])
def impl_LevelSystem_2.B1 : List Nat := [0, 0, 0, 6, 0, 0, 62, 126, 255, 511]
theorem impl_LevelSystem_2.tab1 : rtab .any (opsOf Try.f59 1) = impl_LevelSystem_2.T1 := by kernel_rfl
theorem impl_LevelSystem_2.bits1 : waitsOk impl_LevelSystem_2.T1.2 impl_LevelSystem_2.B1 = true := by kernel_rfl
set_option maxHeartbeats 8000000 in
set_option maxRecDepth 100000 in
theorem impl_LevelSystem_2.calls (a0 : Int) (a1 : Int) (g2 : Nat) (x2_0 : (Int → Option (Int))) (K2_0_ : Nat) (F2_0_ C2_0_ : Array Value) (r : Int) (w : World) (hG2_0 : OFn K2_0_) (hF2_0 : OC65 w x2_0 K2_0_ F2_0_ C2_0_) (hb2 : w.heap[g2]? = some (.cells #[.func (.func K2_0_) F2_0_ C2_0_] 65 (0, 0))) (h : impl_LevelSystem_2.f a0 a1 x2_0 = some r) :
  Calls Try.prog 59 #[.int .i64 a0, .int .i64 a1, .pointer (some ⟨g2, 0, none⟩)] w fun e w' => e = .returned (.int .i64 r) ∧ Below w.heap.size w w' := by
 have HG2_0 := sd_ hG2_0
 have HF2_0 := sd_ hF2_0
 clear hG2_0 hF2_0
 have BK2 := sd_ hb2
 clear hb2
 have HB := sd_ (Below.refl w.heap.size w)
 have H : ((x2_0 a0).bind fun t140 => ((x2_0 a1).bind fun t141 => ((x2_0 (mx t140 t141)).bind fun t142 => (some t142)))) = some r := h
 clear h
 replace H := Option.bind_eq_some_iff.mp H
 obtain ⟨t140, A40, H⟩ := H
 try dsimp only at H
 have A4 := sd_ A40
 clear A40
 replace H := Option.bind_eq_some_iff.mp H
 obtain ⟨t141, A50, H⟩ := H
 try dsimp only at H
 have A5 := sd_ A50
 clear A50
 obtain ⟨ji6, hji6⟩ : ∃ j_ : Int, (mx t140 t141) = j_ := ⟨_, rfl⟩
 replace H : ((x2_0 (ji6)).bind fun t142 => (some t142)) = some r := by first | (rw [hji6] at H; exact H) | (simp only [hji6] at H ⊢; exact H)
 (try rw [hji6] at A4)
 (try rw [hji6] at A5)
 have hji6_ : (if t140 < t141 then t141 else t140) = ji6 := hji6
 replace H := Option.bind_eq_some_iff.mp H
 obtain ⟨t142, A70, H⟩ := H
 try dsimp only at H
 have A7 := sd_ A70
 clear A70
 obtain rfl := Option.some.inj H
 go_enter Try.func59, Try.ntmps59
 try go_wp2
 replace BK2 := sd_ (blk_drew BK2.out)
 replace HB := sd_ (below_drew1 HB.out)
 refine start_ (n := 10) (S := fun w' => w'.cell? ⟨g2, 0, none⟩ = some (.func (.func K2_0_) F2_0_ C2_0_)) (ds := []) #[false, false, false, false, false, false, false, false, false, false] (by kernel_rfl) rfl rfl ((blk_cell BK2.out 0).trans rfl) (fun hHeld => ?_); refine with_tabW impl_LevelSystem_2.tab1 impl_LevelSystem_2.bits1 (fun HT_ HW_ => ?_)
 generalize w.drew = w8 at BK2 HB hHeld ⊢
 refine pure_ (i := 2) (N := some 8) (v := ?_) (a' := ?_) #[false, false, true, false, false, false, false, false, false, false] rfl rfl (any_of HT_.out (by kernel_rfl)) (fun _ _ _ h => h) (Or.inl ⟨by rfl, ?_⟩) ?_ ?_
 rotate_left
 ·intro w'
  go_simp
  with_reducible rfl
 rotate_left
 ·simp only [Act.put, List.setIfInBounds_toArray, List.set_cons_zero, List.set_cons_succ, i64_w, i32_w]
  rfl
 refine pure_ (i := 5) (N := some 11) (v := ?_) (a' := ?_) #[false, false, true, false, false, true, false, false, false, false] rfl rfl (any_of HT_.out (by kernel_rfl)) (fun _ _ _ h => h) (Or.inl ⟨by rfl, ?_⟩) ?_ ?_
 rotate_left
 ·intro w'
  go_simp
  with_reducible rfl
 rotate_left
 ·simp only [Act.put, List.setIfInBounds_toArray, List.set_cons_zero, List.set_cons_succ, i64_w, i32_w]
  rfl
 refine take_ (i := 0) (N := some 6) (v := ?_) (a' := ?_) #[true, false, true, false, false, true, false, false, false, false] rfl rfl (take_ofW HT_.out HW_.out (by kernel_rfl)) (fun _ _ _ h => h) (Or.inl ⟨by rfl, ?_⟩) hHeld ?_ ?_
 rotate_left
 ·intro w' s0
  go_simp
  with_reducible rfl
 rotate_left
 ·simp only [Act.put, List.setIfInBounds_toArray, List.set_cons_zero, List.set_cons_succ, i64_w, i32_w]
  rfl
 refine take_ (i := 1) (N := some 7) (v := ?_) (a' := ?_) #[true, true, true, false, false, true, false, false, false, false] rfl rfl (take_ofW HT_.out HW_.out (by kernel_rfl)) (fun _ _ _ h => h) (Or.inl ⟨by rfl, ?_⟩) hHeld ?_ ?_
 rotate_left
 ·intro w' s0
  go_simp
  with_reducible rfl
 rotate_left
 ·simp only [Act.put, List.setIfInBounds_toArray, List.set_cons_zero, List.set_cons_succ, i64_w, i32_w]
  rfl
 refine take_ (i := 4) (N := some 10) (v := ?_) (a' := ?_) #[true, true, true, false, true, true, false, false, false, false] rfl rfl (take_ofW HT_.out HW_.out (by kernel_rfl)) (fun _ _ _ h => h) (Or.inl ⟨by rfl, ?_⟩) hHeld ?_ ?_
 rotate_left
 ·intro w' s0
  go_simp
  with_reducible rfl
 rotate_left
 ·simp only [Act.put, List.setIfInBounds_toArray, List.set_cons_zero, List.set_cons_succ, i64_w, i32_w]
  rfl
 refine one_ (i := 3) (N := some 9) #[true, true, true, true, true, true, false, false, false, false] rfl rfl (one_of HT_.out (by kernel_rfl)) (by decide) (fun K hK => ?_)
 refine goesO_ HG2_0.out #[.int .i64 a0] (by rfl) rfl rfl la_ rfl ?_
 with_reducible refine (HF2_0.out a0 t140 _ ?side1 A4.out).mono ?_
 (case side1 => exact (bw0_ HB.out))
 rintro e w9 ⟨rfl, hb⟩
 refine ⟨_, rfl, ?_⟩
 replace BK2 := sd_ (bb_ BK2.out hb)
 replace HB := sd_ (below_step (bw0_ HB.out) hb)
 (try clear hb)
 (try clear hb2)
 (try clear hk)
 (try clear hi)
 refine hK.out _ _ ((blk_cell BK2.out 0).trans rfl) (fun hHeld => ?_)
 clear hK K
 refine norm_ (a' := ?_) ?_ ?_
 rotate_left
 ·show Act.put _ (some 9) _ = _
  simp only [Act.put, List.setIfInBounds_toArray, List.set_cons_zero, List.set_cons_succ, i64_w, i32_w]
  rfl
 refine one_ (i := 6) (N := some 12) #[true, true, true, true, true, true, true, false, false, false] rfl rfl (one_of HT_.out (by kernel_rfl)) (by decide) (fun K hK => ?_)
 refine goesO_ HG2_0.out #[.int .i64 a1] (by rfl) rfl rfl la_ rfl ?_
 with_reducible refine (HF2_0.out a1 t141 _ ?side1 A5.out).mono ?_
 (case side1 => exact (bw0_ HB.out))
 rintro e w10 ⟨rfl, hb⟩
 refine ⟨_, rfl, ?_⟩
 replace BK2 := sd_ (bb_ BK2.out hb)
 replace HB := sd_ (below_step (bw0_ HB.out) hb)
 (try clear hb)
 (try clear hb2)
 (try clear hk)
 (try clear hi)
 refine hK.out _ _ ((blk_cell BK2.out 0).trans rfl) (fun hHeld => ?_)
 clear hK K
 refine norm_ (a' := ?_) ?_ ?_
 rotate_left
 ·show Act.put _ (some 12) _ = _
  simp only [Act.put, List.setIfInBounds_toArray, List.set_cons_zero, List.set_cons_succ, i64_w, i32_w]
  rfl
 refine pure_ (i := 7) (N := some 13) (v := ?_) (a' := ?_) #[true, true, true, true, true, true, true, true, false, false] rfl rfl (any_of HT_.out (by kernel_rfl)) (fun _ _ _ h => h) (Or.inl ⟨by rfl, ?_⟩) ?_ ?_
 rotate_left
 ·intro w'
  go_simp
  with_reducible rfl
 rotate_left
 ·simp only [Act.put, List.setIfInBounds_toArray, List.set_cons_zero, List.set_cons_succ, i64_w, i32_w]
  rfl
 refine one_ (i := 8) (N := some 14) #[true, true, true, true, true, true, true, true, true, false] rfl rfl (one_of HT_.out (by kernel_rfl)) (by decide) (fun K hK => ?_)
 refine goesO_ HG2_0.out #[.int .i64 ji6] (by rfl) rfl rfl (by (try simp only [List.map_toArray, List.map_cons, List.map_nil]); first | done | (simp only [hji6]; rfl) | rfl | (simp only [List.length_drop, List.length_take]; rfl)) rfl ?_
 with_reducible refine (HF2_0.out ji6 t142 _ ?side1 A7.out).mono ?_
 (case side1 => exact (bw0_ HB.out))
 rintro e w11 ⟨rfl, hb⟩
 refine ⟨_, rfl, ?_⟩
 replace BK2 := sd_ (bb_ BK2.out hb)
 replace HB := sd_ (below_step (bw0_ HB.out) hb)
 (try clear hb)
 (try clear hb2)
 (try clear hk)
 (try clear hi)
 refine hK.out _ _ ((blk_cell BK2.out 0).trans rfl) (fun hHeld => ?_)
 clear hK K
 refine norm_ (a' := ?_) ?_ ?_
 rotate_left
 ·show Act.put _ (some 14) _ = _
  simp only [Act.put, List.setIfInBounds_toArray, List.set_cons_zero, List.set_cons_succ, i64_w, i32_w]
  rfl
 refine pure_ (i := 9) (N := some 5) (v := ?_) (a' := ?_) #[true, true, true, true, true, true, true, true, true, true] rfl rfl (any_of HT_.out (by kernel_rfl)) (fun _ _ _ h => h) (Or.inl ⟨by rfl, ?_⟩) ?_ ?_
 rotate_left
 ·intro w'
  go_simp
  with_reducible rfl
 rotate_left
 ·simp only [Act.put, List.setIfInBounds_toArray, List.set_cons_zero, List.set_cons_succ, i64_w, i32_w]
  rfl
 refine done_ (done_of HT_.out (by kernel_rfl)) ?_
 try go_wp2
 go_ret
 exact ⟨by first | rfl | (simp [errW_none, errW_some] <;> rfl) | (simp only [← hji6]; first | rfl | (simp [errW_none, errW_some] <;> rfl)) | (simp [*, errW_none, errW_some] <;> rfl), bw0_ HB.out⟩


/-! ### impl_LevelSystem_3: function 60 -/
def impl_LevelSystem_3.f (a0 : Int) (a1 : Int) (x2_0 : (Int → Option (Int))) : Option (Int) := (x2_0 a0).bind fun t143 => ((x2_0 a1).bind fun t144 => ((x2_0 (mn t143 t144)).bind fun t145 => (some t145)))
def impl_LevelSystem_3.T1 : Bool × List (List Nat × List Nat) := (true, [([], []), ([], []), ([], []), ([1, 2], [1, 2]), ([], []), ([], []), ([4, 5, 3], [4, 5]), ([3, 6], [3, 6]), ([0, 7, 6], [0, 7]), ([8, 8, 0, 1, 2, 3, 4, 5, 6, 7, 8], [8])])
def impl_LevelSystem_3.B1 : List Nat := [0, 0, 0, 6, 0, 0, 62, 126, 255, 511]
theorem impl_LevelSystem_3.tab1 : rtab .any (opsOf Try.f60 1) = impl_LevelSystem_3.T1 := by kernel_rfl
theorem impl_LevelSystem_3.bits1 : waitsOk impl_LevelSystem_3.T1.2 impl_LevelSystem_3.B1 = true := by kernel_rfl
set_option maxHeartbeats 8000000 in
set_option maxRecDepth 100000 in
theorem impl_LevelSystem_3.calls (a0 : Int) (a1 : Int) (g2 : Nat) (x2_0 : (Int → Option (Int))) (K2_0_ : Nat) (F2_0_ C2_0_ : Array Value) (r : Int) (w : World) (hG2_0 : OFn K2_0_) (hF2_0 : OC65 w x2_0 K2_0_ F2_0_ C2_0_) (hb2 : w.heap[g2]? = some (.cells #[.func (.func K2_0_) F2_0_ C2_0_] 65 (0, 0))) (h : impl_LevelSystem_3.f a0 a1 x2_0 = some r) :
  Calls Try.prog 60 #[.int .i64 a0, .int .i64 a1, .pointer (some ⟨g2, 0, none⟩)] w fun e w' => e = .returned (.int .i64 r) ∧ Below w.heap.size w w' := by
 have HG2_0 := sd_ hG2_0
 have HF2_0 := sd_ hF2_0
 clear hG2_0 hF2_0
 have BK2 := sd_ hb2
 clear hb2
 have HB := sd_ (Below.refl w.heap.size w)
 have H : ((x2_0 a0).bind fun t143 => ((x2_0 a1).bind fun t144 => ((x2_0 (mn t143 t144)).bind fun t145 => (some t145)))) = some r := h
 clear h
 replace H := Option.bind_eq_some_iff.mp H
 obtain ⟨t143, A40, H⟩ := H
 try dsimp only at H
 have A4 := sd_ A40
 clear A40
 replace H := Option.bind_eq_some_iff.mp H
 obtain ⟨t144, A50, H⟩ := H
 try dsimp only at H
 have A5 := sd_ A50
 clear A50
 obtain ⟨ji6, hji6⟩ : ∃ j_ : Int, (mn t143 t144) = j_ := ⟨_, rfl⟩
 replace H : ((x2_0 (ji6)).bind fun t145 => (some t145)) = some r := by first | (rw [hji6] at H; exact H) | (simp only [hji6] at H ⊢; exact H)
 (try rw [hji6] at A4)
 (try rw [hji6] at A5)
 have hji6_ : (if t144 < t143 then t144 else t143) = ji6 := hji6
 replace H := Option.bind_eq_some_iff.mp H
 obtain ⟨t145, A70, H⟩ := H
 try dsimp only at H
 have A7 := sd_ A70
 clear A70
 obtain rfl := Option.some.inj H
 go_enter Try.func60, Try.ntmps60
 try go_wp2
 replace BK2 := sd_ (blk_drew BK2.out)
 replace HB := sd_ (below_drew1 HB.out)
 refine start_ (n := 10) (S := fun w' => w'.cell? ⟨g2, 0, none⟩ = some (.func (.func K2_0_) F2_0_ C2_0_)) (ds := []) #[false, false, false, false, false, false, false, false, false, false] (by kernel_rfl) rfl rfl ((blk_cell BK2.out 0).trans rfl) (fun hHeld => ?_); refine with_tabW impl_LevelSystem_3.tab1 impl_LevelSystem_3.bits1 (fun HT_ HW_ => ?_)
 generalize w.drew = w8 at BK2 HB hHeld ⊢
 refine pure_ (i := 2) (N := some 8) (v := ?_) (a' := ?_) #[false, false, true, false, false, false, false, false, false, false] rfl rfl (any_of HT_.out (by kernel_rfl)) (fun _ _ _ h => h) (Or.inl ⟨by rfl, ?_⟩) ?_ ?_
 rotate_left
 ·intro w'
  go_simp
  with_reducible rfl
 rotate_left
 ·simp only [Act.put, List.setIfInBounds_toArray, List.set_cons_zero, List.set_cons_succ, i64_w, i32_w]
  rfl
 refine pure_ (i := 5) (N := some 11) (v := ?_) (a' := ?_) #[false, false, true, false, false, true, false, false, false, false] rfl rfl (any_of HT_.out (by kernel_rfl)) (fun _ _ _ h => h) (Or.inl ⟨by rfl, ?_⟩) ?_ ?_
 rotate_left
 ·intro w'
  go_simp
  with_reducible rfl
 rotate_left
 ·simp only [Act.put, List.setIfInBounds_toArray, List.set_cons_zero, List.set_cons_succ, i64_w, i32_w]
  rfl
 refine take_ (i := 0) (N := some 6) (v := ?_) (a' := ?_) #[true, false, true, false, false, true, false, false, false, false] rfl rfl (take_ofW HT_.out HW_.out (by kernel_rfl)) (fun _ _ _ h => h) (Or.inl ⟨by rfl, ?_⟩) hHeld ?_ ?_
 rotate_left
 ·intro w' s0
  go_simp
  with_reducible rfl
 rotate_left
 ·simp only [Act.put, List.setIfInBounds_toArray, List.set_cons_zero, List.set_cons_succ, i64_w, i32_w]
  rfl
 refine take_ (i := 1) (N := some 7) (v := ?_) (a' := ?_) #[true, true, true, false, false, true, false, false, false, false] rfl rfl (take_ofW HT_.out HW_.out (by kernel_rfl)) (fun _ _ _ h => h) (Or.inl ⟨by rfl, ?_⟩) hHeld ?_ ?_
 rotate_left
 ·intro w' s0
  go_simp
  with_reducible rfl
 rotate_left
 ·simp only [Act.put, List.setIfInBounds_toArray, List.set_cons_zero, List.set_cons_succ, i64_w, i32_w]
  rfl
 refine take_ (i := 4) (N := some 10) (v := ?_) (a' := ?_) #[true, true, true, false, true, true, false, false, false, false] rfl rfl (take_ofW HT_.out HW_.out (by kernel_rfl)) (fun _ _ _ h => h) (Or.inl ⟨by rfl, ?_⟩) hHeld ?_ ?_
 rotate_left
 ·intro w' s0
  go_simp
  with_reducible rfl
 rotate_left
 ·simp only [Act.put, List.setIfInBounds_toArray, List.set_cons_zero, List.set_cons_succ, i64_w, i32_w]
  rfl
 refine one_ (i := 3) (N := some 9) #[true, true, true, true, true, true, false, false, false, false] rfl rfl (one_of HT_.out (by kernel_rfl)) (by decide) (fun K hK => ?_)
 refine goesO_ HG2_0.out #[.int .i64 a0] (by rfl) rfl rfl la_ rfl ?_
 with_reducible refine (HF2_0.out a0 t143 _ ?side1 A4.out).mono ?_
 (case side1 => exact (bw0_ HB.out))
 rintro e w9 ⟨rfl, hb⟩
 refine ⟨_, rfl, ?_⟩
 replace BK2 := sd_ (bb_ BK2.out hb)
 replace HB := sd_ (below_step (bw0_ HB.out) hb)
 (try clear hb)
 (try clear hb2)
 (try clear hk)
 (try clear hi)
 refine hK.out _ _ ((blk_cell BK2.out 0).trans rfl) (fun hHeld => ?_)
 clear hK K
 refine norm_ (a' := ?_) ?_ ?_
 rotate_left
 ·show Act.put _ (some 9) _ = _
  simp only [Act.put, List.setIfInBounds_toArray, List.set_cons_zero, List.set_cons_succ, i64_w, i32_w]
  rfl
 refine one_ (i := 6) (N := some 12) #[true, true, true, true, true, true, true, false, false, false] rfl rfl (one_of HT_.out (by kernel_rfl)) (by decide) (fun K hK => ?_)
 refine goesO_ HG2_0.out #[.int .i64 a1] (by rfl) rfl rfl la_ rfl ?_
 with_reducible refine (HF2_0.out a1 t144 _ ?side1 A5.out).mono ?_
 (case side1 => exact (bw0_ HB.out))
 rintro e w10 ⟨rfl, hb⟩
 refine ⟨_, rfl, ?_⟩
 replace BK2 := sd_ (bb_ BK2.out hb)
 replace HB := sd_ (below_step (bw0_ HB.out) hb)
 (try clear hb)
 (try clear hb2)
 (try clear hk)
 (try clear hi)
 refine hK.out _ _ ((blk_cell BK2.out 0).trans rfl) (fun hHeld => ?_)
 clear hK K
 refine norm_ (a' := ?_) ?_ ?_
 rotate_left
 ·show Act.put _ (some 12) _ = _
  simp only [Act.put, List.setIfInBounds_toArray, List.set_cons_zero, List.set_cons_succ, i64_w, i32_w]
  rfl
 refine pure_ (i := 7) (N := some 13) (v := ?_) (a' := ?_) #[true, true, true, true, true, true, true, true, false, false] rfl rfl (any_of HT_.out (by kernel_rfl)) (fun _ _ _ h => h) (Or.inl ⟨by rfl, ?_⟩) ?_ ?_
 rotate_left
 ·intro w'
  go_simp
  with_reducible rfl
 rotate_left
 ·simp only [Act.put, List.setIfInBounds_toArray, List.set_cons_zero, List.set_cons_succ, i64_w, i32_w]
  rfl
 refine one_ (i := 8) (N := some 14) #[true, true, true, true, true, true, true, true, true, false] rfl rfl (one_of HT_.out (by kernel_rfl)) (by decide) (fun K hK => ?_)
 refine goesO_ HG2_0.out #[.int .i64 ji6] (by rfl) rfl rfl (by (try simp only [List.map_toArray, List.map_cons, List.map_nil]); first | done | (simp only [hji6]; rfl) | rfl | (simp only [List.length_drop, List.length_take]; rfl)) rfl ?_
 with_reducible refine (HF2_0.out ji6 t145 _ ?side1 A7.out).mono ?_
 (case side1 => exact (bw0_ HB.out))
 rintro e w11 ⟨rfl, hb⟩
 refine ⟨_, rfl, ?_⟩
 replace BK2 := sd_ (bb_ BK2.out hb)
 replace HB := sd_ (below_step (bw0_ HB.out) hb)
 (try clear hb)
 (try clear hb2)
 (try clear hk)
 (try clear hi)
 refine hK.out _ _ ((blk_cell BK2.out 0).trans rfl) (fun hHeld => ?_)
 clear hK K
 refine norm_ (a' := ?_) ?_ ?_
 rotate_left
 ·show Act.put _ (some 14) _ = _
  simp only [Act.put, List.setIfInBounds_toArray, List.set_cons_zero, List.set_cons_succ, i64_w, i32_w]
  rfl
 refine pure_ (i := 9) (N := some 5) (v := ?_) (a' := ?_) #[true, true, true, true, true, true, true, true, true, true] rfl rfl (any_of HT_.out (by kernel_rfl)) (fun _ _ _ h => h) (Or.inl ⟨by rfl, ?_⟩) ?_ ?_
 rotate_left
 ·intro w'
  go_simp
  with_reducible rfl
 rotate_left
 ·simp only [Act.put, List.setIfInBounds_toArray, List.set_cons_zero, List.set_cons_succ, i64_w, i32_w]
  rfl
 refine done_ (done_of HT_.out (by kernel_rfl)) ?_
 try go_wp2
 go_ret
 exact ⟨by first | rfl | (simp [errW_none, errW_some] <;> rfl) | (simp only [← hji6]; first | rfl | (simp [errW_none, errW_some] <;> rfl)) | (simp [*, errW_none, errW_some] <;> rfl), bw0_ HB.out⟩


/-! ### impl_LevelSystem_4: function 61 -/
def impl_LevelSystem_4.f (a0 : Int) (a1 : Int) (x2_0 : (Int → Option (Int))) : Option (Bool) := (x2_0 a0).bind fun t146 => ((x2_0 a1).bind fun t147 => (some (decide (t146 ≤ t147))))
def impl_LevelSystem_4.T1 : Bool × List (List Nat × List Nat) := (true, [([], []), ([], []), ([0, 1], [0, 1]), ([], []), ([], []), ([3, 4, 2], [3, 4]), ([2, 5], [2, 5]), ([6, 5, 0, 1, 2, 3, 4, 5, 6], [6])])
def impl_LevelSystem_4.B1 : List Nat := [0, 0, 3, 0, 0, 31, 63, 127]
theorem impl_LevelSystem_4.tab1 : rtab .any (opsOf Try.f61 1) = impl_LevelSystem_4.T1 := by kernel_rfl
theorem impl_LevelSystem_4.bits1 : waitsOk impl_LevelSystem_4.T1.2 impl_LevelSystem_4.B1 = true := by kernel_rfl
set_option maxHeartbeats 8000000 in
set_option maxRecDepth 100000 in
theorem impl_LevelSystem_4.calls (a0 : Int) (a1 : Int) (g2 : Nat) (x2_0 : (Int → Option (Int))) (K2_0_ : Nat) (F2_0_ C2_0_ : Array Value) (r : Bool) (w : World) (hG2_0 : OFn K2_0_) (hF2_0 : OC65 w x2_0 K2_0_ F2_0_ C2_0_) (hb2 : w.heap[g2]? = some (.cells #[.func (.func K2_0_) F2_0_ C2_0_] 65 (0, 0))) (h : impl_LevelSystem_4.f a0 a1 x2_0 = some r) :
  Calls Try.prog 61 #[.int .i64 a0, .int .i64 a1, .pointer (some ⟨g2, 0, none⟩)] w fun e w' => e = .returned (.bool r) ∧ Below w.heap.size w w' := by
 have HG2_0 := sd_ hG2_0
 have HF2_0 := sd_ hF2_0
 clear hG2_0 hF2_0
 have BK2 := sd_ hb2
 clear hb2
 have HB := sd_ (Below.refl w.heap.size w)
 have H : ((x2_0 a0).bind fun t146 => ((x2_0 a1).bind fun t147 => (some (decide (t146 ≤ t147))))) = some r := h
 clear h
 replace H := Option.bind_eq_some_iff.mp H
 obtain ⟨t146, A40, H⟩ := H
 try dsimp only at H
 have A4 := sd_ A40
 clear A40
 replace H := Option.bind_eq_some_iff.mp H
 obtain ⟨t147, A50, H⟩ := H
 try dsimp only at H
 have A5 := sd_ A50
 clear A50
 obtain rfl := Option.some.inj H
 go_enter Try.func61, Try.ntmps61
 try go_wp2
 replace BK2 := sd_ (blk_drew BK2.out)
 replace HB := sd_ (below_drew1 HB.out)
 refine start_ (n := 8) (S := fun w' => w'.cell? ⟨g2, 0, none⟩ = some (.func (.func K2_0_) F2_0_ C2_0_)) (ds := []) #[false, false, false, false, false, false, false, false] (by kernel_rfl) rfl rfl ((blk_cell BK2.out 0).trans rfl) (fun hHeld => ?_); refine with_tabW impl_LevelSystem_4.tab1 impl_LevelSystem_4.bits1 (fun HT_ HW_ => ?_)
 generalize w.drew = w6 at BK2 HB hHeld ⊢
 refine pure_ (i := 1) (N := some 7) (v := ?_) (a' := ?_) #[false, true, false, false, false, false, false, false] rfl rfl (any_of HT_.out (by kernel_rfl)) (fun _ _ _ h => h) (Or.inl ⟨by rfl, ?_⟩) ?_ ?_
 rotate_left
 ·intro w'
  go_simp
  with_reducible rfl
 rotate_left
 ·simp only [Act.put, List.setIfInBounds_toArray, List.set_cons_zero, List.set_cons_succ, i64_w, i32_w]
  rfl
 refine pure_ (i := 4) (N := some 10) (v := ?_) (a' := ?_) #[false, true, false, false, true, false, false, false] rfl rfl (any_of HT_.out (by kernel_rfl)) (fun _ _ _ h => h) (Or.inl ⟨by rfl, ?_⟩) ?_ ?_
 rotate_left
 ·intro w'
  go_simp
  with_reducible rfl
 rotate_left
 ·simp only [Act.put, List.setIfInBounds_toArray, List.set_cons_zero, List.set_cons_succ, i64_w, i32_w]
  rfl
 refine take_ (i := 0) (N := some 6) (v := ?_) (a' := ?_) #[true, true, false, false, true, false, false, false] rfl rfl (take_ofW HT_.out HW_.out (by kernel_rfl)) (fun _ _ _ h => h) (Or.inl ⟨by rfl, ?_⟩) hHeld ?_ ?_
 rotate_left
 ·intro w' s0
  go_simp
  with_reducible rfl
 rotate_left
 ·simp only [Act.put, List.setIfInBounds_toArray, List.set_cons_zero, List.set_cons_succ, i64_w, i32_w]
  rfl
 refine take_ (i := 3) (N := some 9) (v := ?_) (a' := ?_) #[true, true, false, true, true, false, false, false] rfl rfl (take_ofW HT_.out HW_.out (by kernel_rfl)) (fun _ _ _ h => h) (Or.inl ⟨by rfl, ?_⟩) hHeld ?_ ?_
 rotate_left
 ·intro w' s0
  go_simp
  with_reducible rfl
 rotate_left
 ·simp only [Act.put, List.setIfInBounds_toArray, List.set_cons_zero, List.set_cons_succ, i64_w, i32_w]
  rfl
 refine one_ (i := 2) (N := some 8) #[true, true, true, true, true, false, false, false] rfl rfl (one_of HT_.out (by kernel_rfl)) (by decide) (fun K hK => ?_)
 refine goesO_ HG2_0.out #[.int .i64 a0] (by rfl) rfl rfl la_ rfl ?_
 with_reducible refine (HF2_0.out a0 t146 _ ?side1 A4.out).mono ?_
 (case side1 => exact (bw0_ HB.out))
 rintro e w7 ⟨rfl, hb⟩
 refine ⟨_, rfl, ?_⟩
 replace BK2 := sd_ (bb_ BK2.out hb)
 replace HB := sd_ (below_step (bw0_ HB.out) hb)
 (try clear hb)
 (try clear hb2)
 (try clear hk)
 (try clear hi)
 refine hK.out _ _ ((blk_cell BK2.out 0).trans rfl) (fun hHeld => ?_)
 clear hK K
 refine norm_ (a' := ?_) ?_ ?_
 rotate_left
 ·show Act.put _ (some 8) _ = _
  simp only [Act.put, List.setIfInBounds_toArray, List.set_cons_zero, List.set_cons_succ, i64_w, i32_w]
  rfl
 refine one_ (i := 5) (N := some 11) #[true, true, true, true, true, true, false, false] rfl rfl (one_of HT_.out (by kernel_rfl)) (by decide) (fun K hK => ?_)
 refine goesO_ HG2_0.out #[.int .i64 a1] (by rfl) rfl rfl la_ rfl ?_
 with_reducible refine (HF2_0.out a1 t147 _ ?side1 A5.out).mono ?_
 (case side1 => exact (bw0_ HB.out))
 rintro e w8 ⟨rfl, hb⟩
 refine ⟨_, rfl, ?_⟩
 replace BK2 := sd_ (bb_ BK2.out hb)
 replace HB := sd_ (below_step (bw0_ HB.out) hb)
 (try clear hb)
 (try clear hb2)
 (try clear hk)
 (try clear hi)
 refine hK.out _ _ ((blk_cell BK2.out 0).trans rfl) (fun hHeld => ?_)
 clear hK K
 refine norm_ (a' := ?_) ?_ ?_
 rotate_left
 ·show Act.put _ (some 11) _ = _
  simp only [Act.put, List.setIfInBounds_toArray, List.set_cons_zero, List.set_cons_succ, i64_w, i32_w]
  rfl
 refine pure_ (i := 6) (N := some 12) (v := ?_) (a' := ?_) #[true, true, true, true, true, true, true, false] rfl rfl (any_of HT_.out (by kernel_rfl)) (fun _ _ _ h => h) (Or.inl ⟨by rfl, ?_⟩) ?_ ?_
 rotate_left
 ·intro w'
  go_simp
  with_reducible rfl
 rotate_left
 ·simp only [Act.put, List.setIfInBounds_toArray, List.set_cons_zero, List.set_cons_succ, i64_w, i32_w]
  rfl
 refine pure_ (i := 7) (N := some 5) (v := ?_) (a' := ?_) #[true, true, true, true, true, true, true, true] rfl rfl (any_of HT_.out (by kernel_rfl)) (fun _ _ _ h => h) (Or.inl ⟨by rfl, ?_⟩) ?_ ?_
 rotate_left
 ·intro w'
  go_simp
  with_reducible rfl
 rotate_left
 ·simp only [Act.put, List.setIfInBounds_toArray, List.set_cons_zero, List.set_cons_succ, i64_w, i32_w]
  rfl
 refine done_ (done_of HT_.out (by kernel_rfl)) ?_
 try go_wp2
 go_ret
 exact ⟨an_, bw0_ HB.out⟩


/-! ### impl_LevelSystem: function 15 -/
def impl_LevelSystem.f (k : Nat) (a0 : Int) : Option (Int × List Int × List Int × List Bool) := (impl_within.f a0 1 15).bind fun t150 => (if t150 = true then ((impl_tabled.f k (wrap64 (a0 + 1)) (fun z0_ z1_ => impl_LevelSystem_2.f z0_ z1_ (fun z0_ => impl_LevelSystem_1.f z0_ a0)) (fun z0_ z1_ => impl_LevelSystem_3.f z0_ z1_ (fun z0_ => impl_LevelSystem_1.f z0_ a0)) (fun z0_ z1_ => impl_LevelSystem_4.f z0_ z1_ (fun z0_ => impl_LevelSystem_1.f z0_ a0))).bind fun bt152 => (some (bt152.1, bt152.2.1, bt152.2.2.1, bt152.2.2.2))) else (some (0, ([] : List Int), ([] : List Int), ([] : List Bool))))
set_option maxHeartbeats 8000000 in
set_option maxRecDepth 100000 in
theorem impl_LevelSystem.calls (k : Nat) (a0 : Int) (r1 : Int) (r2 : List Int) (r3 : List Int) (r4 : List Bool) (w : World) (h : impl_LevelSystem.f k a0 = some (r1, r2, r3, r4)) :
  Calls Try.prog 15 #[.int .i64 a0] w fun e w' => ∃ v1_ v2_ v3_ : Value, e = .returned (.agg #[.int .i64 r1, v1_, v2_, v3_]) ∧ Kd.R (Kd.int .i64) 3 w' w.heap.size (fun k_ => some k_ ≠ (v2_ : Value).ownBlock) v1_ r2 ∧ Kd.R (Kd.int .i64) 3 w' w.heap.size (fun k_ => some k_ ≠ (v1_ : Value).ownBlock) v2_ r3 ∧ Kd.R Kd.bool 4 w' w.heap.size (fun _ => True) v3_ r4 ∧ Below w.heap.size w w' := by
 have hu27 := Try.underlying27
 have HB := sd_ (Below.refl w.heap.size w)
 have H : ((impl_within.f a0 1 15).bind fun t150 => (if t150 = true then ((impl_tabled.f k (wrap64 (a0 + 1)) (fun z0_ z1_ => impl_LevelSystem_2.f z0_ z1_ (fun z0_ => impl_LevelSystem_1.f z0_ a0)) (fun z0_ z1_ => impl_LevelSystem_3.f z0_ z1_ (fun z0_ => impl_LevelSystem_1.f z0_ a0)) (fun z0_ z1_ => impl_LevelSystem_4.f z0_ z1_ (fun z0_ => impl_LevelSystem_1.f z0_ a0))).bind fun bt152 => (some (bt152.1, bt152.2.1, bt152.2.2.1, bt152.2.2.2))) else (some (0, ([] : List Int), ([] : List Int), ([] : List Bool))))) = some (r1, r2, r3, r4) := h
 clear h
 replace H := Option.bind_eq_some_iff.mp H
 obtain ⟨t150, A20, H⟩ := H
 try dsimp only at H
 have A2 := sd_ A20
 clear A20
 have HP3 := sd_ H
 clear H
 go_enter Try.func15, Try.ntmps15
 go_upto_if 6 with (first | ((with_reducible refine gate_dst (N := 1) rfl ?_); refine bx_ (N := 1) (cs := #[.int .i64 a0]) (t := 3) ?_; intro gb148 hg w4 hbox hb; have BK148 := sd_ (hbox); have GW148 := sd_ (gs_ hg (bw0_ HB.out)); have GE148 := sd_ (gs_ hg (bw0_ HB.out)); replace HB := sd_ (below_step (bw0_ HB.out) hb); clear hb hbox hg) | ((with_reducible refine gate_dst (N := 2) rfl ?_); refine bx_ (N := 2) (cs := #[.int .i64 0, .slice none 0 0, .slice none 0 0, .slice none 0 0]) (t := 27) ?_; intro gb149 hg w5 hbox hb; have BK149 := sd_ (hbox); have GW149 := sd_ (gs_ hg (bw1_ HB.out GE148.out)); have GE149 := sd_ (gs_ hg (bw1_ HB.out GE148.out)); replace HB := sd_ (below_step (bw1_ HB.out GE148.out) hb); have NB148_149 := sd_ (nl_ hg (bl_ BK148.out)); have NB149_148 := sd_ (ng_ hg (bl_ BK148.out)); replace BK148 := sd_ (bb_ BK148.out hb); clear hb hbox hg; have hnb6 := NB148_149.out; have hnc6 := NB149_148.out; have hcz7_0 : w5.cell? ⟨gb148, 0, none⟩ = some (.int .i64 a0) := (blk_cell BK148.out 0).trans rfl; have hfz7_0 := blk_frozen BK148.out 0) | ((with_reducible refine gate_callee (f := 54) rfl ?_); refine goesL_ (some 5) rfl rfl Try.func54 (by kernel_rfl) rfl #[.int .i64 a0, .int .i64 1, .int .i64 15] rfl la_ ?_; (with_reducible refine (impl_within.calls a0 1 15 t150 _ A2.out).mono ?_); rintro e w' ⟨rfl, ⟨nd, rfl⟩⟩; refine ⟨_, rfl, ?_⟩))
 have H := HP3.out
 clear HP3
 by_cases c8 : t150 = true
 ·subst c8
  have H1 : ((impl_tabled.f k (wrap64 (a0 + 1)) (fun z0_ z1_ => impl_LevelSystem_2.f z0_ z1_ (fun z0_ => impl_LevelSystem_1.f z0_ a0)) (fun z0_ z1_ => impl_LevelSystem_3.f z0_ z1_ (fun z0_ => impl_LevelSystem_1.f z0_ a0)) (fun z0_ z1_ => impl_LevelSystem_4.f z0_ z1_ (fun z0_ => impl_LevelSystem_1.f z0_ a0))).bind fun bt152 => (some (bt152.1, bt152.2.1, bt152.2.2.1, bt152.2.2.2))) = some (r1, r2, r3, r4) := by rw [if_pos rfl] at H; exact H
  clear H
  have H := H1
  clear H1
  replace H := Option.bind_eq_some_iff.mp H
  obtain ⟨⟨t152, t153, t156, t159⟩, A90, H⟩ := H
  try dsimp only at H
  have A9 := sd_ A90
  clear A90
  simp only [Option.some.injEq, Prod.mk.injEq] at H
  obtain ⟨rfl, rfl, rfl, rfl⟩ := H
  go_wp2_with (first | ((with_reducible refine gate_dst (N := 3) rfl ?_); refine bx_ (N := 3) (cs := #[.nilFunc]) (t := 65) ?_; intro gb151 hg w10 hbox hb; have BK151 := sd_ (hbox); have GW151 := sd_ (gs_ hg (bw2_ HB.out GE148.out GE149.out)); have GE151 := sd_ (gs_ hg (bw2_ HB.out GE148.out GE149.out)); replace HB := sd_ (below_step (bw2_ HB.out GE148.out GE149.out) hb); have NB148_151 := sd_ (nl_ hg (bl_ BK148.out)); have NB151_148 := sd_ (ng_ hg (bl_ BK148.out)); replace BK148 := sd_ (bb_ BK148.out hb); have NB149_151 := sd_ (nl_ hg (bl_ BK149.out)); have NB151_149 := sd_ (ng_ hg (bl_ BK149.out)); replace BK149 := sd_ (bb_ BK149.out hb); clear hb hbox hg; have hnb11 := NB151_148.out; have hnc11 := NB148_151.out; have hnb12 := NB151_149.out; have hnc12 := NB149_151.out; have hcz13_0 : w10.cell? ⟨gb151, 0, none⟩ = some (.nilFunc) := (blk_cell BK151.out 0).trans rfl; have hfz13_0 := blk_frozen BK151.out 0; have hnb14 := NB148_149.out; have hnc14 := NB149_148.out; have hcz15_0 : w10.cell? ⟨gb148, 0, none⟩ = some (.int .i64 a0) := (blk_cell BK148.out 0).trans rfl; have hfz15_0 := blk_frozen BK148.out 0) | ((with_reducible refine gate_callee (f := 58) rfl ?_); refine goesL_ (some 14) rfl rfl Try.func58 (by kernel_rfl) rfl #[.int .i64 (wrap64 (a0 + 1)), .func (.func 59) #[] #[.pointer (some ⟨gb151, 0, none⟩)], .func (.func 60) #[] #[.pointer (some ⟨gb151, 0, none⟩)], .func (.func 61) #[] #[.pointer (some ⟨gb151, 0, none⟩)]] rfl la_ ?_; (with_reducible refine (impl_tabled.calls k (wrap64 (a0 + 1)) (fun z0_ z1_ => impl_LevelSystem_2.f z0_ z1_ (fun z0_ => impl_LevelSystem_1.f z0_ a0)) 59 #[] #[.pointer (some ⟨gb151, 0, none⟩)] (fun z0_ z1_ => impl_LevelSystem_3.f z0_ z1_ (fun z0_ => impl_LevelSystem_1.f z0_ a0)) 60 #[] #[.pointer (some ⟨gb151, 0, none⟩)] (fun z0_ z1_ => impl_LevelSystem_4.f z0_ z1_ (fun z0_ => impl_LevelSystem_1.f z0_ a0)) 61 #[] #[.pointer (some ⟨gb151, 0, none⟩)] t152 t153 t156 t159 _ ?side1 ?side2 ?side3 ?side4 ?side5 ?side6 A9.out).mono ?_); (case side1 => exact ⟨_, Try.func59, (by kernel_rfl), rfl⟩); (case side2 => intro z0_0 z1_0 rr0_0 w9_0  hb9_0 h9_0; refine calls_of_args (args' := #[.int .i64 z0_0, .int .i64 z1_0, .pointer (some ⟨gb151, 0, none⟩)]) (by first | rfl | simp) ?_; refine (impl_LevelSystem_2.calls z0_0 z1_0 gb151 (fun z0_ => impl_LevelSystem_1.f z0_ a0) 57 #[] #[.pointer (some ⟨gb148, 0, none⟩)] rr0_0 w9_0 (by exact ⟨_, Try.func57, (by kernel_rfl), rfl⟩) (by intro z0_1 rr0_1 w9_1  hb9_1 h9_1; refine calls_of_args (args' := #[.int .i64 z0_1, .pointer (some ⟨gb148, 0, none⟩)]) (by first | rfl | simp) ?_; refine (impl_LevelSystem_1.calls z0_1 gb148 a0 rr0_1 w9_1 (blk_below (blk_below (by (with_reducible repeat (first | refine blk_drewN ?_ _ | refine blk_drew ?_ | refine blk_alloc ?_ _)); refine blk_far ?_ NB148_151.out _; (with_reducible repeat (first | refine blk_drewN ?_ _ | refine blk_drew ?_ | refine blk_alloc ?_ _)); exact BK148.out) hb9_0) hb9_1) h9_1).mono ?_; exact fun _ _ h_ => ⟨h_.1, h_.2.below⟩) (blk_below (by (with_reducible repeat (first | refine blk_drewN ?_ _ | refine blk_drew ?_ | refine blk_alloc ?_ _)); refine blk_put (cs := #[.nilFunc]) ?_ 0 _ rfl; (with_reducible repeat (first | refine blk_drewN ?_ _ | refine blk_drew ?_ | refine blk_alloc ?_ _)); exact BK151.out) hb9_0) h9_0).mono ?_; exact fun _ _ h_ => h_); (case side3 => exact ⟨_, Try.func60, (by kernel_rfl), rfl⟩); (case side4 => intro z0_0 z1_0 rr0_0 w9_0  hb9_0 h9_0; refine calls_of_args (args' := #[.int .i64 z0_0, .int .i64 z1_0, .pointer (some ⟨gb151, 0, none⟩)]) (by first | rfl | simp) ?_; refine (impl_LevelSystem_3.calls z0_0 z1_0 gb151 (fun z0_ => impl_LevelSystem_1.f z0_ a0) 57 #[] #[.pointer (some ⟨gb148, 0, none⟩)] rr0_0 w9_0 (by exact ⟨_, Try.func57, (by kernel_rfl), rfl⟩) (by intro z0_1 rr0_1 w9_1  hb9_1 h9_1; refine calls_of_args (args' := #[.int .i64 z0_1, .pointer (some ⟨gb148, 0, none⟩)]) (by first | rfl | simp) ?_; refine (impl_LevelSystem_1.calls z0_1 gb148 a0 rr0_1 w9_1 (blk_below (blk_below (by (with_reducible repeat (first | refine blk_drewN ?_ _ | refine blk_drew ?_ | refine blk_alloc ?_ _)); refine blk_far ?_ NB148_151.out _; (with_reducible repeat (first | refine blk_drewN ?_ _ | refine blk_drew ?_ | refine blk_alloc ?_ _)); exact BK148.out) hb9_0) hb9_1) h9_1).mono ?_; exact fun _ _ h_ => ⟨h_.1, h_.2.below⟩) (blk_below (by (with_reducible repeat (first | refine blk_drewN ?_ _ | refine blk_drew ?_ | refine blk_alloc ?_ _)); refine blk_put (cs := #[.nilFunc]) ?_ 0 _ rfl; (with_reducible repeat (first | refine blk_drewN ?_ _ | refine blk_drew ?_ | refine blk_alloc ?_ _)); exact BK151.out) hb9_0) h9_0).mono ?_; exact fun _ _ h_ => h_); (case side5 => exact ⟨_, Try.func61, (by kernel_rfl), rfl⟩); (case side6 => intro z0_0 z1_0 rr0_0 w9_0  hb9_0 h9_0; refine calls_of_args (args' := #[.int .i64 z0_0, .int .i64 z1_0, .pointer (some ⟨gb151, 0, none⟩)]) (by first | rfl | simp) ?_; refine (impl_LevelSystem_4.calls z0_0 z1_0 gb151 (fun z0_ => impl_LevelSystem_1.f z0_ a0) 57 #[] #[.pointer (some ⟨gb148, 0, none⟩)] rr0_0 w9_0 (by exact ⟨_, Try.func57, (by kernel_rfl), rfl⟩) (by intro z0_1 rr0_1 w9_1  hb9_1 h9_1; refine calls_of_args (args' := #[.int .i64 z0_1, .pointer (some ⟨gb148, 0, none⟩)]) (by first | rfl | simp) ?_; refine (impl_LevelSystem_1.calls z0_1 gb148 a0 rr0_1 w9_1 (blk_below (blk_below (by (with_reducible repeat (first | refine blk_drewN ?_ _ | refine blk_drew ?_ | refine blk_alloc ?_ _)); refine blk_far ?_ NB148_151.out _; (with_reducible repeat (first | refine blk_drewN ?_ _ | refine blk_drew ?_ | refine blk_alloc ?_ _)); exact BK148.out) hb9_0) hb9_1) h9_1).mono ?_; exact fun _ _ h_ => ⟨h_.1, h_.2.below⟩) (blk_below (by (with_reducible repeat (first | refine blk_drewN ?_ _ | refine blk_drew ?_ | refine blk_alloc ?_ _)); refine blk_put (cs := #[.nilFunc]) ?_ 0 _ rfl; (with_reducible repeat (first | refine blk_drewN ?_ _ | refine blk_drew ?_ | refine blk_alloc ?_ _)); exact BK151.out) hb9_0) h9_0).mono ?_; exact fun _ _ h_ => h_); rintro e w16 ⟨v154, v157, v160, rfl, ho0, ho1, ho2, hb⟩; refine ⟨_, rfl, ?_⟩; have HO155 := sd_ (Kd.R_lower (Kd.R_newB ho0 (g := gb148) (o := .cells #[.int .i64 a0] 3 (0, 0)) (by (with_reducible repeat (first | refine blk_drewN ?_ _ | refine blk_drew ?_ | refine blk_alloc ?_ _)); refine blk_far ?_ NB148_151.out _; (with_reducible repeat (first | refine blk_drewN ?_ _ | refine blk_drew ?_ | refine blk_alloc ?_ _)); exact BK148.out)) (below_size (bw3_ HB.out GE148.out GE149.out GE151.out))); have HO158 := sd_ (Kd.R_lower (Kd.R_newB ho1 (g := gb148) (o := .cells #[.int .i64 a0] 3 (0, 0)) (by (with_reducible repeat (first | refine blk_drewN ?_ _ | refine blk_drew ?_ | refine blk_alloc ?_ _)); refine blk_far ?_ NB148_151.out _; (with_reducible repeat (first | refine blk_drewN ?_ _ | refine blk_drew ?_ | refine blk_alloc ?_ _)); exact BK148.out)) (below_size (bw3_ HB.out GE148.out GE149.out GE151.out))); have HO161 := sd_ (Kd.R_lower ho2 (below_size (bw3_ HB.out GE148.out GE149.out GE151.out))); replace BK148 := sd_ (blk_below (g := gb148) (o := .cells #[.int .i64 a0] 3 (0, 0)) (by (with_reducible repeat (first | refine blk_drewN ?_ _ | refine blk_drew ?_ | refine blk_alloc ?_ _)); refine blk_far ?_ NB148_151.out _; (with_reducible repeat (first | refine blk_drewN ?_ _ | refine blk_drew ?_ | refine blk_alloc ?_ _)); exact BK148.out) hb); replace BK149 := sd_ (blk_below (g := gb149) (o := .cells #[.int .i64 0, .slice none 0 0, .slice none 0 0, .slice none 0 0] 27 (0, 0)) (by (with_reducible repeat (first | refine blk_drewN ?_ _ | refine blk_drew ?_ | refine blk_alloc ?_ _)); refine blk_far ?_ NB149_151.out _; (with_reducible repeat (first | refine blk_drewN ?_ _ | refine blk_drew ?_ | refine blk_alloc ?_ _)); exact BK149.out) hb); replace BK151 := sd_ (blk_below (g := gb151) (o := .cells #[.func (.func 57) #[] #[.pointer (some ⟨gb148, 0, none⟩)]] 65 (0, 0)) (by (with_reducible repeat (first | refine blk_drewN ?_ _ | refine blk_drew ?_ | refine blk_alloc ?_ _)); refine blk_put (cs := #[.nilFunc]) ?_ 0 _ rfl; (with_reducible repeat (first | refine blk_drewN ?_ _ | refine blk_drew ?_ | refine blk_alloc ?_ _)); exact BK151.out) hb); replace HB := sd_ (below_step (bw3_ HB.out GE148.out GE149.out GE151.out) hb); (try clear hb); (try clear ho0); (try clear ho1); (try clear ho2); obtain ⟨hcz17_0, hcz17_1, hcz17_2, hcz17_3, hfz17_0, hfz17_1, hfz17_2, hfz17_3⟩ := bf4_ BK149.out; obtain ⟨Ao18, co18, eo18⟩ := Kd.R_slice HO155.out; subst eo18; obtain ⟨Ao19, co19, eo19⟩ := Kd.R_slice HO158.out; subst eo19; obtain ⟨Ao20, co20, eo20⟩ := Kd.R_slice HO161.out; subst eo20))
  refine bodyPost_ret (results_cell_row rfl _ _ gb149 27 #[.int .i64 t152, .slice Ao18 t153.length co18, .slice Ao19 t156.length co19, .slice Ao20 t159.length co20] (0, 0) _ rfl (by (with_reducible repeat (first | refine blk_drewN ?_ _ | refine blk_drew ?_ | refine blk_alloc ?_ _)); refine blk_put (cs := #[.int .i64 t152, .slice Ao18 t153.length co18, .slice Ao19 t156.length co19, .slice none 0 0]) ?_ 3 _ rfl; (with_reducible repeat (first | refine blk_drewN ?_ _ | refine blk_drew ?_ | refine blk_alloc ?_ _)); refine blk_put (cs := #[.int .i64 t152, .slice Ao18 t153.length co18, .slice none 0 0, .slice none 0 0]) ?_ 2 _ rfl; (with_reducible repeat (first | refine blk_drewN ?_ _ | refine blk_drew ?_ | refine blk_alloc ?_ _)); refine blk_put (cs := #[.int .i64 t152, .slice none 0 0, .slice none 0 0, .slice none 0 0]) ?_ 1 _ rfl; (with_reducible repeat (first | refine blk_drewN ?_ _ | refine blk_drew ?_ | refine blk_alloc ?_ _)); refine blk_put (cs := #[.int .i64 0, .slice none 0 0, .slice none 0 0, .slice none 0 0]) ?_ 0 _ rfl; (with_reducible repeat (first | refine blk_drewN ?_ _ | refine blk_drew ?_ | refine blk_alloc ?_ _)); exact BK149.out) Try.underlying27 rfl (by kernel_rfl)) rfl ?_
  exact ⟨_, _, _, an_, by (with_reducible repeat (first | apply Kd.R_alloc | apply Kd.R_drewN | apply Kd.R_drew)); exact Kd.R_mono (Kd.R_far (p := ⟨gb149, 3, none⟩) (Kd.R_far (p := ⟨gb149, 2, none⟩) (Kd.R_far (p := ⟨gb149, 1, none⟩) (Kd.R_far (p := ⟨gb149, 0, none⟩) (Kd.R_types HO155.out BK149.out (by decide)) (fun _ hk => hk.2) (.int .i64 t152)) (fun _ hk => hk.2) (.slice Ao18 t153.length co18)) (fun _ hk => hk.2) (.slice Ao19 t156.length co19)) (fun _ hk => hk.2) (.slice Ao20 t159.length co20)) (fun _ hk => hk.1.1), by (with_reducible repeat (first | apply Kd.R_alloc | apply Kd.R_drewN | apply Kd.R_drew)); exact Kd.R_mono (Kd.R_far (p := ⟨gb149, 3, none⟩) (Kd.R_far (p := ⟨gb149, 2, none⟩) (Kd.R_far (p := ⟨gb149, 1, none⟩) (Kd.R_far (p := ⟨gb149, 0, none⟩) (Kd.R_types HO158.out BK149.out (by decide)) (fun _ hk => hk.2) (.int .i64 t152)) (fun _ hk => hk.2) (.slice Ao18 t153.length co18)) (fun _ hk => hk.2) (.slice Ao19 t156.length co19)) (fun _ hk => hk.2) (.slice Ao20 t159.length co20)) (fun _ hk => hk.1.1), by (with_reducible repeat (first | apply Kd.R_alloc | apply Kd.R_drewN | apply Kd.R_drew)); exact Kd.R_mono (Kd.R_far (p := ⟨gb149, 3, none⟩) (Kd.R_far (p := ⟨gb149, 2, none⟩) (Kd.R_far (p := ⟨gb149, 1, none⟩) (Kd.R_far (p := ⟨gb149, 0, none⟩) (Kd.R_types HO161.out BK149.out (by decide)) (fun _ hk => hk.2) (.int .i64 t152)) (fun _ hk => hk.2) (.slice Ao18 t153.length co18)) (fun _ hk => hk.2) (.slice Ao19 t156.length co19)) (fun _ hk => hk.2) (.slice Ao20 t159.length co20)) (fun _ hk => trivial), bw3_ HB.out GE148.out GE149.out GE151.out⟩
 ·replace c8 := Bool.eq_false_iff.mpr c8
  subst c8
  have H1 : (some (0, ([] : List Int), ([] : List Int), ([] : List Bool))) = some (r1, r2, r3, r4) := by rw [if_neg (show ¬ (false = true) by decide)] at H; exact H
  clear H
  have H := H1
  clear H1
  simp only [Option.some.injEq, Prod.mk.injEq] at H
  obtain ⟨rfl, rfl, rfl, rfl⟩ := H
  have hnb21 := NB149_148.out
  have hnc21 := NB148_149.out
  obtain ⟨hcz22_0, hcz22_1, hcz22_2, hcz22_3, hfz22_0, hfz22_1, hfz22_2, hfz22_3⟩ := bf4_ BK149.out
  go_wp2
  refine bodyPost_ret (results_cell_row rfl _ _ gb149 27 #[.int .i64 0, .slice none 0 0, .slice none 0 0, .slice none 0 0] (0, 0) _ rfl (by (with_reducible repeat (first | refine blk_drewN ?_ _ | refine blk_drew ?_ | refine blk_alloc ?_ _)); refine blk_put (cs := #[.int .i64 0, .slice none 0 0, .slice none 0 0, .slice none 0 0]) ?_ 3 _ rfl; (with_reducible repeat (first | refine blk_drewN ?_ _ | refine blk_drew ?_ | refine blk_alloc ?_ _)); refine blk_put (cs := #[.int .i64 0, .slice none 0 0, .slice none 0 0, .slice none 0 0]) ?_ 2 _ rfl; (with_reducible repeat (first | refine blk_drewN ?_ _ | refine blk_drew ?_ | refine blk_alloc ?_ _)); refine blk_put (cs := #[.int .i64 0, .slice none 0 0, .slice none 0 0, .slice none 0 0]) ?_ 1 _ rfl; (with_reducible repeat (first | refine blk_drewN ?_ _ | refine blk_drew ?_ | refine blk_alloc ?_ _)); refine blk_put (cs := #[.int .i64 0, .slice none 0 0, .slice none 0 0, .slice none 0 0]) ?_ 0 _ rfl; (with_reducible repeat (first | refine blk_drewN ?_ _ | refine blk_drew ?_ | refine blk_alloc ?_ _)); exact BK149.out) Try.underlying27 rfl (by kernel_rfl)) rfl ?_
  exact ⟨_, _, _, an_, by first | exact Kd.R_nil _ _ _ _ _ | exact Kd.N_nil _ _ _ _ _ | exact Kd.V_nil _ _ _ _ _ | exact Kd.Q_nil _ _ _ _ _ | exact Kd.S_nil _ _ _ _ _, by first | exact Kd.R_nil _ _ _ _ _ | exact Kd.N_nil _ _ _ _ _ | exact Kd.V_nil _ _ _ _ _ | exact Kd.Q_nil _ _ _ _ _ | exact Kd.S_nil _ _ _ _ _, by first | exact Kd.R_nil _ _ _ _ _ | exact Kd.N_nil _ _ _ _ _ | exact Kd.V_nil _ _ _ _ _ | exact Kd.Q_nil _ _ _ _ _ | exact Kd.S_nil _ _ _ _ _, bw2_ HB.out GE148.out GE149.out⟩


attribute [local go_sem high] eqA71
/-! ### slices_Index_2_int_2_int: function 65 -/
def slices_Index_2_int_2_int.l0 : Nat → List (S71) → Int → Int → Int → Int → Option (Int)
 | 0, _, _, _, _, _ => none
 | k + 1, x0, x7, x8, x245000, x245001 => if x8 < x7 then (if 0 ≤ x8 then (if x8 < (x0.length : Int) then (if (x245000 == ((rd_T71 x0 x8).f0) && (x245001 == ((rd_T71 x0 x8).f1))) = true then (some x8) else (slices_Index_2_int_2_int.l0 k x0 x7 (wrap64 (x8 + 1)) x245000 x245001)) else (none)) else (none)) else (some (-1))
def slices_Index_2_int_2_int.f (k : Nat) (l0 : List (S71)) (a1_0 : Int) (a1_1 : Int) : Option (Int) := slices_Index_2_int_2_int.l0 k l0 (l0.length : Int) 0 a1_0 a1_1
set_option maxHeartbeats 8000000 in
set_option maxRecDepth 100000 in
theorem slices_Index_2_int_2_int.calls (k : Nat) (A0 : Option Addr) (c0 : Nat) (l0 : List (S71)) (a1_0 : Int) (a1_1 : Int) (r : Int) (w : World) (hr0 : Kd.C k71 w A0 l0.length l0) (hc0 : l0.length ≤ c0) (h : slices_Index_2_int_2_int.f k l0 a1_0 a1_1 = some r) :
  Calls Try.prog 65 #[.slice A0 l0.length c0, .agg #[.int .i64 a1_0, .int .i64 a1_1]] w fun e w' => e = .returned (.int .i64 r) ∧ Below w.heap.size w w' := by
 have hu71 := Try.underlying71
 have HR0 := sd_ hr0
 have HC0 := sd_ hc0
 clear hr0 hc0
 have HB := sd_ (Below.refl w.heap.size w)
 have H : (slices_Index_2_int_2_int.l0 k l0 (l0.length : Int) 0 a1_0 a1_1) = some r := h
 clear h
 have H' := sd_ H
 clear H
 go_enter Try.func65, Try.ntmps65
 go_wp2_with (first | ((with_reducible refine gate_dst (N := 3) rfl ?_); refine bx_ (N := 3) (cs := #[.int .i64 a1_0, .int .i64 a1_1]) (t := 71) ?_; intro gb244 hg w3 hbox hb; have BK244 := sd_ (hbox); have GW244 := sd_ (gs_ hg (bw0_ HB.out)); have GE244 := sd_ (gs_ hg (bw0_ HB.out)); replace HB := sd_ (below_step (bw0_ HB.out) hb); clear hb hbox hg))
 repeat (go_quiet (first | ((with_reducible refine gate_dst (N := 3) rfl ?_); refine bx_ (N := 3) (cs := #[.int .i64 a1_0, .int .i64 a1_1]) (t := 71) ?_; intro gb244 hg w3 hbox hb; have BK244 := sd_ (hbox); have GW244 := sd_ (gs_ hg (bw0_ HB.out)); have GE244 := sd_ (gs_ hg (bw0_ HB.out)); replace HB := sd_ (below_step (bw0_ HB.out) hb); clear hb hbox hg)); try go_wp2_with (first | ((with_reducible refine gate_dst (N := 3) rfl ?_); refine bx_ (N := 3) (cs := #[.int .i64 a1_0, .int .i64 a1_1]) (t := 71) ?_; intro gb244 hg w3 hbox hb; have BK244 := sd_ (hbox); have GW244 := sd_ (gs_ hg (bw0_ HB.out)); have GE244 := sd_ (gs_ hg (bw0_ HB.out)); replace HB := sd_ (below_step (bw0_ HB.out) hb); clear hb hbox hg)))
 go_loopg [8] k (fun kq v8 w' => ∃ (x8_1 : Int), v8 = .int .i64 x8_1 ∧ Aside0 (slices_Index_2_int_2_int.l0 kq l0 (l0.length : Int) x8_1 a1_0 a1_1 = some r) ∧ Aside0 (kq ≤ k) ∧ Aside0 (w'.heap[gb244]? = some (.cells #[.int .i64 a1_0, .int .i64 a1_1] 71 (0, 0))) ∧ Aside0 (Below w.heap.size w w'))
 case atStart => exact ⟨(0), sm_, H', ⟨Nat.le_refl _⟩, ⟨by (with_reducible repeat (first | refine blk_drewN ?_ _ | refine blk_drew ?_ | refine blk_alloc ?_ _)); exact BK244.out⟩, ⟨bw1_ HB.out GE244.out⟩⟩
 case round =>
  clear H'
  try clear p2
  obtain ⟨x8_1, rfl, HA, HK1, BK244, HB⟩ := hrel
  cases gk with
  | zero => exact absurd HA.out (by simp [slices_Index_2_int_2_int.l0])
  | succ k1 =>
   have H := HA.out
   clear HA
   simp only [slices_Index_2_int_2_int.l0] at H
   by_cases c4 : x8_1 < (l0.length : Int)
   ·rw [if_pos c4] at H
    have c4b0 : decide (x8_1 < (l0.length : Int)) = true := decide_eq_true c4
    clear c4
    by_cases c5 : 0 ≤ x8_1
    ·rw [if_pos c5] at H
     have c5b0 : decide (0 ≤ x8_1) = true := decide_eq_true c5
     clear c5
     by_cases c6 : x8_1 < (l0.length : Int)
     ·rw [if_pos c6] at H
      have c6b0 : decide (x8_1 < (l0.length : Int)) = true := decide_eq_true c6
      clear c6
      by_cases c7 : (a1_0 == ((rd_T71 l0 x8_1).f0) && (a1_1 == ((rd_T71 l0 x8_1).f1))) = true
      ·rw [if_pos c7] at H
       have c7b0 : (a1_0 == ((rd_T71 l0 x8_1).f0) && (a1_1 == ((rd_T71 l0 x8_1).f1))) = true := c7
       (try (have c7b1 : decide (a1_0 = ((rd_T71 l0 x8_1).f0) && (a1_1 == ((rd_T71 l0 x8_1).f1))) = true := by simpa using c7))
       (try (have c7b2 : (a1_0 == ((rd_T71 l0 x8_1).f0) && (a1_1 == ((rd_T71 l0 x8_1).f1))) = true := by simpa using c7))
       clear c7
       obtain rfl := Option.some.inj H
       obtain ⟨hcz8_0, hcz8_1, hfz8_0, hfz8_1⟩ := bf2_ BK244.out
       have p245 : 0 ≤ (x8_1 : Int) := dt_
       have q245 : x8_1 < (l0.length : Int) := dt_
       obtain ⟨ad245, e245, hx245_0, hx245_1⟩ := at_T71 HR0.out x8_1 p245 q245
       cases e245
       replace hx245_0 := (HB.out.cell (World.block_lt_of_cell? w _ hx245_0)).trans hx245_0
       replace hx245_1 := (HB.out.cell (World.block_lt_of_cell? w _ hx245_1)).trans hx245_1
       replace p245 := eq_true p245
       replace q245 := eq_true q245
       go_wp2
       repeat (go_quiet (fail); try go_wp2)
       go_ret
       exact ⟨an_, bw1_ HB.out GE244.out⟩
      ·rw [if_neg c7] at H
       have c7b0 : (a1_0 == ((rd_T71 l0 x8_1).f0) && (a1_1 == ((rd_T71 l0 x8_1).f1))) = false := by simpa using c7
       (try (have c7b1 : decide (a1_0 = ((rd_T71 l0 x8_1).f0) && (a1_1 == ((rd_T71 l0 x8_1).f1))) = false := by simpa using c7))
       (try (have c7b2 : (a1_0 == ((rd_T71 l0 x8_1).f0) && (a1_1 == ((rd_T71 l0 x8_1).f1))) = false := by simpa using c7))
       (try (have c7b3 : ¬ (a1_0 = ((rd_T71 l0 x8_1).f0) && (a1_1 == ((rd_T71 l0 x8_1).f1))) := by simpa using c7))
       clear c7
       have H' := sd_ H
       clear H
       obtain ⟨hcz9_0, hcz9_1, hfz9_0, hfz9_1⟩ := bf2_ BK244.out
       have p245 : 0 ≤ (x8_1 : Int) := dt_
       have q245 : x8_1 < (l0.length : Int) := dt_
       obtain ⟨ad245, e245, hx245_0, hx245_1⟩ := at_T71 HR0.out x8_1 p245 q245
       cases e245
       replace hx245_0 := (HB.out.cell (World.block_lt_of_cell? w _ hx245_0)).trans hx245_0
       replace hx245_1 := (HB.out.cell (World.block_lt_of_cell? w _ hx245_1)).trans hx245_1
       replace p245 := eq_true p245
       replace q245 := eq_true q245
       go_wp2
       repeat (go_quiet (fail); try go_wp2)
       go_roundg k1
       case measure => have := HK1.out; omega
       case rel => exact ⟨(wrap64 (x8_1 + 1)), sm_, H', ⟨by have := HK1.out; omega⟩, ⟨by (with_reducible repeat (first | refine blk_drewN ?_ _ | refine blk_drew ?_ | refine blk_alloc ?_ _)); exact BK244.out⟩, ⟨bw1_ HB.out GE244.out⟩⟩
     ·rw [if_neg c6] at H
      exact absurd H (by simp)
    ·rw [if_neg c5] at H
     exact absurd H (by simp)
   ·rw [if_neg c4] at H
    have c4b0 : decide (x8_1 < (l0.length : Int)) = false := decide_eq_false c4
    clear c4
    obtain rfl := Option.some.inj H
    go_wp2
    repeat (go_quiet (fail); try go_wp2)
    go_ret
    exact ⟨an_, bw1_ HB.out GE244.out⟩


/-! ### impl_ProductSystem_1: function 64 -/
def impl_ProductSystem_1.f (k : Nat) (a0 : Int) (a1 : Int) (l2_0 : List (S71)) : Option (Int) := (slices_Index_2_int_2_int.f k l2_0 a0 a1).bind fun t246 => (some t246)
set_option maxHeartbeats 8000000 in
set_option maxRecDepth 100000 in
theorem impl_ProductSystem_1.calls (k : Nat) (a0 : Int) (a1 : Int) (g2 : Nat) (A2_0 : Option Addr) (c2_0 : Nat) (l2_0 : List (S71)) (r : Int) (w : World) (hr2_0 : Kd.C k71 w A2_0 l2_0.length l2_0) (hc2_0 : l2_0.length ≤ c2_0) (hb2 : w.heap[g2]? = some (.cells #[.slice A2_0 l2_0.length c2_0] 68 (0, 0))) (h : impl_ProductSystem_1.f k a0 a1 l2_0 = some r) :
  Calls Try.prog 64 #[.int .i64 a0, .int .i64 a1, .pointer (some ⟨g2, 0, none⟩)] w fun e w' => e = .returned (.int .i64 r) ∧ Below w.heap.size w w' := by
 have hu71 := Try.underlying71
 have HR2_0 := sd_ hr2_0
 have HC2_0 := sd_ hc2_0
 clear hr2_0 hc2_0
 have BK2 := sd_ hb2
 clear hb2
 have HB := sd_ (Below.refl w.heap.size w)
 have H : ((slices_Index_2_int_2_int.f k l2_0 a0 a1).bind fun t246 => (some t246)) = some r := h
 clear h
 replace H := Option.bind_eq_some_iff.mp H
 obtain ⟨t246, A40, H⟩ := H
 try dsimp only at H
 have A4 := sd_ A40
 clear A40
 obtain rfl := Option.some.inj H
 have hcz5_0 : w.cell? ⟨g2, 0, none⟩ = some (.slice A2_0 l2_0.length c2_0) := (blk_cell BK2.out 0).trans rfl
 have hfz5_0 := blk_frozen BK2.out 0
 go_enter Try.func64, Try.ntmps64
 go_wp2_with (first | ((with_reducible refine gate_callee (f := 65) rfl ?_); refine goesL_ (some 10) rfl rfl Try.func65 (by kernel_rfl) rfl #[.slice A2_0 l2_0.length c2_0, .agg #[.int .i64 a0, .int .i64 a1]] rfl la_ ?_; (with_reducible refine (slices_Index_2_int_2_int.calls k _ _ l2_0 a0 a1 t246 _ (kp_ HR2_0.out) HC2_0.out A4.out).mono ?_); rintro e w6 ⟨rfl, hb⟩; refine ⟨_, rfl, ?_⟩; replace BK2 := sd_ (bb_ BK2.out hb); replace HB := sd_ (below_step (bw0_ HB.out) hb); (try clear hb)))
 go_ret
 exact ⟨an_, bw0_ HB.out⟩


/-! ### impl_System_times: function 69 -/
def impl_System_times.f (a0_0 : Int) (l0_1 : List Int) (l0_2 : List Int) (l0_3 : List Bool) (a1 : Int) (a2 : Int) : Option (Int) := if 0 ≤ (wrap64 ((wrap64 (a1 * a0_0)) + a2)) then (if (wrap64 ((wrap64 (a1 * a0_0)) + a2)) < (l0_2.length : Int) then (some (rd l0_2 (wrap64 ((wrap64 (a1 * a0_0)) + a2)))) else (none)) else (none)
set_option maxHeartbeats 8000000 in
set_option maxRecDepth 100000 in
theorem impl_System_times.calls (a0_0 : Int) (A0_1 : Option Addr) (c0_1 : Nat) (l0_1 : List Int) (A0_2 : Option Addr) (c0_2 : Nat) (l0_2 : List Int) (A0_3 : Option Addr) (c0_3 : Nat) (l0_3 : List Bool) (a1 : Int) (a2 : Int) (r : Int) (w : World) (hr0_1 : Kd.C (Kd.int .i64) w A0_1 l0_1.length l0_1) (hc0_1 : l0_1.length ≤ c0_1) (hr0_2 : Kd.C (Kd.int .i64) w A0_2 l0_2.length l0_2) (hc0_2 : l0_2.length ≤ c0_2) (hr0_3 : Kd.C Kd.bool w A0_3 l0_3.length l0_3) (hc0_3 : l0_3.length ≤ c0_3) (h : impl_System_times.f a0_0 l0_1 l0_2 l0_3 a1 a2 = some r) :
  Calls Try.prog 69 #[.agg #[.int .i64 a0_0, .slice A0_1 l0_1.length c0_1, .slice A0_2 l0_2.length c0_2, .slice A0_3 l0_3.length c0_3], .int .i64 a1, .int .i64 a2] w fun e w' => e = .returned (.int .i64 r) ∧ Below w.heap.size w w' := by
 have hu27 := Try.underlying27
 have HR0_1 := sd_ hr0_1
 have HC0_1 := sd_ hc0_1
 clear hr0_1 hc0_1
 have HR0_2 := sd_ hr0_2
 have HC0_2 := sd_ hc0_2
 clear hr0_2 hc0_2
 have HR0_3 := sd_ hr0_3
 have HC0_3 := sd_ hc0_3
 clear hr0_3 hc0_3
 have HB := sd_ (Below.refl w.heap.size w)
 have H : (if 0 ≤ (wrap64 ((wrap64 (a1 * a0_0)) + a2)) then (if (wrap64 ((wrap64 (a1 * a0_0)) + a2)) < (l0_2.length : Int) then (some (rd l0_2 (wrap64 ((wrap64 (a1 * a0_0)) + a2)))) else (none)) else (none)) = some r := h
 clear h
 obtain ⟨ji4, hji4⟩ : ∃ j_ : Int, (wrap64 ((wrap64 (a1 * a0_0)) + a2)) = j_ := ⟨_, rfl⟩
 replace H : (if 0 ≤ (ji4) then (if (ji4) < (l0_2.length : Int) then (some (rd l0_2 (ji4))) else (none)) else (none)) = some r := by first | (rw [hji4] at H; exact H) | (simp only [hji4] at H ⊢; exact H)
 have hji4w : (IntKind.i64.wrap ((wrap64 (a1 * a0_0)) + a2)) = ji4 := (i64_w _).trans hji4
 by_cases c5 : 0 ≤ (ji4)
 ·rw [if_pos c5] at H
  have c5b0 : decide (0 ≤ (ji4)) = true := decide_eq_true c5
  clear c5
  by_cases c6 : (ji4) < (l0_2.length : Int)
  ·rw [if_pos c6] at H
   have c6b0 : decide ((ji4) < (l0_2.length : Int)) = true := decide_eq_true c6
   clear c6
   obtain rfl := Option.some.inj H
   go_enter Try.func69, Try.ntmps69
   go_wp2_with (first | ((with_reducible refine gate_dst (N := 3) rfl ?_); refine bx_ (N := 3) (cs := #[.int .i64 a0_0, .slice A0_1 l0_1.length c0_1, .slice A0_2 l0_2.length c0_2, .slice A0_3 l0_3.length c0_3]) (t := 27) ?_; intro gb165 hg w7 hbox hb; have BK165 := sd_ (hbox); have GW165 := sd_ (gs_ hg (bw0_ HB.out)); have GE165 := sd_ (gs_ hg (bw0_ HB.out)); replace HB := sd_ (below_step (bw0_ HB.out) hb); clear hb hbox hg; obtain ⟨hcz8_0, hcz8_1, hcz8_2, hcz8_3, hfz8_0, hfz8_1, hfz8_2, hfz8_3⟩ := bf4_ BK165.out; have p166 : 0 ≤ ((ji4) : Int) := dt_; have q166 : (ji4) < (l0_2.length : Int) := dt_; obtain ⟨ad166, e166, hx166_0⟩ := Kd.at_int HR0_2.out (ji4) p166 q166; cases e166; replace hx166_0 := (HB.out.cell (World.block_lt_of_cell? w _ hx166_0)).trans hx166_0; replace p166 := eq_true p166; replace q166 := eq_true q166))
   go_ret
   exact ⟨by first | rfl | (simp [errW_none, errW_some] <;> rfl) | (simp only [← hji4]; first | rfl | (simp [errW_none, errW_some] <;> rfl)) | (simp [*, errW_none, errW_some] <;> rfl), bw1_ HB.out GE165.out⟩
  ·rw [if_neg c6] at H
   exact absurd H (by simp)
 ·rw [if_neg c5] at H
  exact absurd H (by simp)

end Go.Proofs.Ytcdmnofomoadlaa.P
end
