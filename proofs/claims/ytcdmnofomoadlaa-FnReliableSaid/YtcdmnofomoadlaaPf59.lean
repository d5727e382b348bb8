-- Printed by this session's own program (wip/tools/mkprint.py) out of the translation. Not trusted: Lean checks it.
import Derived.Test.YtcdmnofomoadlaaM1
import Derived.Laws.EntriesVeiled
/-! short words -/
namespace Go.Proofs.Ytcdmnofomoadlaa.P
open Go.RowKit Go.Proofs.YtcdmnofomoadlaaW.PrintWords Go.Proofs.YtcdmnofomoadlaaW.PrintLast Go.Proofs.YtcdmnofomoadlaaW.PrintMore
attribute [local go_sem] max2_int min2_int max_two min_two max_three min_three max_four min_four   -- for this text's walks alone
set_option linter.unusedVariables false
set_option linter.unusedSimpArgs false

/-! ### impl_LevelSystem_2: function 59 -/
def impl_LevelSystem_2.f (a0 : Int) (a1 : Int) (x2_0 : (Int → Option (Int))) : Option (Int) := (x2_0 a0).bind fun t115 => ((x2_0 a1).bind fun t116 => ((x2_0 (mx t115 t116)).bind fun t117 => (some t117)))
def impl_LevelSystem_2.T1 : Bool × List (List Nat × List Nat) := (true, [([], []), ([], []), ([], []), ([1, 2], [1, 2]), ([], []), ([], []), ([4, 5, 3], [4, 5]), ([3, 6], [3, 6]), ([0, 7, 6], [0, 7]), ([8, 8, 0, 1, 2, 3, 4, 5, 6, 7, 8], [8])])
def impl_LevelSystem_2.B1 : List Nat := [0, 0, 0, 6, 0, 0, 62, 126, 255, 511]
theorem impl_LevelSystem_2.tab1 : rtab .any (opsOf Try.f59 1) = impl_LevelSystem_2.T1 := by kernel_rfl
theorem impl_LevelSystem_2.bits1 : waitsOk impl_LevelSystem_2.T1.2 impl_LevelSystem_2.B1 = true := by kernel_rfl
set_option maxHeartbeats 8000000 in
set_option maxRecDepth 100000 in
theorem impl_LevelSystem_2.calls (a0 : Int) (a1 : Int) (g2 : Nat) (x2_0 : (Int → Option (Int))) (K2_0_ : Nat) (F2_0_ C2_0_ : Array Value) (r : Int) (w : World) (hG2_0 : OFn K2_0_) (hF2_0 : OC65 w x2_0 K2_0_ F2_0_ C2_0_) (hb2 : w.heap[g2]? = some (.cells #[.func (.func K2_0_) F2_0_ C2_0_] 65 (0, 0))) (h : impl_LevelSystem_2.f a0 a1 x2_0 = some r) :
  Calls Try.prog 59 #[.int .i64 a0, .int .i64 a1, .pointer (some ⟨g2, 0, none⟩)] w fun e w' => e = .returned (.int .i64 r) ∧ Below w.heap.size w w' := by
 have HG2_0 := sd_ hG2_0
 have HF2_0 := sd_ hF2_0
 clear hG2_0 hF2_0
 have BK2 := sd_ hb2
 clear hb2
 have HB := sd_ (Below.refl w.heap.size w)
 have H : ((x2_0 a0).bind fun t115 => ((x2_0 a1).bind fun t116 => ((x2_0 (mx t115 t116)).bind fun t117 => (some t117)))) = some r := h
 clear h
 replace H := Option.bind_eq_some_iff.mp H
 obtain ⟨t115, A40, H⟩ := H
 try dsimp only at H
 have A4 := sd_ A40
 clear A40
 replace H := Option.bind_eq_some_iff.mp H
 obtain ⟨t116, A50, H⟩ := H
 try dsimp only at H
 have A5 := sd_ A50
 clear A50
 obtain ⟨ji6, hji6⟩ : ∃ j_ : Int, (mx t115 t116) = j_ := ⟨_, rfl⟩
 replace H : ((x2_0 (ji6)).bind fun t117 => (some t117)) = some r := by first | (rw [hji6] at H; exact H) | (simp only [hji6] at H ⊢; exact H)
 (try rw [hji6] at A4)
 (try rw [hji6] at A5)
 have hji6_ : (if t115 < t116 then t116 else t115) = ji6 := hji6
 replace H := Option.bind_eq_some_iff.mp H
 obtain ⟨t117, A70, H⟩ := H
 try dsimp only at H
 have A7 := sd_ A70
 clear A70
 obtain rfl := Option.some.inj H
 go_enter Try.func59, Try.ntmps59
 try go_wp2
 replace BK2 := sd_ (blk_drew BK2.out)
 replace HB := sd_ (below_drew1 HB.out)
 refine start_ (n := 10) (S := fun w' => w'.cell? ⟨g2, 0, none⟩ = some (.func (.func K2_0_) F2_0_ C2_0_)) (ds := []) #[false, false, false, false, false, false, false, false, false, false] (by kernel_rfl) rfl rfl ((blk_cell BK2.out 0).trans rfl) (fun hHeld => ?_); refine with_tabW impl_LevelSystem_2.tab1 impl_LevelSystem_2.bits1 (fun HT_ HW_ => ?_)
 generalize w.drew = w8 at BK2 HB hHeld ⊢
 refine pure_ (i := 2) (N := some 8) (v := ?_) (a' := ?_) #[false, false, true, false, false, false, false, false, false, false] rfl rfl (any_of HT_.out (by kernel_rfl)) (fun _ _ _ h => h) (Or.inl ⟨by rfl, ?_⟩) ?_ ?_
 rotate_left
 ·intro w'
  go_simp
  with_reducible rfl
 rotate_left
 ·simp only [Act.put, List.setIfInBounds_toArray, List.set_cons_zero, List.set_cons_succ, i64_w, i32_w]
  rfl
 refine pure_ (i := 5) (N := some 11) (v := ?_) (a' := ?_) #[false, false, true, false, false, true, false, false, false, false] rfl rfl (any_of HT_.out (by kernel_rfl)) (fun _ _ _ h => h) (Or.inl ⟨by rfl, ?_⟩) ?_ ?_
 rotate_left
 ·intro w'
  go_simp
  with_reducible rfl
 rotate_left
 ·simp only [Act.put, List.setIfInBounds_toArray, List.set_cons_zero, List.set_cons_succ, i64_w, i32_w]
  rfl
 refine take_ (i := 0) (N := some 6) (v := ?_) (a' := ?_) #[true, false, true, false, false, true, false, false, false, false] rfl rfl (take_ofW HT_.out HW_.out (by kernel_rfl)) (fun _ _ _ h => h) (Or.inl ⟨by rfl, ?_⟩) hHeld ?_ ?_
 rotate_left
 ·intro w' s0
  go_simp
  with_reducible rfl
 rotate_left
 ·simp only [Act.put, List.setIfInBounds_toArray, List.set_cons_zero, List.set_cons_succ, i64_w, i32_w]
  rfl
 refine take_ (i := 1) (N := some 7) (v := ?_) (a' := ?_) #[true, true, true, false, false, true, false, false, false, false] rfl rfl (take_ofW HT_.out HW_.out (by kernel_rfl)) (fun _ _ _ h => h) (Or.inl ⟨by rfl, ?_⟩) hHeld ?_ ?_
 rotate_left
 ·intro w' s0
  go_simp
  with_reducible rfl
 rotate_left
 ·simp only [Act.put, List.setIfInBounds_toArray, List.set_cons_zero, List.set_cons_succ, i64_w, i32_w]
  rfl
 refine take_ (i := 4) (N := some 10) (v := ?_) (a' := ?_) #[true, true, true, false, true, true, false, false, false, false] rfl rfl (take_ofW HT_.out HW_.out (by kernel_rfl)) (fun _ _ _ h => h) (Or.inl ⟨by rfl, ?_⟩) hHeld ?_ ?_
 rotate_left
 ·intro w' s0
  go_simp
  with_reducible rfl
 rotate_left
 ·simp only [Act.put, List.setIfInBounds_toArray, List.set_cons_zero, List.set_cons_succ, i64_w, i32_w]
  rfl
 refine one_ (i := 3) (N := some 9) #[true, true, true, true, true, true, false, false, false, false] rfl rfl (one_of HT_.out (by kernel_rfl)) (by decide) (fun K hK => ?_)
 refine goesO_ HG2_0.out #[.int .i64 a0] (by rfl) rfl rfl la_ rfl ?_
 with_reducible refine (HF2_0.out a0 t115 _ ?side1 A4.out).mono ?_
 (case side1 => exact (bw0_ HB.out))
 rintro e w9 ⟨rfl, hb⟩
 refine ⟨_, rfl, ?_⟩
 replace BK2 := sd_ (bb_ BK2.out hb)
 replace HB := sd_ (below_step (bw0_ HB.out) hb)
 (try clear hb)
 (try clear hb2)
 (try clear hk)
 (try clear hi)
 refine hK.out _ _ ((blk_cell BK2.out 0).trans rfl) (fun hHeld => ?_)
 clear hK K
 refine norm_ (a' := ?_) ?_ ?_
 rotate_left
 ·show Act.put _ (some 9) _ = _
  simp only [Act.put, List.setIfInBounds_toArray, List.set_cons_zero, List.set_cons_succ, i64_w, i32_w]
  rfl
 refine one_ (i := 6) (N := some 12) #[true, true, true, true, true, true, true, false, false, false] rfl rfl (one_of HT_.out (by kernel_rfl)) (by decide) (fun K hK => ?_)
 refine goesO_ HG2_0.out #[.int .i64 a1] (by rfl) rfl rfl la_ rfl ?_
 with_reducible refine (HF2_0.out a1 t116 _ ?side1 A5.out).mono ?_
 (case side1 => exact (bw0_ HB.out))
 rintro e w10 ⟨rfl, hb⟩
 refine ⟨_, rfl, ?_⟩
 replace BK2 := sd_ (bb_ BK2.out hb)
 replace HB := sd_ (below_step (bw0_ HB.out) hb)
 (try clear hb)
 (try clear hb2)
 (try clear hk)
 (try clear hi)
 refine hK.out _ _ ((blk_cell BK2.out 0).trans rfl) (fun hHeld => ?_)
 clear hK K
 refine norm_ (a' := ?_) ?_ ?_
 rotate_left
 ·show Act.put _ (some 12) _ = _
  simp only [Act.put, List.setIfInBounds_toArray, List.set_cons_zero, List.set_cons_succ, i64_w, i32_w]
  rfl
 refine pure_ (i := 7) (N := some 13) (v := ?_) (a' := ?_) #[true, true, true, true, true, true, true, true, false, false] rfl rfl (any_of HT_.out (by kernel_rfl)) (fun _ _ _ h => h) (Or.inl ⟨by rfl, ?_⟩) ?_ ?_
 rotate_left
 ·intro w'
  go_simp
  with_reducible rfl
 rotate_left
 ·simp only [Act.put, List.setIfInBounds_toArray, List.set_cons_zero, List.set_cons_succ, i64_w, i32_w]
  rfl
 refine one_ (i := 8) (N := some 14) #[true, true, true, true, true, true, true, true, true, false] rfl rfl (one_of HT_.out (by kernel_rfl)) (by decide) (fun K hK => ?_)
 refine goesO_ HG2_0.out #[.int .i64 ji6] (by rfl) rfl rfl (by (try simp only [List.map_toArray, List.map_cons, List.map_nil]); first | done | (simp only [hji6]; rfl) | rfl | (simp only [List.length_drop, List.length_take]; rfl)) rfl ?_
 with_reducible refine (HF2_0.out ji6 t117 _ ?side1 A7.out).mono ?_
 (case side1 => exact (bw0_ HB.out))
 rintro e w11 ⟨rfl, hb⟩
 refine ⟨_, rfl, ?_⟩
 replace BK2 := sd_ (bb_ BK2.out hb)
 replace HB := sd_ (below_step (bw0_ HB.out) hb)
 (try clear hb)
 (try clear hb2)
 (try clear hk)
 (try clear hi)
 refine hK.out _ _ ((blk_cell BK2.out 0).trans rfl) (fun hHeld => ?_)
 clear hK K
 refine norm_ (a' := ?_) ?_ ?_
 rotate_left
 ·show Act.put _ (some 14) _ = _
  simp only [Act.put, List.setIfInBounds_toArray, List.set_cons_zero, List.set_cons_succ, i64_w, i32_w]
  rfl
 refine pure_ (i := 9) (N := some 5) (v := ?_) (a' := ?_) #[true, true, true, true, true, true, true, true, true, true] rfl rfl (any_of HT_.out (by kernel_rfl)) (fun _ _ _ h => h) (Or.inl ⟨by rfl, ?_⟩) ?_ ?_
 rotate_left
 ·intro w'
  go_simp
  with_reducible rfl
 rotate_left
 ·simp only [Act.put, List.setIfInBounds_toArray, List.set_cons_zero, List.set_cons_succ, i64_w, i32_w]
  rfl
 refine done_ (done_of HT_.out (by kernel_rfl)) ?_
 try go_wp2
 go_ret
 exact ⟨by first | rfl | (simp [errW_none, errW_some] <;> rfl) | (simp only [← hji6]; first | rfl | (simp [errW_none, errW_some] <;> rfl)) | (simp [*, errW_none, errW_some] <;> rfl), bw0_ HB.out⟩

end Go.Proofs.Ytcdmnofomoadlaa.P
