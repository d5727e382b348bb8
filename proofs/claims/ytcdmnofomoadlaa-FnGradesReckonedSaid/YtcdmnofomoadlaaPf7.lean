-- Printed by this session's own program (wip/tools/mkprint.py) out of the translation. Not trusted: Lean checks it.
import Derived.Test.YtcdmnofomoadlaaM1
import Derived.Test.YtcdmnofomoadlaaPf20
import Derived.Test.YtcdmnofomoadlaaPf30
import Derived.Test.YtcdmnofomoadlaaPf31
import Derived.Test.YtcdmnofomoadlaaPf32
import Derived.Test.YtcdmnofomoadlaaPf33
import Derived.Test.YtcdmnofomoadlaaPf34
import Derived.Test.YtcdmnofomoadlaaPf35
import Derived.Test.YtcdmnofomoadlaaPf36
/-! short words -/
namespace Go.Proofs.Ytcdmnofomoadlaa.P
open Go.RowKit Go.Proofs.YtcdmnofomoadlaaW.PrintWords Go.Proofs.YtcdmnofomoadlaaW.PrintLast Go.Proofs.YtcdmnofomoadlaaW.PrintMore
attribute [local go_sem] max2_int min2_int max_two min_two max_three min_three max_four min_four   -- for this text's walks alone
set_option linter.unusedVariables false
set_option linter.unusedSimpArgs false

/-! ### laws_FnGradesReckoned: function 7 -/
mutual
def laws_FnGradesReckoned.j0 : Nat → Int → Int → Int → Int → Bool → Int → List Int → List Int → List Bool → Option (Bool)
 | 0, _, _, _, _, _, _, _, _, _ => none
 | k + 1, x4, x5, x6, x7, x91, x800000, x800001, x800002, x800003 => if x91 = true then (some false) else ((impl_IsBelow.f k x800000 x800001 x800002 x800003 x4 x6).bind fun t819 => (if t819 = true then ((impl_IsBelow.f k x800000 x800001 x800002 x800003 x5 x6).bind fun t820 => (if t820 = true then ((impl_IsBelow.f k x800000 x800001 x800002 x800003 x7 x6).bind fun t821 => (laws_FnGradesReckoned.j1 k x4 x5 x6 (!t821) x800000 x800001 x800002 x800003)) else (laws_FnGradesReckoned.j1 k x4 x5 x6 false x800000 x800001 x800002 x800003))) else (laws_FnGradesReckoned.j1 k x4 x5 x6 false x800000 x800001 x800002 x800003)))
def laws_FnGradesReckoned.j1 : Nat → Int → Int → Int → Bool → Int → List Int → List Int → List Bool → Option (Bool)
 | 0, _, _, _, _, _, _, _, _ => none
 | k + 1, x4, x5, x6, x108, x800000, x800001, x800002, x800003 => if x108 = true then (some false) else ((impl_MeetGrades.f k x800000 x800001 x800002 x800003 x4 x5).bind fun t822 => (if t822 < 0 then (some true) else ((impl_IsBelow.f k x800000 x800001 x800002 x800003 t822 x4).bind fun t823 => (if t823 = true then ((impl_IsBelow.f k x800000 x800001 x800002 x800003 t822 x5).bind fun t824 => (if t824 = true then ((impl_IsBelow.f k x800000 x800001 x800002 x800003 x6 x4).bind fun t825 => (if t825 = true then ((impl_IsBelow.f k x800000 x800001 x800002 x800003 x6 x5).bind fun t826 => (if t826 = true then ((impl_IsBelow.f k x800000 x800001 x800002 x800003 x6 t822).bind fun t827 => (some t827)) else (some true))) else (some true))) else (some false))) else (some false)))))
end
def laws_FnGradesReckoned.f (k : Nat) (l0 : List Int) : Option (Bool) := (laws_big.f l0).bind fun t788 => (if t788 = true then (some true) else ((spec_DrawIsSystem.f k l0).bind fun bt789 => ((impl_IsSystem.f k bt789.1 bt789.2.1 bt789.2.2.1 bt789.2.2.2).bind fun t800 => (if t800 = true then ((laws_at0.f l0 0).bind fun t803 => (if bt789.1 = 0 then (none) else ((laws_at0.f l0 1).bind fun t804 => ((laws_at0.f l0 2).bind fun t805 => ((impl_AddGrades.f k bt789.1 bt789.2.1 bt789.2.2.1 bt789.2.2.2 (Int.tmod t804 bt789.1) (Int.tmod t805 bt789.1)).bind fun t806 => ((impl_MultiplyGrades.f k bt789.1 bt789.2.1 bt789.2.2.1 bt789.2.2.2 (Int.tmod t803 bt789.1) t806).bind fun t807 => ((impl_MultiplyGrades.f k bt789.1 bt789.2.1 bt789.2.2.1 bt789.2.2.2 (Int.tmod t803 bt789.1) (Int.tmod t804 bt789.1)).bind fun t808 => ((impl_MultiplyGrades.f k bt789.1 bt789.2.1 bt789.2.2.1 bt789.2.2.2 (Int.tmod t803 bt789.1) (Int.tmod t805 bt789.1)).bind fun t809 => ((impl_SumGrades.f k bt789.1 bt789.2.1 bt789.2.2.1 bt789.2.2.2 (([t808, t809] : List Int))).bind fun t813 => (if t807 = t813 then ((impl_JoinGrades.f k bt789.1 bt789.2.1 bt789.2.2.1 bt789.2.2.2 (Int.tmod t803 bt789.1) (Int.tmod t804 bt789.1)).bind fun t814 => ((impl_IsBelow.f k bt789.1 bt789.2.1 bt789.2.2.1 bt789.2.2.2 (Int.tmod t803 bt789.1) t814).bind fun t815 => (if t815 = true then ((impl_IsBelow.f k bt789.1 bt789.2.1 bt789.2.2.1 bt789.2.2.2 (Int.tmod t804 bt789.1) t814).bind fun t816 => (if t816 = true then ((impl_JoinGrades.f k bt789.1 bt789.2.1 bt789.2.2.1 bt789.2.2.2 (Int.tmod t804 bt789.1) (Int.tmod t803 bt789.1)).bind fun t817 => (if t814 = t817 then ((impl_IsBelow.f k bt789.1 bt789.2.1 bt789.2.2.1 bt789.2.2.2 (Int.tmod t803 bt789.1) (Int.tmod t804 bt789.1)).bind fun t818 => (laws_FnGradesReckoned.j0 k (Int.tmod t803 bt789.1) (Int.tmod t804 bt789.1) (Int.tmod t805 bt789.1) t814 (t818 != (t814 == (Int.tmod t804 bt789.1))) bt789.1 bt789.2.1 bt789.2.2.1 bt789.2.2.2)) else (laws_FnGradesReckoned.j0 k (Int.tmod t803 bt789.1) (Int.tmod t804 bt789.1) (Int.tmod t805 bt789.1) t814 true bt789.1 bt789.2.1 bt789.2.2.1 bt789.2.2.2))) else (laws_FnGradesReckoned.j0 k (Int.tmod t803 bt789.1) (Int.tmod t804 bt789.1) (Int.tmod t805 bt789.1) t814 true bt789.1 bt789.2.1 bt789.2.2.1 bt789.2.2.2))) else (laws_FnGradesReckoned.j0 k (Int.tmod t803 bt789.1) (Int.tmod t804 bt789.1) (Int.tmod t805 bt789.1) t814 true bt789.1 bt789.2.1 bt789.2.2.1 bt789.2.2.2)))) else (some false))))))))))) else ((impl_AddGrades.f k bt789.1 bt789.2.1 bt789.2.2.1 bt789.2.2.2 0 0).bind fun t801 => (if t801 = (-1) then ((impl_JoinGrades.f k bt789.1 bt789.2.1 bt789.2.2.1 bt789.2.2.2 0 0).bind fun t802 => (some (t802 == (-1)))) else (some false)))))))
def laws_FnGradesReckoned.T9 : Bool × List (List Nat × List Nat) := (true, [([], []), ([], []), ([], []), ([], []), ([], []), ([2, 3, 4], [2, 3, 4]), ([0, 1, 5, 5], [0, 1, 5]), ([], []), ([], []), ([], []), ([], []), ([8, 9, 10, 6], [8, 9, 10]), ([], []), ([], []), ([], []), ([12, 13, 14, 11], [12, 13, 14]), ([11, 15], [11, 15]), ([7, 16, 15], [7, 16]), ([6, 17], [6, 17])])
def laws_FnGradesReckoned.B9 : List Nat := [0, 0, 0, 0, 0, 28, 63, 0, 0, 0, 0, 1919, 0, 0, 0, 32639, 65407, 131071, 262143]
theorem laws_FnGradesReckoned.tab9 : rtab .any (opsOf Try.f7 9) = laws_FnGradesReckoned.T9 := by kernel_rfl
theorem laws_FnGradesReckoned.bits9 : waitsOk laws_FnGradesReckoned.T9.2 laws_FnGradesReckoned.B9 = true := by kernel_rfl
set_option maxHeartbeats 8000000 in
set_option maxRecDepth 100000 in
theorem laws_FnGradesReckoned.calls (k : Nat) (A0 : Option Addr) (c0 : Nat) (l0 : List Int) (r : Bool) (w : World) (hr0 : Kd.C (Kd.int .u8) w A0 l0.length l0) (hc0 : l0.length ≤ c0) (h : laws_FnGradesReckoned.f k l0 = some r) (hr_ : r = true) :
  Calls Try.prog 7 #[.slice A0 l0.length c0] w fun e w' => e = .returned (.bool r) ∧ Below w.heap.size w w' := by
 have hu27 := Try.underlying27
 have HR0 := sd_ hr0
 have HC0 := sd_ hc0
 clear hr0 hc0
 have HB := sd_ (Below.refl w.heap.size w)
 have H : ((laws_big.f l0).bind fun t788 => (if t788 = true then (some true) else ((spec_DrawIsSystem.f k l0).bind fun bt789 => ((impl_IsSystem.f k bt789.1 bt789.2.1 bt789.2.2.1 bt789.2.2.2).bind fun t800 => (if t800 = true then ((laws_at0.f l0 0).bind fun t803 => (if bt789.1 = 0 then (none) else ((laws_at0.f l0 1).bind fun t804 => ((laws_at0.f l0 2).bind fun t805 => ((impl_AddGrades.f k bt789.1 bt789.2.1 bt789.2.2.1 bt789.2.2.2 (Int.tmod t804 bt789.1) (Int.tmod t805 bt789.1)).bind fun t806 => ((impl_MultiplyGrades.f k bt789.1 bt789.2.1 bt789.2.2.1 bt789.2.2.2 (Int.tmod t803 bt789.1) t806).bind fun t807 => ((impl_MultiplyGrades.f k bt789.1 bt789.2.1 bt789.2.2.1 bt789.2.2.2 (Int.tmod t803 bt789.1) (Int.tmod t804 bt789.1)).bind fun t808 => ((impl_MultiplyGrades.f k bt789.1 bt789.2.1 bt789.2.2.1 bt789.2.2.2 (Int.tmod t803 bt789.1) (Int.tmod t805 bt789.1)).bind fun t809 => ((impl_SumGrades.f k bt789.1 bt789.2.1 bt789.2.2.1 bt789.2.2.2 (([t808, t809] : List Int))).bind fun t813 => (if t807 = t813 then ((impl_JoinGrades.f k bt789.1 bt789.2.1 bt789.2.2.1 bt789.2.2.2 (Int.tmod t803 bt789.1) (Int.tmod t804 bt789.1)).bind fun t814 => ((impl_IsBelow.f k bt789.1 bt789.2.1 bt789.2.2.1 bt789.2.2.2 (Int.tmod t803 bt789.1) t814).bind fun t815 => (if t815 = true then ((impl_IsBelow.f k bt789.1 bt789.2.1 bt789.2.2.1 bt789.2.2.2 (Int.tmod t804 bt789.1) t814).bind fun t816 => (if t816 = true then ((impl_JoinGrades.f k bt789.1 bt789.2.1 bt789.2.2.1 bt789.2.2.2 (Int.tmod t804 bt789.1) (Int.tmod t803 bt789.1)).bind fun t817 => (if t814 = t817 then ((impl_IsBelow.f k bt789.1 bt789.2.1 bt789.2.2.1 bt789.2.2.2 (Int.tmod t803 bt789.1) (Int.tmod t804 bt789.1)).bind fun t818 => (laws_FnGradesReckoned.j0 k (Int.tmod t803 bt789.1) (Int.tmod t804 bt789.1) (Int.tmod t805 bt789.1) t814 (t818 != (t814 == (Int.tmod t804 bt789.1))) bt789.1 bt789.2.1 bt789.2.2.1 bt789.2.2.2)) else (laws_FnGradesReckoned.j0 k (Int.tmod t803 bt789.1) (Int.tmod t804 bt789.1) (Int.tmod t805 bt789.1) t814 true bt789.1 bt789.2.1 bt789.2.2.1 bt789.2.2.2))) else (laws_FnGradesReckoned.j0 k (Int.tmod t803 bt789.1) (Int.tmod t804 bt789.1) (Int.tmod t805 bt789.1) t814 true bt789.1 bt789.2.1 bt789.2.2.1 bt789.2.2.2))) else (laws_FnGradesReckoned.j0 k (Int.tmod t803 bt789.1) (Int.tmod t804 bt789.1) (Int.tmod t805 bt789.1) t814 true bt789.1 bt789.2.1 bt789.2.2.1 bt789.2.2.2)))) else (some false))))))))))) else ((impl_AddGrades.f k bt789.1 bt789.2.1 bt789.2.2.1 bt789.2.2.2 0 0).bind fun t801 => (if t801 = (-1) then ((impl_JoinGrades.f k bt789.1 bt789.2.1 bt789.2.2.1 bt789.2.2.2 0 0).bind fun t802 => (some (t802 == (-1)))) else (some false)))))))) = some r := h
 clear h
 replace H := Option.bind_eq_some_iff.mp H
 obtain ⟨t788, A20, H⟩ := H
 try dsimp only at H
 have A2 := sd_ A20
 clear A20
 by_cases c3 : t788 = true
 ·subst c3
  have H1 : (some true) = some r := by rw [if_pos rfl] at H; exact H
  clear H
  have H := H1
  clear H1
  obtain rfl := Option.some.inj H
  go_enter Try.func7, Try.ntmps7
  go_wp2_with (first | ((with_reducible refine gate_callee (f := 13) rfl ?_); refine goesL_ (some 10) rfl rfl Try.func13 (by kernel_rfl) rfl #[.slice A0 l0.length c0] rfl la_ ?_; (with_reducible refine (laws_big.calls _ _ l0 true _ (kp_ HR0.out) HC0.out A2.out).mono ?_); rintro e w' ⟨rfl, ⟨nd, rfl⟩⟩; refine ⟨_, rfl, ?_⟩))
  go_ret
  exact ⟨an_, bw0_ HB.out⟩
 replace c3 := Bool.eq_false_iff.mpr c3
 subst c3
 have H1 : ((spec_DrawIsSystem.f k l0).bind fun bt789 => ((impl_IsSystem.f k bt789.1 bt789.2.1 bt789.2.2.1 bt789.2.2.2).bind fun t800 => (if t800 = true then ((laws_at0.f l0 0).bind fun t803 => (if bt789.1 = 0 then (none) else ((laws_at0.f l0 1).bind fun t804 => ((laws_at0.f l0 2).bind fun t805 => ((impl_AddGrades.f k bt789.1 bt789.2.1 bt789.2.2.1 bt789.2.2.2 (Int.tmod t804 bt789.1) (Int.tmod t805 bt789.1)).bind fun t806 => ((impl_MultiplyGrades.f k bt789.1 bt789.2.1 bt789.2.2.1 bt789.2.2.2 (Int.tmod t803 bt789.1) t806).bind fun t807 => ((impl_MultiplyGrades.f k bt789.1 bt789.2.1 bt789.2.2.1 bt789.2.2.2 (Int.tmod t803 bt789.1) (Int.tmod t804 bt789.1)).bind fun t808 => ((impl_MultiplyGrades.f k bt789.1 bt789.2.1 bt789.2.2.1 bt789.2.2.2 (Int.tmod t803 bt789.1) (Int.tmod t805 bt789.1)).bind fun t809 => ((impl_SumGrades.f k bt789.1 bt789.2.1 bt789.2.2.1 bt789.2.2.2 (([t808, t809] : List Int))).bind fun t813 => (if t807 = t813 then ((impl_JoinGrades.f k bt789.1 bt789.2.1 bt789.2.2.1 bt789.2.2.2 (Int.tmod t803 bt789.1) (Int.tmod t804 bt789.1)).bind fun t814 => ((impl_IsBelow.f k bt789.1 bt789.2.1 bt789.2.2.1 bt789.2.2.2 (Int.tmod t803 bt789.1) t814).bind fun t815 => (if t815 = true then ((impl_IsBelow.f k bt789.1 bt789.2.1 bt789.2.2.1 bt789.2.2.2 (Int.tmod t804 bt789.1) t814).bind fun t816 => (if t816 = true then ((impl_JoinGrades.f k bt789.1 bt789.2.1 bt789.2.2.1 bt789.2.2.2 (Int.tmod t804 bt789.1) (Int.tmod t803 bt789.1)).bind fun t817 => (if t814 = t817 then ((impl_IsBelow.f k bt789.1 bt789.2.1 bt789.2.2.1 bt789.2.2.2 (Int.tmod t803 bt789.1) (Int.tmod t804 bt789.1)).bind fun t818 => (laws_FnGradesReckoned.j0 k (Int.tmod t803 bt789.1) (Int.tmod t804 bt789.1) (Int.tmod t805 bt789.1) t814 (t818 != (t814 == (Int.tmod t804 bt789.1))) bt789.1 bt789.2.1 bt789.2.2.1 bt789.2.2.2)) else (laws_FnGradesReckoned.j0 k (Int.tmod t803 bt789.1) (Int.tmod t804 bt789.1) (Int.tmod t805 bt789.1) t814 true bt789.1 bt789.2.1 bt789.2.2.1 bt789.2.2.2))) else (laws_FnGradesReckoned.j0 k (Int.tmod t803 bt789.1) (Int.tmod t804 bt789.1) (Int.tmod t805 bt789.1) t814 true bt789.1 bt789.2.1 bt789.2.2.1 bt789.2.2.2))) else (laws_FnGradesReckoned.j0 k (Int.tmod t803 bt789.1) (Int.tmod t804 bt789.1) (Int.tmod t805 bt789.1) t814 true bt789.1 bt789.2.1 bt789.2.2.1 bt789.2.2.2)))) else (some false))))))))))) else ((impl_AddGrades.f k bt789.1 bt789.2.1 bt789.2.2.1 bt789.2.2.2 0 0).bind fun t801 => (if t801 = (-1) then ((impl_JoinGrades.f k bt789.1 bt789.2.1 bt789.2.2.1 bt789.2.2.2 0 0).bind fun t802 => (some (t802 == (-1)))) else (some false)))))) = some r := by rw [if_neg (show ¬ (false = true) by decide)] at H; exact H
 clear H
 have H := H1
 clear H1
 replace H := Option.bind_eq_some_iff.mp H
 obtain ⟨⟨t789, t790, t793, t796⟩, A40, H⟩ := H
 try dsimp only at H
 have A4 := sd_ A40
 clear A40
 replace H := Option.bind_eq_some_iff.mp H
 obtain ⟨t800, A50, H⟩ := H
 try dsimp only at H
 have A5 := sd_ A50
 clear A50
 by_cases c6 : t800 = true
 ·subst c6
  have H1 : ((laws_at0.f l0 0).bind fun t803 => (if t789 = 0 then (none) else ((laws_at0.f l0 1).bind fun t804 => ((laws_at0.f l0 2).bind fun t805 => ((impl_AddGrades.f k t789 t790 t793 t796 (Int.tmod t804 t789) (Int.tmod t805 t789)).bind fun t806 => ((impl_MultiplyGrades.f k t789 t790 t793 t796 (Int.tmod t803 t789) t806).bind fun t807 => ((impl_MultiplyGrades.f k t789 t790 t793 t796 (Int.tmod t803 t789) (Int.tmod t804 t789)).bind fun t808 => ((impl_MultiplyGrades.f k t789 t790 t793 t796 (Int.tmod t803 t789) (Int.tmod t805 t789)).bind fun t809 => ((impl_SumGrades.f k t789 t790 t793 t796 (([t808, t809] : List Int))).bind fun t813 => (if t807 = t813 then ((impl_JoinGrades.f k t789 t790 t793 t796 (Int.tmod t803 t789) (Int.tmod t804 t789)).bind fun t814 => ((impl_IsBelow.f k t789 t790 t793 t796 (Int.tmod t803 t789) t814).bind fun t815 => (if t815 = true then ((impl_IsBelow.f k t789 t790 t793 t796 (Int.tmod t804 t789) t814).bind fun t816 => (if t816 = true then ((impl_JoinGrades.f k t789 t790 t793 t796 (Int.tmod t804 t789) (Int.tmod t803 t789)).bind fun t817 => (if t814 = t817 then ((impl_IsBelow.f k t789 t790 t793 t796 (Int.tmod t803 t789) (Int.tmod t804 t789)).bind fun t818 => (laws_FnGradesReckoned.j0 k (Int.tmod t803 t789) (Int.tmod t804 t789) (Int.tmod t805 t789) t814 (t818 != (t814 == (Int.tmod t804 t789))) t789 t790 t793 t796)) else (laws_FnGradesReckoned.j0 k (Int.tmod t803 t789) (Int.tmod t804 t789) (Int.tmod t805 t789) t814 true t789 t790 t793 t796))) else (laws_FnGradesReckoned.j0 k (Int.tmod t803 t789) (Int.tmod t804 t789) (Int.tmod t805 t789) t814 true t789 t790 t793 t796))) else (laws_FnGradesReckoned.j0 k (Int.tmod t803 t789) (Int.tmod t804 t789) (Int.tmod t805 t789) t814 true t789 t790 t793 t796)))) else (some false))))))))))) = some r := by rw [if_pos rfl] at H; exact H
  clear H
  have H := H1
  clear H1
  replace H := Option.bind_eq_some_iff.mp H
  obtain ⟨t803, A70, H⟩ := H
  try dsimp only at H
  have A7 := sd_ A70
  clear A70
  by_cases c8 : t789 = 0
  ·rw [if_pos c8] at H
   exact absurd H (by simp)
  rw [if_neg c8] at H
  have c8b0 : (t789 == 0) = false := beq_eq_false_iff_ne.mpr c8
  have c8b1 : (t789 != 0) = true := bne_iff_ne.mpr c8
  replace H := Option.bind_eq_some_iff.mp H
  obtain ⟨t804, A90, H⟩ := H
  try dsimp only at H
  have A9 := sd_ A90
  clear A90
  replace H := Option.bind_eq_some_iff.mp H
  obtain ⟨t805, A100, H⟩ := H
  try dsimp only at H
  have A10 := sd_ A100
  clear A100
  replace H := Option.bind_eq_some_iff.mp H
  obtain ⟨t806, A110, H⟩ := H
  try dsimp only at H
  have A11 := sd_ A110
  clear A110
  replace H := Option.bind_eq_some_iff.mp H
  obtain ⟨t807, A120, H⟩ := H
  try dsimp only at H
  have A12 := sd_ A120
  clear A120
  replace H := Option.bind_eq_some_iff.mp H
  obtain ⟨t808, A130, H⟩ := H
  try dsimp only at H
  have A13 := sd_ A130
  clear A130
  replace H := Option.bind_eq_some_iff.mp H
  obtain ⟨t809, A140, H⟩ := H
  try dsimp only at H
  have A14 := sd_ A140
  clear A140
  obtain ⟨y810, hy810⟩ : ∃ y_ : List Int, y_ = (([t808, t809] : List Int)) := ⟨_, rfl⟩
  replace H : ((impl_SumGrades.f k t789 t790 t793 t796 y810).bind fun t813 => (if t807 = t813 then ((impl_JoinGrades.f k t789 t790 t793 t796 (Int.tmod t803 t789) (Int.tmod t804 t789)).bind fun t814 => ((impl_IsBelow.f k t789 t790 t793 t796 (Int.tmod t803 t789) t814).bind fun t815 => (if t815 = true then ((impl_IsBelow.f k t789 t790 t793 t796 (Int.tmod t804 t789) t814).bind fun t816 => (if t816 = true then ((impl_JoinGrades.f k t789 t790 t793 t796 (Int.tmod t804 t789) (Int.tmod t803 t789)).bind fun t817 => (if t814 = t817 then ((impl_IsBelow.f k t789 t790 t793 t796 (Int.tmod t803 t789) (Int.tmod t804 t789)).bind fun t818 => (laws_FnGradesReckoned.j0 k (Int.tmod t803 t789) (Int.tmod t804 t789) (Int.tmod t805 t789) t814 (t818 != (t814 == (Int.tmod t804 t789))) t789 t790 t793 t796)) else (laws_FnGradesReckoned.j0 k (Int.tmod t803 t789) (Int.tmod t804 t789) (Int.tmod t805 t789) t814 true t789 t790 t793 t796))) else (laws_FnGradesReckoned.j0 k (Int.tmod t803 t789) (Int.tmod t804 t789) (Int.tmod t805 t789) t814 true t789 t790 t793 t796))) else (laws_FnGradesReckoned.j0 k (Int.tmod t803 t789) (Int.tmod t804 t789) (Int.tmod t805 t789) t814 true t789 t790 t793 t796)))) else (some false))) = some r := by first | (rw [hy810]; with_reducible exact H) | (have H2_ := (Option.bind_some _ _).symm.trans H; rw [hy810]; with_reducible exact H2_) | (have H2_ := (Option.bind_some _ _).symm.trans H; with_reducible exact H2_) | with_reducible exact H | (rw [hy810]; exact H) | exact H
  have Ny810 := sd_ hy810
  clear hy810
  replace H := Option.bind_eq_some_iff.mp H
  obtain ⟨t813, A150, H⟩ := H
  try dsimp only at H
  have A15 := sd_ A150
  clear A150
  by_cases c16 : t807 = t813
  ·rw [if_pos c16] at H
   have c16b0 : (t807 == t813) = true := beq_iff_eq.mpr c16
   have c16b1 : (t807 != t813) = false := bne_eq_false_iff_eq.mpr c16
   clear c16
   replace H := Option.bind_eq_some_iff.mp H
   obtain ⟨t814, A170, H⟩ := H
   try dsimp only at H
   have A17 := sd_ A170
   clear A170
   have HC18 := sd_ H
   clear H
   go_enter Try.func7, Try.ntmps7
   try go_wp2_with (first | ((with_reducible refine gate_callee (f := 13) rfl ?_); refine goesL_ (some 10) rfl rfl Try.func13 (by kernel_rfl) rfl #[.slice A0 l0.length c0] rfl la_ ?_; (with_reducible refine (laws_big.calls _ _ l0 false _ (kp_ HR0.out) HC0.out A2.out).mono ?_); rintro e w' ⟨rfl, ⟨nd, rfl⟩⟩; refine ⟨_, rfl, ?_⟩) | ((with_reducible refine gate_callee (f := 30) rfl ?_); refine goesL_ (some 12) rfl rfl Try.func30 (by kernel_rfl) rfl #[.slice A0 l0.length c0] rfl la_ ?_; (with_reducible refine (spec_DrawIsSystem.calls k _ _ l0 t789 t790 t793 t796 _ (kp_ HR0.out) HC0.out A4.out).mono ?_); rintro e w19 ⟨v791, v794, v797, rfl, ho0, ho1, ho2, hb⟩; refine ⟨_, rfl, ?_⟩; have HO792 := sd_ (Kd.R_lower ho0 (below_size (bw0_ HB.out))); have HO795 := sd_ (Kd.R_lower ho1 (below_size (bw0_ HB.out))); have HO798 := sd_ (Kd.R_lower ho2 (below_size (bw0_ HB.out))); replace HB := sd_ (below_step (bw0_ HB.out) hb); (try clear ho0); (try clear ho1); (try clear ho2)) | ((with_reducible refine gate_dst (N := 3) rfl ?_); refine bx_ (N := 3) (cs := #[.int .i64 0, .slice none 0 0, .slice none 0 0, .slice none 0 0]) (t := 27) ?_; intro gb799 hg w20 hbox hb; replace HO792 := sd_ (Kd.R_below (ro_ HO792.out) hb); replace HO795 := sd_ (Kd.R_below (ro_ HO795.out) hb); replace HO798 := sd_ (Kd.R_below (ro_ HO798.out) hb); have BK799 := sd_ (hbox); have GW799 := sd_ (gs_ hg (bw0_ HB.out)); have GE799 := sd_ (gs_ hg (bw0_ HB.out)); replace HB := sd_ (below_step (bw0_ HB.out) hb); clear hb hbox hg; obtain ⟨hcz21_0, hcz21_1, hcz21_2, hcz21_3, hfz21_0, hfz21_1, hfz21_2, hfz21_3⟩ := bf4_ BK799.out; obtain ⟨Ao22, co22, eo22⟩ := Kd.R_slice HO792.out; subst eo22; obtain ⟨Ao23, co23, eo23⟩ := Kd.R_slice HO795.out; subst eo23; obtain ⟨Ao24, co24, eo24⟩ := Kd.R_slice HO798.out; subst eo24) | ((with_reducible refine gate_callee (f := 31) rfl ?_); refine goesL_ (some 14) rfl rfl Try.func31 (by kernel_rfl) rfl #[.agg #[.int .i64 t789, .slice Ao22 t790.length co22, .slice Ao23 t793.length co23, .slice Ao24 t796.length co24]] rfl la_ ?_; (with_reducible refine (impl_IsSystem.calls k t789 _ _ t790 _ _ t793 _ _ t796 true _ ?side1 ?side2 ?side3 ?side4 ?side5 ?side6 A5.out).mono ?_); (case side1 => refine (Kd.R_reads' (e := 3) (base := w.heap.size) (ok := fun k_ => some k_ ≠ (.slice Ao23 t793.length co23 : Value).ownBlock) (A := Ao22) (n := t790.length) (c := co22) ?_).2.2; exact (by (with_reducible repeat (first | apply Kd.R_alloc | apply Kd.R_drewN | apply Kd.R_drew)); exact (Kd.R_mono (Kd.R_far (p := ⟨gb799, 3, none⟩) (Kd.R_far (p := ⟨gb799, 2, none⟩) (Kd.R_far (p := ⟨gb799, 1, none⟩) (Kd.R_far (p := ⟨gb799, 0, none⟩) (Kd.R_types HO792.out BK799.out (by decide)) (fun _ hk => hk.2) (.int .i64 t789)) (fun _ hk => hk.2) (.slice Ao22 t790.length co22)) (fun _ hk => hk.2) (.slice Ao23 t793.length co23)) (fun _ hk => hk.2) (.slice Ao24 t796.length co24)) (fun _ h_ => h_.1)))); (case side2 => exact (Kd.R_reads' HO792.out).2.1); (case side3 => refine (Kd.R_reads' (e := 3) (base := w.heap.size) (ok := fun k_ => some k_ ≠ (.slice Ao22 t790.length co22 : Value).ownBlock) (A := Ao23) (n := t793.length) (c := co23) ?_).2.2; exact (by (with_reducible repeat (first | apply Kd.R_alloc | apply Kd.R_drewN | apply Kd.R_drew)); exact (Kd.R_mono (Kd.R_far (p := ⟨gb799, 3, none⟩) (Kd.R_far (p := ⟨gb799, 2, none⟩) (Kd.R_far (p := ⟨gb799, 1, none⟩) (Kd.R_far (p := ⟨gb799, 0, none⟩) (Kd.R_types HO795.out BK799.out (by decide)) (fun _ hk => hk.2) (.int .i64 t789)) (fun _ hk => hk.2) (.slice Ao22 t790.length co22)) (fun _ hk => hk.2) (.slice Ao23 t793.length co23)) (fun _ hk => hk.2) (.slice Ao24 t796.length co24)) (fun _ h_ => h_.1)))); (case side4 => exact (Kd.R_reads' HO795.out).2.1); (case side5 => refine (Kd.R_reads' (e := 4) (base := w.heap.size) (ok := fun k_ => True) (A := Ao24) (n := t796.length) (c := co24) ?_).2.2; exact (by (with_reducible repeat (first | apply Kd.R_alloc | apply Kd.R_drewN | apply Kd.R_drew)); exact (Kd.R_mono (Kd.R_far (p := ⟨gb799, 3, none⟩) (Kd.R_far (p := ⟨gb799, 2, none⟩) (Kd.R_far (p := ⟨gb799, 1, none⟩) (Kd.R_far (p := ⟨gb799, 0, none⟩) (Kd.R_types HO798.out BK799.out (by decide)) (fun _ hk => hk.2) (.int .i64 t789)) (fun _ hk => hk.2) (.slice Ao22 t790.length co22)) (fun _ hk => hk.2) (.slice Ao23 t793.length co23)) (fun _ hk => hk.2) (.slice Ao24 t796.length co24)) (fun _ h_ => h_.1)))); (case side6 => exact (Kd.R_reads' HO798.out).2.1); rintro e w25 ⟨rfl, hb⟩; refine ⟨_, rfl, ?_⟩; replace HO792 := sd_ (Kd.R_below (by (with_reducible repeat (first | apply Kd.R_alloc | apply Kd.R_drewN | apply Kd.R_drew)); exact (Kd.R_mono (Kd.R_far (p := ⟨gb799, 3, none⟩) (Kd.R_far (p := ⟨gb799, 2, none⟩) (Kd.R_far (p := ⟨gb799, 1, none⟩) (Kd.R_far (p := ⟨gb799, 0, none⟩) (Kd.R_types HO792.out BK799.out (by decide)) (fun _ hk => hk.2) (.int .i64 t789)) (fun _ hk => hk.2) (.slice Ao22 t790.length co22)) (fun _ hk => hk.2) (.slice Ao23 t793.length co23)) (fun _ hk => hk.2) (.slice Ao24 t796.length co24)) (fun _ h_ => h_.1))) hb); replace HO795 := sd_ (Kd.R_below (by (with_reducible repeat (first | apply Kd.R_alloc | apply Kd.R_drewN | apply Kd.R_drew)); exact (Kd.R_mono (Kd.R_far (p := ⟨gb799, 3, none⟩) (Kd.R_far (p := ⟨gb799, 2, none⟩) (Kd.R_far (p := ⟨gb799, 1, none⟩) (Kd.R_far (p := ⟨gb799, 0, none⟩) (Kd.R_types HO795.out BK799.out (by decide)) (fun _ hk => hk.2) (.int .i64 t789)) (fun _ hk => hk.2) (.slice Ao22 t790.length co22)) (fun _ hk => hk.2) (.slice Ao23 t793.length co23)) (fun _ hk => hk.2) (.slice Ao24 t796.length co24)) (fun _ h_ => h_.1))) hb); replace HO798 := sd_ (Kd.R_below (by (with_reducible repeat (first | apply Kd.R_alloc | apply Kd.R_drewN | apply Kd.R_drew)); exact (Kd.R_mono (Kd.R_far (p := ⟨gb799, 3, none⟩) (Kd.R_far (p := ⟨gb799, 2, none⟩) (Kd.R_far (p := ⟨gb799, 1, none⟩) (Kd.R_far (p := ⟨gb799, 0, none⟩) (Kd.R_types HO798.out BK799.out (by decide)) (fun _ hk => hk.2) (.int .i64 t789)) (fun _ hk => hk.2) (.slice Ao22 t790.length co22)) (fun _ hk => hk.2) (.slice Ao23 t793.length co23)) (fun _ hk => hk.2) (.slice Ao24 t796.length co24)) (fun _ h_ => h_.1))) hb); replace BK799 := sd_ (blk_below (g := gb799) (o := .cells #[.int .i64 t789, .slice Ao22 t790.length co22, .slice Ao23 t793.length co23, .slice Ao24 t796.length co24] 27 (0, 0)) (by (with_reducible repeat (first | refine blk_drewN ?_ _ | refine blk_drew ?_ | refine blk_alloc ?_ _)); refine blk_put (cs := #[.int .i64 t789, .slice Ao22 t790.length co22, .slice Ao23 t793.length co23, .slice none 0 0]) ?_ 3 _ rfl; (with_reducible repeat (first | refine blk_drewN ?_ _ | refine blk_drew ?_ | refine blk_alloc ?_ _)); refine blk_put (cs := #[.int .i64 t789, .slice Ao22 t790.length co22, .slice none 0 0, .slice none 0 0]) ?_ 2 _ rfl; (with_reducible repeat (first | refine blk_drewN ?_ _ | refine blk_drew ?_ | refine blk_alloc ?_ _)); refine blk_put (cs := #[.int .i64 t789, .slice none 0 0, .slice none 0 0, .slice none 0 0]) ?_ 1 _ rfl; (with_reducible repeat (first | refine blk_drewN ?_ _ | refine blk_drew ?_ | refine blk_alloc ?_ _)); refine blk_put (cs := #[.int .i64 0, .slice none 0 0, .slice none 0 0, .slice none 0 0]) ?_ 0 _ rfl; exact bz_ BK799.out) hb); replace HB := sd_ (below_step (bw1_ HB.out GE799.out) hb); (try clear hb)))
   refine qb_region (by kernel_rfl) (by kernel_rfl) ?_
   have HQ := fun (wq : World) (hq : Below w25.heap.size w25 wq) => below_step HB.out hq
   repeat ((first | (apply qb_skip; (focus rfl)) | (refine qb_callN 25 rfl ?_; apply qb_call 25 rfl Try.func16 (by kernel_rfl) rfl rfl; (focus rfl); (focus (exact fun wq9 hb9 => qb_d hb9 (laws_at0.calls _ _ l0 0 t803 _ (Kd.C_below HR0.out (HQ _ hb9)) HC0.out A7.out))); (focus (rfl))) | (apply qb_val; (focus rfl); (focus (intro wq9 _; go_simp; with_reducible rfl))) | (apply qb_val; (focus rfl); (focus (intro wq9 hb9_; have hb9 : Below w25.heap.size w25 wq9 := hb9_; have BK799 := sd_ (blk_below BK799.out hb9); have hc9_799_0 : wq9.cell? ⟨gb799, 0, none⟩ = some (.int .i64 t789) := (blk_cell BK799.out 0).trans rfl; have hc9_799_1 : wq9.cell? ⟨gb799, 1, none⟩ = some (.slice Ao22 t790.length co22) := (blk_cell BK799.out 1).trans rfl; have hc9_799_2 : wq9.cell? ⟨gb799, 2, none⟩ = some (.slice Ao23 t793.length co23) := (blk_cell BK799.out 2).trans rfl; have hc9_799_3 : wq9.cell? ⟨gb799, 3, none⟩ = some (.slice Ao24 t796.length co24) := (blk_cell BK799.out 3).trans rfl; go_simp; with_reducible rfl)))); (focus (simp only [Act.put, List.setIfInBounds_toArray, List.set_cons_zero, List.set_cons_succ, i64_w, i32_w]; rfl)))
   refine qb_nil ?_
   intro w26 hb
   replace HO792 := sd_ (Kd.R_below HO792.out hb)
   replace HO795 := sd_ (Kd.R_below HO795.out hb)
   replace HO798 := sd_ (Kd.R_below HO798.out hb)
   replace BK799 := sd_ (blk_below BK799.out hb)
   replace HB := sd_ (below_step HB.out hb)
   clear hb
   (try clear HQ)
   try go_wp2
   refine qb_region (by kernel_rfl) (by kernel_rfl) ?_
   have HQ := fun (wq : World) (hq : Below w26.heap.size w26 wq) => below_step HB.out hq
   repeat ((first | (apply qb_skip; (focus rfl)) | (refine qb_callN 30 rfl ?_; apply qb_call 30 rfl Try.func16 (by kernel_rfl) rfl rfl; (focus rfl); (focus (exact fun wq9 hb9 => qb_d hb9 (laws_at0.calls _ _ l0 1 t804 _ (Kd.C_below HR0.out (HQ _ hb9)) HC0.out A9.out))); (focus (rfl))) | (apply qb_val; (focus rfl); (focus (intro wq9 _; go_simp; with_reducible rfl))) | (apply qb_val; (focus rfl); (focus (intro wq9 hb9_; have hb9 : Below w26.heap.size w26 wq9 := hb9_; have BK799 := sd_ (blk_below BK799.out hb9); have hc9_799_0 : wq9.cell? ⟨gb799, 0, none⟩ = some (.int .i64 t789) := (blk_cell BK799.out 0).trans rfl; have hc9_799_1 : wq9.cell? ⟨gb799, 1, none⟩ = some (.slice Ao22 t790.length co22) := (blk_cell BK799.out 1).trans rfl; have hc9_799_2 : wq9.cell? ⟨gb799, 2, none⟩ = some (.slice Ao23 t793.length co23) := (blk_cell BK799.out 2).trans rfl; have hc9_799_3 : wq9.cell? ⟨gb799, 3, none⟩ = some (.slice Ao24 t796.length co24) := (blk_cell BK799.out 3).trans rfl; go_simp; with_reducible rfl)))); (focus (simp only [Act.put, List.setIfInBounds_toArray, List.set_cons_zero, List.set_cons_succ, i64_w, i32_w]; rfl)))
   refine qb_nil ?_
   intro w27 hb
   replace HO792 := sd_ (Kd.R_below HO792.out hb)
   replace HO795 := sd_ (Kd.R_below HO795.out hb)
   replace HO798 := sd_ (Kd.R_below HO798.out hb)
   replace BK799 := sd_ (blk_below BK799.out hb)
   replace HB := sd_ (below_step HB.out hb)
   clear hb
   (try clear HQ)
   try go_wp2
   refine qb_region (by kernel_rfl) (by kernel_rfl) ?_
   have HQ := fun (wq : World) (hq : Below w27.heap.size w27 wq) => below_step HB.out hq
   repeat ((first | (apply qb_skip; (focus rfl)) | (refine qb_callN 35 rfl ?_; apply qb_call 35 rfl Try.func16 (by kernel_rfl) rfl rfl; (focus rfl); (focus (exact fun wq9 hb9 => qb_d hb9 (laws_at0.calls _ _ l0 2 t805 _ (Kd.C_below HR0.out (HQ _ hb9)) HC0.out A10.out))); (focus (rfl))) | (apply qb_val; (focus rfl); (focus (intro wq9 _; go_simp; with_reducible rfl))) | (apply qb_val; (focus rfl); (focus (intro wq9 hb9_; have hb9 : Below w27.heap.size w27 wq9 := hb9_; have BK799 := sd_ (blk_below BK799.out hb9); have hc9_799_0 : wq9.cell? ⟨gb799, 0, none⟩ = some (.int .i64 t789) := (blk_cell BK799.out 0).trans rfl; have hc9_799_1 : wq9.cell? ⟨gb799, 1, none⟩ = some (.slice Ao22 t790.length co22) := (blk_cell BK799.out 1).trans rfl; have hc9_799_2 : wq9.cell? ⟨gb799, 2, none⟩ = some (.slice Ao23 t793.length co23) := (blk_cell BK799.out 2).trans rfl; have hc9_799_3 : wq9.cell? ⟨gb799, 3, none⟩ = some (.slice Ao24 t796.length co24) := (blk_cell BK799.out 3).trans rfl; go_simp; with_reducible rfl)))); (focus (simp only [Act.put, List.setIfInBounds_toArray, List.set_cons_zero, List.set_cons_succ, i64_w, i32_w]; rfl)))
   refine qb_nil ?_
   intro w28 hb
   replace HO792 := sd_ (Kd.R_below HO792.out hb)
   replace HO795 := sd_ (Kd.R_below HO795.out hb)
   replace HO798 := sd_ (Kd.R_below HO798.out hb)
   replace BK799 := sd_ (blk_below BK799.out hb)
   replace HB := sd_ (below_step HB.out hb)
   clear hb
   (try clear HQ)
   try go_wp2
   replace HO792 := sd_ (Kd.R_drew HO792.out)
   replace HO795 := sd_ (Kd.R_drew HO795.out)
   replace HO798 := sd_ (Kd.R_drew HO798.out)
   replace BK799 := sd_ (blk_drew BK799.out)
   replace HB := sd_ (below_drew1 HB.out)
   refine start_ (n := 19) (S := fun w' => w'.cell? ⟨gb799, 0, none⟩ = some (.int .i64 t789) ∧ w'.cell? ⟨gb799, 1, none⟩ = some (.slice Ao22 t790.length co22) ∧ w'.cell? ⟨gb799, 2, none⟩ = some (.slice Ao23 t793.length co23) ∧ w'.cell? ⟨gb799, 3, none⟩ = some (.slice Ao24 t796.length co24)) (ds := []) #[false, false, false, false, false, false, false, false, false, false, false, false, false, false, false, false, false, false, false] (by kernel_rfl) rfl rfl ⟨(blk_cell BK799.out 0).trans rfl, (blk_cell BK799.out 1).trans rfl, (blk_cell BK799.out 2).trans rfl, (blk_cell BK799.out 3).trans rfl⟩ (fun hHeld => ?_); refine with_tabW laws_FnGradesReckoned.tab9 laws_FnGradesReckoned.bits9 (fun HT_ HW_ => ?_)
   generalize w28.drew = w29 at HO792 HO795 HO798 BK799 HB hHeld ⊢
   refine pure_ (i := 1) (N := some 40) (v := ?_) (a' := ?_) #[false, true, false, false, false, false, false, false, false, false, false, false, false, false, false, false, false, false, false] rfl rfl (any_of HT_.out (by kernel_rfl)) (fun _ _ _ h => h) (Or.inl ⟨by rfl, ?_⟩) ?_ ?_
   rotate_left
   ·intro w'
    go_simp
    with_reducible rfl
   rotate_left
   ·simp only [Act.put, List.setIfInBounds_toArray, List.set_cons_zero, List.set_cons_succ, i64_w, i32_w]
    rfl
   refine pure_ (i := 3) (N := some 42) (v := ?_) (a' := ?_) #[false, true, false, true, false, false, false, false, false, false, false, false, false, false, false, false, false, false, false] rfl rfl (any_of HT_.out (by kernel_rfl)) (fun _ _ _ h => h) (Or.inl ⟨by rfl, ?_⟩) ?_ ?_
   rotate_left
   ·intro w'
    go_simp
    with_reducible rfl
   rotate_left
   ·simp only [Act.put, List.setIfInBounds_toArray, List.set_cons_zero, List.set_cons_succ, i64_w, i32_w]
    rfl
   refine pure_ (i := 4) (N := some 43) (v := ?_) (a' := ?_) #[false, true, false, true, true, false, false, false, false, false, false, false, false, false, false, false, false, false, false] rfl rfl (any_of HT_.out (by kernel_rfl)) (fun _ _ _ h => h) (Or.inl ⟨by rfl, ?_⟩) ?_ ?_
   rotate_left
   ·intro w'
    go_simp
    with_reducible rfl
   rotate_left
   ·simp only [Act.put, List.setIfInBounds_toArray, List.set_cons_zero, List.set_cons_succ, i64_w, i32_w]
    rfl
   refine pure_ (i := 9) (N := some 48) (v := ?_) (a' := ?_) #[false, true, false, true, true, false, false, false, false, true, false, false, false, false, false, false, false, false, false] rfl rfl (any_of HT_.out (by kernel_rfl)) (fun _ _ _ h => h) (Or.inl ⟨by rfl, ?_⟩) ?_ ?_
   rotate_left
   ·intro w'
    go_simp
    with_reducible rfl
   rotate_left
   ·simp only [Act.put, List.setIfInBounds_toArray, List.set_cons_zero, List.set_cons_succ, i64_w, i32_w]
    rfl
   refine pure_ (i := 10) (N := some 49) (v := ?_) (a' := ?_) #[false, true, false, true, true, false, false, false, false, true, true, false, false, false, false, false, false, false, false] rfl rfl (any_of HT_.out (by kernel_rfl)) (fun _ _ _ h => h) (Or.inl ⟨by rfl, ?_⟩) ?_ ?_
   rotate_left
   ·intro w'
    go_simp
    with_reducible rfl
   rotate_left
   ·simp only [Act.put, List.setIfInBounds_toArray, List.set_cons_zero, List.set_cons_succ, i64_w, i32_w]
    rfl
   refine pure_ (i := 13) (N := some 52) (v := ?_) (a' := ?_) #[false, true, false, true, true, false, false, false, false, true, true, false, false, true, false, false, false, false, false] rfl rfl (any_of HT_.out (by kernel_rfl)) (fun _ _ _ h => h) (Or.inl ⟨by rfl, ?_⟩) ?_ ?_
   rotate_left
   ·intro w'
    go_simp
    with_reducible rfl
   rotate_left
   ·simp only [Act.put, List.setIfInBounds_toArray, List.set_cons_zero, List.set_cons_succ, i64_w, i32_w]
    rfl
   refine pure_ (i := 14) (N := some 53) (v := ?_) (a' := ?_) #[false, true, false, true, true, false, false, false, false, true, true, false, false, true, true, false, false, false, false] rfl rfl (any_of HT_.out (by kernel_rfl)) (fun _ _ _ h => h) (Or.inl ⟨by rfl, ?_⟩) ?_ ?_
   rotate_left
   ·intro w'
    go_simp
    with_reducible rfl
   rotate_left
   ·simp only [Act.put, List.setIfInBounds_toArray, List.set_cons_zero, List.set_cons_succ, i64_w, i32_w]
    rfl
   refine take_ (i := 0) (N := some 39) (v := ?_) (a' := ?_) #[true, true, false, true, true, false, false, false, false, true, true, false, false, true, true, false, false, false, false] rfl rfl (take_ofW HT_.out HW_.out (by kernel_rfl)) (fun _ _ _ h => h) (Or.inl ⟨by rfl, ?_⟩) hHeld ?_ ?_
   rotate_left
   ·rintro w' ⟨s0, s1, s2, s3⟩
    go_simp
    with_reducible rfl
   rotate_left
   ·simp only [Act.put, List.setIfInBounds_toArray, List.set_cons_zero, List.set_cons_succ, i64_w, i32_w]
    rfl
   refine take_ (i := 2) (N := some 41) (v := ?_) (a' := ?_) #[true, true, true, true, true, false, false, false, false, true, true, false, false, true, true, false, false, false, false] rfl rfl (take_ofW HT_.out HW_.out (by kernel_rfl)) (fun _ _ _ h => h) (Or.inl ⟨by rfl, ?_⟩) hHeld ?_ ?_
   rotate_left
   ·rintro w' ⟨s0, s1, s2, s3⟩
    go_simp
    with_reducible rfl
   rotate_left
   ·simp only [Act.put, List.setIfInBounds_toArray, List.set_cons_zero, List.set_cons_succ, i64_w, i32_w]
    rfl
   refine take_ (i := 7) (N := some 46) (v := ?_) (a' := ?_) #[true, true, true, true, true, false, false, true, false, true, true, false, false, true, true, false, false, false, false] rfl rfl (take_ofW HT_.out HW_.out (by kernel_rfl)) (fun _ _ _ h => h) (Or.inl ⟨by rfl, ?_⟩) hHeld ?_ ?_
   rotate_left
   ·rintro w' ⟨s0, s1, s2, s3⟩
    go_simp
    with_reducible rfl
   rotate_left
   ·simp only [Act.put, List.setIfInBounds_toArray, List.set_cons_zero, List.set_cons_succ, i64_w, i32_w]
    rfl
   refine take_ (i := 8) (N := some 47) (v := ?_) (a' := ?_) #[true, true, true, true, true, false, false, true, true, true, true, false, false, true, true, false, false, false, false] rfl rfl (take_ofW HT_.out HW_.out (by kernel_rfl)) (fun _ _ _ h => h) (Or.inl ⟨by rfl, ?_⟩) hHeld ?_ ?_
   rotate_left
   ·rintro w' ⟨s0, s1, s2, s3⟩
    go_simp
    with_reducible rfl
   rotate_left
   ·simp only [Act.put, List.setIfInBounds_toArray, List.set_cons_zero, List.set_cons_succ, i64_w, i32_w]
    rfl
   refine take_ (i := 12) (N := some 51) (v := ?_) (a' := ?_) #[true, true, true, true, true, false, false, true, true, true, true, false, true, true, true, false, false, false, false] rfl rfl (take_ofW HT_.out HW_.out (by kernel_rfl)) (fun _ _ _ h => h) (Or.inl ⟨by rfl, ?_⟩) hHeld ?_ ?_
   rotate_left
   ·rintro w' ⟨s0, s1, s2, s3⟩
    go_simp
    with_reducible rfl
   rotate_left
   ·simp only [Act.put, List.setIfInBounds_toArray, List.set_cons_zero, List.set_cons_succ, i64_w, i32_w]
    rfl
   refine one_ (i := 5) (N := some 44) #[true, true, true, true, true, true, false, true, true, true, true, false, true, true, true, false, false, false, false] rfl rfl (one_of HT_.out (by kernel_rfl)) (by decide) (fun K hK => ?_)
   refine goes_ Try.func32 (by kernel_rfl) rfl #[.agg #[.int .i64 t789, .slice Ao22 t790.length co22, .slice Ao23 t793.length co23, .slice Ao24 t796.length co24], .int .i64 (Int.tmod t804 t789), .int .i64 (Int.tmod t805 t789)] (by rfl) rfl rfl la_ ?_
   with_reducible refine (impl_AddGrades.calls k t789 _ _ t790 _ _ t793 _ _ t796 (Int.tmod t804 t789) (Int.tmod t805 t789) t806 _ ?side1 ?side2 ?side3 ?side4 ?side5 ?side6 A11.out).mono ?_
   (case side1 => exact kp_ (Kd.R_reads' HO792.out).2.2)
   (case side2 => exact (Kd.R_reads' HO792.out).2.1)
   (case side3 => exact kp_ (Kd.R_reads' HO795.out).2.2)
   (case side4 => exact (Kd.R_reads' HO795.out).2.1)
   (case side5 => exact kp_ (Kd.R_reads' HO798.out).2.2)
   (case side6 => exact (Kd.R_reads' HO798.out).2.1)
   rintro e w30 ⟨rfl, hb⟩
   refine ⟨_, rfl, ?_⟩
   replace HO792 := sd_ (Kd.R_below (ro_ HO792.out) hb)
   replace HO795 := sd_ (Kd.R_below (ro_ HO795.out) hb)
   replace HO798 := sd_ (Kd.R_below (ro_ HO798.out) hb)
   replace BK799 := sd_ (bb_ BK799.out hb)
   replace HB := sd_ (below_step (bw1_ HB.out GE799.out) hb)
   (try clear hb)
   (try clear hb2)
   (try clear hk)
   (try clear hi)
   refine hK.out _ _ ⟨(blk_cell BK799.out 0).trans rfl, (blk_cell BK799.out 1).trans rfl, (blk_cell BK799.out 2).trans rfl, (blk_cell BK799.out 3).trans rfl⟩ (fun hHeld => ?_)
   clear hK K
   refine norm_ (a' := ?_) ?_ ?_
   rotate_left
   ·show Act.put _ (some 44) _ = _
    simp only [Act.put, List.setIfInBounds_toArray, List.set_cons_zero, List.set_cons_succ, i64_w, i32_w]
    rfl
   refine one_ (i := 6) (N := some 45) #[true, true, true, true, true, true, true, true, true, true, true, false, true, true, true, false, false, false, false] rfl rfl (one_of HT_.out (by kernel_rfl)) (by decide) (fun K hK => ?_)
   refine goes_ Try.func33 (by kernel_rfl) rfl #[.agg #[.int .i64 t789, .slice Ao22 t790.length co22, .slice Ao23 t793.length co23, .slice Ao24 t796.length co24], .int .i64 (Int.tmod t803 t789), .int .i64 t806] (by rfl) rfl rfl la_ ?_
   with_reducible refine (impl_MultiplyGrades.calls k t789 _ _ t790 _ _ t793 _ _ t796 (Int.tmod t803 t789) t806 t807 _ ?side1 ?side2 ?side3 ?side4 ?side5 ?side6 A12.out).mono ?_
   (case side1 => exact kp_ (Kd.R_reads' HO792.out).2.2)
   (case side2 => exact (Kd.R_reads' HO792.out).2.1)
   (case side3 => exact kp_ (Kd.R_reads' HO795.out).2.2)
   (case side4 => exact (Kd.R_reads' HO795.out).2.1)
   (case side5 => exact kp_ (Kd.R_reads' HO798.out).2.2)
   (case side6 => exact (Kd.R_reads' HO798.out).2.1)
   rintro e w31 ⟨rfl, hb⟩
   refine ⟨_, rfl, ?_⟩
   replace HO792 := sd_ (Kd.R_below (ro_ HO792.out) hb)
   replace HO795 := sd_ (Kd.R_below (ro_ HO795.out) hb)
   replace HO798 := sd_ (Kd.R_below (ro_ HO798.out) hb)
   replace BK799 := sd_ (bb_ BK799.out hb)
   replace HB := sd_ (below_step (bw1_ HB.out GE799.out) hb)
   (try clear hb)
   (try clear hb2)
   (try clear hk)
   (try clear hi)
   refine hK.out _ _ ⟨(blk_cell BK799.out 0).trans rfl, (blk_cell BK799.out 1).trans rfl, (blk_cell BK799.out 2).trans rfl, (blk_cell BK799.out 3).trans rfl⟩ (fun hHeld => ?_)
   clear hK K
   refine norm_ (a' := ?_) ?_ ?_
   rotate_left
   ·show Act.put _ (some 45) _ = _
    simp only [Act.put, List.setIfInBounds_toArray, List.set_cons_zero, List.set_cons_succ, i64_w, i32_w]
    rfl
   refine one_ (i := 11) (N := some 50) #[true, true, true, true, true, true, true, true, true, true, true, true, true, true, true, false, false, false, false] rfl rfl (one_of HT_.out (by kernel_rfl)) (by decide) (fun K hK => ?_)
   refine goes_ Try.func33 (by kernel_rfl) rfl #[.agg #[.int .i64 t789, .slice Ao22 t790.length co22, .slice Ao23 t793.length co23, .slice Ao24 t796.length co24], .int .i64 (Int.tmod t803 t789), .int .i64 (Int.tmod t804 t789)] (by rfl) rfl rfl la_ ?_
   with_reducible refine (impl_MultiplyGrades.calls k t789 _ _ t790 _ _ t793 _ _ t796 (Int.tmod t803 t789) (Int.tmod t804 t789) t808 _ ?side1 ?side2 ?side3 ?side4 ?side5 ?side6 A13.out).mono ?_
   (case side1 => exact kp_ (Kd.R_reads' HO792.out).2.2)
   (case side2 => exact (Kd.R_reads' HO792.out).2.1)
   (case side3 => exact kp_ (Kd.R_reads' HO795.out).2.2)
   (case side4 => exact (Kd.R_reads' HO795.out).2.1)
   (case side5 => exact kp_ (Kd.R_reads' HO798.out).2.2)
   (case side6 => exact (Kd.R_reads' HO798.out).2.1)
   rintro e w32 ⟨rfl, hb⟩
   refine ⟨_, rfl, ?_⟩
   replace HO792 := sd_ (Kd.R_below (ro_ HO792.out) hb)
   replace HO795 := sd_ (Kd.R_below (ro_ HO795.out) hb)
   replace HO798 := sd_ (Kd.R_below (ro_ HO798.out) hb)
   replace BK799 := sd_ (bb_ BK799.out hb)
   replace HB := sd_ (below_step (bw1_ HB.out GE799.out) hb)
   (try clear hb)
   (try clear hb2)
   (try clear hk)
   (try clear hi)
   refine hK.out _ _ ⟨(blk_cell BK799.out 0).trans rfl, (blk_cell BK799.out 1).trans rfl, (blk_cell BK799.out 2).trans rfl, (blk_cell BK799.out 3).trans rfl⟩ (fun hHeld => ?_)
   clear hK K
   refine norm_ (a' := ?_) ?_ ?_
   rotate_left
   ·show Act.put _ (some 50) _ = _
    simp only [Act.put, List.setIfInBounds_toArray, List.set_cons_zero, List.set_cons_succ, i64_w, i32_w]
    rfl
   refine one_ (i := 15) (N := some 54) #[true, true, true, true, true, true, true, true, true, true, true, true, true, true, true, true, false, false, false] rfl rfl (one_of HT_.out (by kernel_rfl)) (by decide) (fun K hK => ?_)
   refine goes_ Try.func33 (by kernel_rfl) rfl #[.agg #[.int .i64 t789, .slice Ao22 t790.length co22, .slice Ao23 t793.length co23, .slice Ao24 t796.length co24], .int .i64 (Int.tmod t803 t789), .int .i64 (Int.tmod t805 t789)] (by rfl) rfl rfl la_ ?_
   with_reducible refine (impl_MultiplyGrades.calls k t789 _ _ t790 _ _ t793 _ _ t796 (Int.tmod t803 t789) (Int.tmod t805 t789) t809 _ ?side1 ?side2 ?side3 ?side4 ?side5 ?side6 A14.out).mono ?_
   (case side1 => exact kp_ (Kd.R_reads' HO792.out).2.2)
   (case side2 => exact (Kd.R_reads' HO792.out).2.1)
   (case side3 => exact kp_ (Kd.R_reads' HO795.out).2.2)
   (case side4 => exact (Kd.R_reads' HO795.out).2.1)
   (case side5 => exact kp_ (Kd.R_reads' HO798.out).2.2)
   (case side6 => exact (Kd.R_reads' HO798.out).2.1)
   rintro e w33 ⟨rfl, hb⟩
   refine ⟨_, rfl, ?_⟩
   replace HO792 := sd_ (Kd.R_below (ro_ HO792.out) hb)
   replace HO795 := sd_ (Kd.R_below (ro_ HO795.out) hb)
   replace HO798 := sd_ (Kd.R_below (ro_ HO798.out) hb)
   replace BK799 := sd_ (bb_ BK799.out hb)
   replace HB := sd_ (below_step (bw1_ HB.out GE799.out) hb)
   (try clear hb)
   (try clear hb2)
   (try clear hk)
   (try clear hi)
   refine hK.out _ _ ⟨(blk_cell BK799.out 0).trans rfl, (blk_cell BK799.out 1).trans rfl, (blk_cell BK799.out 2).trans rfl, (blk_cell BK799.out 3).trans rfl⟩ (fun hHeld => ?_)
   clear hK K
   refine norm_ (a' := ?_) ?_ ?_
   rotate_left
   ·show Act.put _ (some 54) _ = _
    simp only [Act.put, List.setIfInBounds_toArray, List.set_cons_zero, List.set_cons_succ, i64_w, i32_w]
    rfl
   refine one_ (i := 16) (N := some 55) #[true, true, true, true, true, true, true, true, true, true, true, true, true, true, true, true, true, false, false] rfl rfl (one_of HT_.out (by kernel_rfl)) (by decide) (fun K hK => ?_)
   refine Kd.R_lit_step (Kd.int .i64) _ 3 ?hg (N := 55) ?hd (xs := ([t808, t809] : List Int)) (inner := [.int .i64 t808, .int .i64 t809]) (ok := fun _ => True) (okp := fun _ => True) ?hr ?hp (fun _ hk => hk) trivial (Below.refl _ _) (Nat.le_refl _) (by simp) ?_; (case hd => rfl); (case hg => rfl); (case hr => first | (go_simp; done) | (go_simp; rfl)); (case hp => exact (Reps.one (show Kd.M (Kd.int .i64) _ _ _ t808 [.int .i64 t808] from rfl) (Reps.one (show Kd.M (Kd.int .i64) _ _ _ t809 [.int .i64 t809] from rfl) (Reps.none _ _))))
   intro v811 w34 ho35 hb hg_ hnew_
   clear hg_ hnew_
   (first | rw [← Ny810.out] at ho35 | (simp only [Int.reduceToNat] at ho35; rw [← Ny810.out] at ho35))
   replace HO798 := sd_ (Kd.R_below (ro_ HO798.out) hb)
   have HO812 := sd_ (Kd.R_lower (Kd.R_new' (Kd.R_new' ho35 (Kd.R_lt (ro_ HO792.out))) (Kd.R_lt (ro_ HO795.out))) (below_size (bw1_ HB.out GE799.out)))
   replace HO792 := sd_ (Kd.R_elder' (ro_ HO792.out) (Kd.R_base ho35) hb)
   replace HO795 := sd_ (Kd.R_elder' (ro_ HO795.out) (Kd.R_base ho35) hb)
   replace BK799 := sd_ (bb_ BK799.out hb)
   replace HB := sd_ (below_step (bw1_ HB.out GE799.out) hb)
   clear hb ho35
   obtain ⟨Ao36, co36, eo36⟩ := Kd.R_slice HO812.out
   (first | subst eo36 | (injection eo36 with f1_ f2_ f3_; have f4_ := f1_.symm; have f5_ := f3_.symm; clear f1_ f2_ f3_; subst f4_; subst f5_))
   refine hK.out _ _ ⟨(blk_cell BK799.out 0).trans rfl, (blk_cell BK799.out 1).trans rfl, (blk_cell BK799.out 2).trans rfl, (blk_cell BK799.out 3).trans rfl⟩ (fun hHeld => ?_)
   clear hK K
   refine norm_ (a' := ?_) ?_ ?_
   rotate_left
   ·show Act.put _ (some 55) _ = _
    simp only [Act.put, List.setIfInBounds_toArray, List.set_cons_zero, List.set_cons_succ, i64_w, i32_w]
    rfl
   refine one_ (i := 17) (N := some 56) #[true, true, true, true, true, true, true, true, true, true, true, true, true, true, true, true, true, true, false] rfl rfl (one_of HT_.out (by kernel_rfl)) (by decide) (fun K hK => ?_)
   refine goes_ Try.func34 (by kernel_rfl) rfl #[.agg #[.int .i64 t789, .slice Ao22 t790.length co22, .slice Ao23 t793.length co23, .slice Ao24 t796.length co24], .slice Ao36 y810.length co36] (by rfl) rfl rfl la_ ?_
   with_reducible refine (impl_SumGrades.calls k t789 _ _ t790 _ _ t793 _ _ t796 _ _ y810 t813 _ ?side1 ?side2 ?side3 ?side4 ?side5 ?side6 ?side7 ?side8 A15.out).mono ?_
   (case side1 => exact kp_ (Kd.R_reads' HO792.out).2.2)
   (case side2 => exact (Kd.R_reads' HO792.out).2.1)
   (case side3 => exact kp_ (Kd.R_reads' HO795.out).2.2)
   (case side4 => exact (Kd.R_reads' HO795.out).2.1)
   (case side5 => exact kp_ (Kd.R_reads' HO798.out).2.2)
   (case side6 => exact (Kd.R_reads' HO798.out).2.1)
   (case side7 => exact kp_ (Kd.R_reads' HO812.out).2.2)
   (case side8 => exact (Kd.R_reads' HO812.out).2.1)
   rintro e w37 ⟨rfl, hb⟩
   refine ⟨_, rfl, ?_⟩
   replace HO792 := sd_ (Kd.R_below (ro_ HO792.out) hb)
   replace HO795 := sd_ (Kd.R_below (ro_ HO795.out) hb)
   replace HO798 := sd_ (Kd.R_below (ro_ HO798.out) hb)
   replace HO812 := sd_ (Kd.R_below (ro_ HO812.out) hb)
   replace BK799 := sd_ (bb_ BK799.out hb)
   replace HB := sd_ (below_step (bw1_ HB.out GE799.out) hb)
   (try clear hb)
   (try clear hb2)
   (try clear hk)
   (try clear hi)
   refine hK.out _ _ ⟨(blk_cell BK799.out 0).trans rfl, (blk_cell BK799.out 1).trans rfl, (blk_cell BK799.out 2).trans rfl, (blk_cell BK799.out 3).trans rfl⟩ (fun hHeld => ?_)
   clear hK K
   refine norm_ (a' := ?_) ?_ ?_
   rotate_left
   ·show Act.put _ (some 56) _ = _
    simp only [Act.put, List.setIfInBounds_toArray, List.set_cons_zero, List.set_cons_succ, i64_w, i32_w]
    rfl
   refine pure_ (i := 18) (N := some 57) (v := ?_) (a' := ?_) #[true, true, true, true, true, true, true, true, true, true, true, true, true, true, true, true, true, true, true] rfl rfl (any_of HT_.out (by kernel_rfl)) (fun _ _ _ h => h) (Or.inl ⟨by rfl, ?_⟩) ?_ ?_
   rotate_left
   ·intro w'
    go_simp
    with_reducible rfl
   rotate_left
   ·simp only [Act.put, List.setIfInBounds_toArray, List.set_cons_zero, List.set_cons_succ, i64_w, i32_w]
    rfl
   refine done_ (done_of HT_.out (by kernel_rfl)) ?_
   obtain ⟨hcz38_0, hcz38_1, hcz38_2, hcz38_3, hfz38_0, hfz38_1, hfz38_2, hfz38_3⟩ := bf4_ BK799.out
   go_upto_region 12 with (first | ((with_reducible refine gate_callee (f := 20) rfl ?_); refine goesL_ (some 61) rfl rfl Try.func20 (by kernel_rfl) rfl #[.agg #[.int .i64 t789, .slice Ao22 t790.length co22, .slice Ao23 t793.length co23, .slice Ao24 t796.length co24], .int .i64 (Int.tmod t803 t789), .int .i64 (Int.tmod t804 t789)] rfl la_ ?_; (with_reducible refine (impl_JoinGrades.calls k t789 _ _ t790 _ _ t793 _ _ t796 (Int.tmod t803 t789) (Int.tmod t804 t789) t814 _ ?side1 ?side2 ?side3 ?side4 ?side5 ?side6 A17.out).mono ?_); (case side1 => exact kp_ (Kd.R_reads' HO792.out).2.2); (case side2 => exact (Kd.R_reads' HO792.out).2.1); (case side3 => exact kp_ (Kd.R_reads' HO795.out).2.2); (case side4 => exact (Kd.R_reads' HO795.out).2.1); (case side5 => exact kp_ (Kd.R_reads' HO798.out).2.2); (case side6 => exact (Kd.R_reads' HO798.out).2.1); rintro e w39 ⟨rfl, hb⟩; refine ⟨_, rfl, ?_⟩; replace HO792 := sd_ (Kd.R_below (ro_ HO792.out) hb); replace HO795 := sd_ (Kd.R_below (ro_ HO795.out) hb); replace HO798 := sd_ (Kd.R_below (ro_ HO798.out) hb); replace HO812 := sd_ (Kd.R_below (ro_ HO812.out) hb); replace BK799 := sd_ (bb_ BK799.out hb); replace HB := sd_ (below_step (bw1_ HB.out GE799.out) hb); (try clear hb)))
   (try simp only [Act.put, List.setIfInBounds_toArray, List.set_cons_zero, List.set_cons_succ])
   go_cut [91] (fun v91 wc => ∃ (kq : Nat) (x91_17 : Bool), v91 = .bool x91_17 ∧ Aside0 (laws_FnGradesReckoned.j0 kq (Int.tmod t803 t789) (Int.tmod t804 t789) (Int.tmod t805 t789) t814 x91_17 t789 t790 t793 t796 = some r) ∧ Aside0 (kq ≤ k) ∧ Aside0 (Kd.R (Kd.int .i64) 3 wc w.heap.size (fun k_ => some k_ ≠ ((.slice Ao23 t793.length co23) : Value).ownBlock) (.slice Ao22 t790.length co22) t790) ∧ Aside0 (Kd.R (Kd.int .i64) 3 wc w.heap.size (fun k_ => some k_ ≠ ((.slice Ao22 t790.length co22) : Value).ownBlock) (.slice Ao23 t793.length co23) t793) ∧ Aside0 (Kd.R Kd.bool 4 wc w.heap.size (fun _ => True) (.slice Ao24 t796.length co24) t796) ∧ Aside0 (wc.heap[gb799]? = some (.cells #[.int .i64 t789, (.slice Ao22 t790.length co22), (.slice Ao23 t793.length co23), (.slice Ao24 t796.length co24)] 27 (0, 0))) ∧ Aside0 (Below w.heap.size w wc))
   case first =>
    have H := HC18.out
    clear HC18
    replace H := Option.bind_eq_some_iff.mp H
    obtain ⟨t815, A400, H⟩ := H
    try dsimp only at H
    have A40 := sd_ A400
    clear A400
    by_cases c41 : t815 = true
    ·subst c41
     have H1 : ((impl_IsBelow.f k t789 t790 t793 t796 (Int.tmod t804 t789) t814).bind fun t816 => (if t816 = true then ((impl_JoinGrades.f k t789 t790 t793 t796 (Int.tmod t804 t789) (Int.tmod t803 t789)).bind fun t817 => (if t814 = t817 then ((impl_IsBelow.f k t789 t790 t793 t796 (Int.tmod t803 t789) (Int.tmod t804 t789)).bind fun t818 => (laws_FnGradesReckoned.j0 k (Int.tmod t803 t789) (Int.tmod t804 t789) (Int.tmod t805 t789) t814 (t818 != (t814 == (Int.tmod t804 t789))) t789 t790 t793 t796)) else (laws_FnGradesReckoned.j0 k (Int.tmod t803 t789) (Int.tmod t804 t789) (Int.tmod t805 t789) t814 true t789 t790 t793 t796))) else (laws_FnGradesReckoned.j0 k (Int.tmod t803 t789) (Int.tmod t804 t789) (Int.tmod t805 t789) t814 true t789 t790 t793 t796))) = some r := by rw [if_pos rfl] at H; exact H
     clear H
     have H := H1
     clear H1
     replace H := Option.bind_eq_some_iff.mp H
     obtain ⟨t816, A420, H⟩ := H
     try dsimp only at H
     have A42 := sd_ A420
     clear A420
     by_cases c43 : t816 = true
     ·subst c43
      have H1 : ((impl_JoinGrades.f k t789 t790 t793 t796 (Int.tmod t804 t789) (Int.tmod t803 t789)).bind fun t817 => (if t814 = t817 then ((impl_IsBelow.f k t789 t790 t793 t796 (Int.tmod t803 t789) (Int.tmod t804 t789)).bind fun t818 => (laws_FnGradesReckoned.j0 k (Int.tmod t803 t789) (Int.tmod t804 t789) (Int.tmod t805 t789) t814 (t818 != (t814 == (Int.tmod t804 t789))) t789 t790 t793 t796)) else (laws_FnGradesReckoned.j0 k (Int.tmod t803 t789) (Int.tmod t804 t789) (Int.tmod t805 t789) t814 true t789 t790 t793 t796))) = some r := by rw [if_pos rfl] at H; exact H
      clear H
      have H := H1
      clear H1
      replace H := Option.bind_eq_some_iff.mp H
      obtain ⟨t817, A440, H⟩ := H
      try dsimp only at H
      have A44 := sd_ A440
      clear A440
      by_cases c45 : t814 = t817
      ·rw [if_pos c45] at H
       have c45b0 : (t814 == t817) = true := beq_iff_eq.mpr c45
       have c45b1 : (t814 != t817) = false := bne_eq_false_iff_eq.mpr c45
       clear c45
       (first | rw [c45b0] | (simp only [i64_w, i32_w]; rw [c45b0]) | skip)
       replace H := Option.bind_eq_some_iff.mp H
       obtain ⟨t818, A460, H⟩ := H
       try dsimp only at H
       have A46 := sd_ A460
       clear A460
       have H' := sd_ H
       clear H
       obtain ⟨hcz47_0, hcz47_1, hcz47_2, hcz47_3, hfz47_0, hfz47_1, hfz47_2, hfz47_3⟩ := bf4_ BK799.out
       go_wp2_with (first | ((with_reducible refine gate_callee (f := 35) rfl ?_); refine goesL_ (some 65) rfl rfl Try.func35 (by kernel_rfl) rfl #[.agg #[.int .i64 t789, .slice Ao22 t790.length co22, .slice Ao23 t793.length co23, .slice Ao24 t796.length co24], .int .i64 (Int.tmod t803 t789), .int .i64 t814] rfl la_ ?_; (with_reducible refine (impl_IsBelow.calls k t789 _ _ t790 _ _ t793 _ _ t796 (Int.tmod t803 t789) t814 true _ ?side1 ?side2 ?side3 ?side4 ?side5 ?side6 A40.out).mono ?_); (case side1 => exact kp_ (Kd.R_reads' HO792.out).2.2); (case side2 => exact (Kd.R_reads' HO792.out).2.1); (case side3 => exact kp_ (Kd.R_reads' HO795.out).2.2); (case side4 => exact (Kd.R_reads' HO795.out).2.1); (case side5 => exact kp_ (Kd.R_reads' HO798.out).2.2); (case side6 => exact (Kd.R_reads' HO798.out).2.1); rintro e w48 ⟨rfl, hb⟩; refine ⟨_, rfl, ?_⟩; replace HO792 := sd_ (Kd.R_below (ro_ HO792.out) hb); replace HO795 := sd_ (Kd.R_below (ro_ HO795.out) hb); replace HO798 := sd_ (Kd.R_below (ro_ HO798.out) hb); replace HO812 := sd_ (Kd.R_below (ro_ HO812.out) hb); replace BK799 := sd_ (bb_ BK799.out hb); replace HB := sd_ (below_step (bw1_ HB.out GE799.out) hb); (try clear hb); obtain ⟨hcz49_0, hcz49_1, hcz49_2, hcz49_3, hfz49_0, hfz49_1, hfz49_2, hfz49_3⟩ := bf4_ BK799.out) | (go_at_call 35; (with_reducible refine (impl_IsBelow.calls k t789 _ _ t790 _ _ t793 _ _ t796 (Int.tmod t804 t789) t814 true _ ?side1 ?side2 ?side3 ?side4 ?side5 ?side6 A42.out).mono ?_); (case side1 => exact kp_ (Kd.R_reads' HO792.out).2.2); (case side2 => exact (Kd.R_reads' HO792.out).2.1); (case side3 => exact kp_ (Kd.R_reads' HO795.out).2.2); (case side4 => exact (Kd.R_reads' HO795.out).2.1); (case side5 => exact kp_ (Kd.R_reads' HO798.out).2.2); (case side6 => exact (Kd.R_reads' HO798.out).2.1); rintro e w50 ⟨rfl, hb⟩; replace HO792 := sd_ (Kd.R_below (ro_ HO792.out) hb); replace HO795 := sd_ (Kd.R_below (ro_ HO795.out) hb); replace HO798 := sd_ (Kd.R_below (ro_ HO798.out) hb); replace HO812 := sd_ (Kd.R_below (ro_ HO812.out) hb); replace BK799 := sd_ (bb_ BK799.out hb); replace HB := sd_ (below_step (bw1_ HB.out GE799.out) hb); (try clear hb); obtain ⟨hcz51_0, hcz51_1, hcz51_2, hcz51_3, hfz51_0, hfz51_1, hfz51_2, hfz51_3⟩ := bf4_ BK799.out) | (go_at_call 20; (with_reducible refine (impl_JoinGrades.calls k t789 _ _ t790 _ _ t793 _ _ t796 (Int.tmod t804 t789) (Int.tmod t803 t789) t817 _ ?side1 ?side2 ?side3 ?side4 ?side5 ?side6 A44.out).mono ?_); (case side1 => exact kp_ (Kd.R_reads' HO792.out).2.2); (case side2 => exact (Kd.R_reads' HO792.out).2.1); (case side3 => exact kp_ (Kd.R_reads' HO795.out).2.2); (case side4 => exact (Kd.R_reads' HO795.out).2.1); (case side5 => exact kp_ (Kd.R_reads' HO798.out).2.2); (case side6 => exact (Kd.R_reads' HO798.out).2.1); rintro e w52 ⟨rfl, hb⟩; replace HO792 := sd_ (Kd.R_below (ro_ HO792.out) hb); replace HO795 := sd_ (Kd.R_below (ro_ HO795.out) hb); replace HO798 := sd_ (Kd.R_below (ro_ HO798.out) hb); replace HO812 := sd_ (Kd.R_below (ro_ HO812.out) hb); replace BK799 := sd_ (bb_ BK799.out hb); replace HB := sd_ (below_step (bw1_ HB.out GE799.out) hb); (try clear hb); obtain ⟨hcz53_0, hcz53_1, hcz53_2, hcz53_3, hfz53_0, hfz53_1, hfz53_2, hfz53_3⟩ := bf4_ BK799.out) | (go_at_call 35; (with_reducible refine (impl_IsBelow.calls k t789 _ _ t790 _ _ t793 _ _ t796 (Int.tmod t803 t789) (Int.tmod t804 t789) t818 _ ?side1 ?side2 ?side3 ?side4 ?side5 ?side6 A46.out).mono ?_); (case side1 => exact kp_ (Kd.R_reads' HO792.out).2.2); (case side2 => exact (Kd.R_reads' HO792.out).2.1); (case side3 => exact kp_ (Kd.R_reads' HO795.out).2.2); (case side4 => exact (Kd.R_reads' HO795.out).2.1); (case side5 => exact kp_ (Kd.R_reads' HO798.out).2.2); (case side6 => exact (Kd.R_reads' HO798.out).2.1); rintro e w54 ⟨rfl, hb⟩; replace HO792 := sd_ (Kd.R_below (ro_ HO792.out) hb); replace HO795 := sd_ (Kd.R_below (ro_ HO795.out) hb); replace HO798 := sd_ (Kd.R_below (ro_ HO798.out) hb); replace HO812 := sd_ (Kd.R_below (ro_ HO812.out) hb); replace BK799 := sd_ (bb_ BK799.out hb); replace HB := sd_ (below_step (bw1_ HB.out GE799.out) hb); (try clear hb)))
       go_meet
       case rel => exact ⟨_, ((t818 != (t814 == (Int.tmod t804 t789)))), sm_, H', ⟨by first | omega | exact Nat.le_refl _⟩, ⟨by (with_reducible repeat (first | apply Kd.R_alloc | apply Kd.R_drewN | apply Kd.R_drew)); exact Kd.R_mono HO792.out (fun _ hk => hk.1)⟩, ⟨by (with_reducible repeat (first | apply Kd.R_alloc | apply Kd.R_drewN | apply Kd.R_drew)); exact Kd.R_mono HO795.out (fun _ hk => hk.1)⟩, ⟨by (with_reducible repeat (first | apply Kd.R_alloc | apply Kd.R_drewN | apply Kd.R_drew)); exact HO798.out⟩, ⟨by exact bz_ BK799.out⟩, ⟨bw1_ HB.out GE799.out⟩⟩
      rw [if_neg c45] at H
      have c45b0 : (t814 == t817) = false := beq_eq_false_iff_ne.mpr c45
      have c45b1 : (t814 != t817) = true := bne_iff_ne.mpr c45
      (first | rw [c45b0] | (simp only [i64_w, i32_w]; rw [c45b0]) | skip)
      have H' := sd_ H
      clear H
      obtain ⟨hcz55_0, hcz55_1, hcz55_2, hcz55_3, hfz55_0, hfz55_1, hfz55_2, hfz55_3⟩ := bf4_ BK799.out
      go_wp2_with (first | ((with_reducible refine gate_callee (f := 35) rfl ?_); refine goesL_ (some 65) rfl rfl Try.func35 (by kernel_rfl) rfl #[.agg #[.int .i64 t789, .slice Ao22 t790.length co22, .slice Ao23 t793.length co23, .slice Ao24 t796.length co24], .int .i64 (Int.tmod t803 t789), .int .i64 t814] rfl la_ ?_; (with_reducible refine (impl_IsBelow.calls k t789 _ _ t790 _ _ t793 _ _ t796 (Int.tmod t803 t789) t814 true _ ?side1 ?side2 ?side3 ?side4 ?side5 ?side6 A40.out).mono ?_); (case side1 => exact kp_ (Kd.R_reads' HO792.out).2.2); (case side2 => exact (Kd.R_reads' HO792.out).2.1); (case side3 => exact kp_ (Kd.R_reads' HO795.out).2.2); (case side4 => exact (Kd.R_reads' HO795.out).2.1); (case side5 => exact kp_ (Kd.R_reads' HO798.out).2.2); (case side6 => exact (Kd.R_reads' HO798.out).2.1); rintro e w56 ⟨rfl, hb⟩; refine ⟨_, rfl, ?_⟩; replace HO792 := sd_ (Kd.R_below (ro_ HO792.out) hb); replace HO795 := sd_ (Kd.R_below (ro_ HO795.out) hb); replace HO798 := sd_ (Kd.R_below (ro_ HO798.out) hb); replace HO812 := sd_ (Kd.R_below (ro_ HO812.out) hb); replace BK799 := sd_ (bb_ BK799.out hb); replace HB := sd_ (below_step (bw1_ HB.out GE799.out) hb); (try clear hb); obtain ⟨hcz57_0, hcz57_1, hcz57_2, hcz57_3, hfz57_0, hfz57_1, hfz57_2, hfz57_3⟩ := bf4_ BK799.out) | (go_at_call 35; (with_reducible refine (impl_IsBelow.calls k t789 _ _ t790 _ _ t793 _ _ t796 (Int.tmod t804 t789) t814 true _ ?side1 ?side2 ?side3 ?side4 ?side5 ?side6 A42.out).mono ?_); (case side1 => exact kp_ (Kd.R_reads' HO792.out).2.2); (case side2 => exact (Kd.R_reads' HO792.out).2.1); (case side3 => exact kp_ (Kd.R_reads' HO795.out).2.2); (case side4 => exact (Kd.R_reads' HO795.out).2.1); (case side5 => exact kp_ (Kd.R_reads' HO798.out).2.2); (case side6 => exact (Kd.R_reads' HO798.out).2.1); rintro e w58 ⟨rfl, hb⟩; replace HO792 := sd_ (Kd.R_below (ro_ HO792.out) hb); replace HO795 := sd_ (Kd.R_below (ro_ HO795.out) hb); replace HO798 := sd_ (Kd.R_below (ro_ HO798.out) hb); replace HO812 := sd_ (Kd.R_below (ro_ HO812.out) hb); replace BK799 := sd_ (bb_ BK799.out hb); replace HB := sd_ (below_step (bw1_ HB.out GE799.out) hb); (try clear hb); obtain ⟨hcz59_0, hcz59_1, hcz59_2, hcz59_3, hfz59_0, hfz59_1, hfz59_2, hfz59_3⟩ := bf4_ BK799.out) | (go_at_call 20; (with_reducible refine (impl_JoinGrades.calls k t789 _ _ t790 _ _ t793 _ _ t796 (Int.tmod t804 t789) (Int.tmod t803 t789) t817 _ ?side1 ?side2 ?side3 ?side4 ?side5 ?side6 A44.out).mono ?_); (case side1 => exact kp_ (Kd.R_reads' HO792.out).2.2); (case side2 => exact (Kd.R_reads' HO792.out).2.1); (case side3 => exact kp_ (Kd.R_reads' HO795.out).2.2); (case side4 => exact (Kd.R_reads' HO795.out).2.1); (case side5 => exact kp_ (Kd.R_reads' HO798.out).2.2); (case side6 => exact (Kd.R_reads' HO798.out).2.1); rintro e w60 ⟨rfl, hb⟩; replace HO792 := sd_ (Kd.R_below (ro_ HO792.out) hb); replace HO795 := sd_ (Kd.R_below (ro_ HO795.out) hb); replace HO798 := sd_ (Kd.R_below (ro_ HO798.out) hb); replace HO812 := sd_ (Kd.R_below (ro_ HO812.out) hb); replace BK799 := sd_ (bb_ BK799.out hb); replace HB := sd_ (below_step (bw1_ HB.out GE799.out) hb); (try clear hb)))
      go_meet
      case rel => exact ⟨_, (true), sm_, H', ⟨by first | omega | exact Nat.le_refl _⟩, ⟨by (with_reducible repeat (first | apply Kd.R_alloc | apply Kd.R_drewN | apply Kd.R_drew)); exact Kd.R_mono HO792.out (fun _ hk => hk.1)⟩, ⟨by (with_reducible repeat (first | apply Kd.R_alloc | apply Kd.R_drewN | apply Kd.R_drew)); exact Kd.R_mono HO795.out (fun _ hk => hk.1)⟩, ⟨by (with_reducible repeat (first | apply Kd.R_alloc | apply Kd.R_drewN | apply Kd.R_drew)); exact HO798.out⟩, ⟨by exact bz_ BK799.out⟩, ⟨bw1_ HB.out GE799.out⟩⟩
     replace c43 := Bool.eq_false_iff.mpr c43
     subst c43
     have H1 : (laws_FnGradesReckoned.j0 k (Int.tmod t803 t789) (Int.tmod t804 t789) (Int.tmod t805 t789) t814 true t789 t790 t793 t796) = some r := by rw [if_neg (show ¬ (false = true) by decide)] at H; exact H
     clear H
     have H := H1
     clear H1
     have H' := sd_ H
     clear H
     obtain ⟨hcz61_0, hcz61_1, hcz61_2, hcz61_3, hfz61_0, hfz61_1, hfz61_2, hfz61_3⟩ := bf4_ BK799.out
     go_wp2_with (first | ((with_reducible refine gate_callee (f := 35) rfl ?_); refine goesL_ (some 65) rfl rfl Try.func35 (by kernel_rfl) rfl #[.agg #[.int .i64 t789, .slice Ao22 t790.length co22, .slice Ao23 t793.length co23, .slice Ao24 t796.length co24], .int .i64 (Int.tmod t803 t789), .int .i64 t814] rfl la_ ?_; (with_reducible refine (impl_IsBelow.calls k t789 _ _ t790 _ _ t793 _ _ t796 (Int.tmod t803 t789) t814 true _ ?side1 ?side2 ?side3 ?side4 ?side5 ?side6 A40.out).mono ?_); (case side1 => exact kp_ (Kd.R_reads' HO792.out).2.2); (case side2 => exact (Kd.R_reads' HO792.out).2.1); (case side3 => exact kp_ (Kd.R_reads' HO795.out).2.2); (case side4 => exact (Kd.R_reads' HO795.out).2.1); (case side5 => exact kp_ (Kd.R_reads' HO798.out).2.2); (case side6 => exact (Kd.R_reads' HO798.out).2.1); rintro e w62 ⟨rfl, hb⟩; refine ⟨_, rfl, ?_⟩; replace HO792 := sd_ (Kd.R_below (ro_ HO792.out) hb); replace HO795 := sd_ (Kd.R_below (ro_ HO795.out) hb); replace HO798 := sd_ (Kd.R_below (ro_ HO798.out) hb); replace HO812 := sd_ (Kd.R_below (ro_ HO812.out) hb); replace BK799 := sd_ (bb_ BK799.out hb); replace HB := sd_ (below_step (bw1_ HB.out GE799.out) hb); (try clear hb); obtain ⟨hcz63_0, hcz63_1, hcz63_2, hcz63_3, hfz63_0, hfz63_1, hfz63_2, hfz63_3⟩ := bf4_ BK799.out) | (go_at_call 35; (with_reducible refine (impl_IsBelow.calls k t789 _ _ t790 _ _ t793 _ _ t796 (Int.tmod t804 t789) t814 false _ ?side1 ?side2 ?side3 ?side4 ?side5 ?side6 A42.out).mono ?_); (case side1 => exact kp_ (Kd.R_reads' HO792.out).2.2); (case side2 => exact (Kd.R_reads' HO792.out).2.1); (case side3 => exact kp_ (Kd.R_reads' HO795.out).2.2); (case side4 => exact (Kd.R_reads' HO795.out).2.1); (case side5 => exact kp_ (Kd.R_reads' HO798.out).2.2); (case side6 => exact (Kd.R_reads' HO798.out).2.1); rintro e w64 ⟨rfl, hb⟩; replace HO792 := sd_ (Kd.R_below (ro_ HO792.out) hb); replace HO795 := sd_ (Kd.R_below (ro_ HO795.out) hb); replace HO798 := sd_ (Kd.R_below (ro_ HO798.out) hb); replace HO812 := sd_ (Kd.R_below (ro_ HO812.out) hb); replace BK799 := sd_ (bb_ BK799.out hb); replace HB := sd_ (below_step (bw1_ HB.out GE799.out) hb); (try clear hb)))
     go_meet
     case rel => exact ⟨_, (true), sm_, H', ⟨by first | omega | exact Nat.le_refl _⟩, ⟨by (with_reducible repeat (first | apply Kd.R_alloc | apply Kd.R_drewN | apply Kd.R_drew)); exact Kd.R_mono HO792.out (fun _ hk => hk.1)⟩, ⟨by (with_reducible repeat (first | apply Kd.R_alloc | apply Kd.R_drewN | apply Kd.R_drew)); exact Kd.R_mono HO795.out (fun _ hk => hk.1)⟩, ⟨by (with_reducible repeat (first | apply Kd.R_alloc | apply Kd.R_drewN | apply Kd.R_drew)); exact HO798.out⟩, ⟨by exact bz_ BK799.out⟩, ⟨bw1_ HB.out GE799.out⟩⟩
    replace c41 := Bool.eq_false_iff.mpr c41
    subst c41
    have H1 : (laws_FnGradesReckoned.j0 k (Int.tmod t803 t789) (Int.tmod t804 t789) (Int.tmod t805 t789) t814 true t789 t790 t793 t796) = some r := by rw [if_neg (show ¬ (false = true) by decide)] at H; exact H
    clear H
    have H := H1
    clear H1
    have H' := sd_ H
    clear H
    obtain ⟨hcz65_0, hcz65_1, hcz65_2, hcz65_3, hfz65_0, hfz65_1, hfz65_2, hfz65_3⟩ := bf4_ BK799.out
    go_wp2_with (first | ((with_reducible refine gate_callee (f := 35) rfl ?_); refine goesL_ (some 65) rfl rfl Try.func35 (by kernel_rfl) rfl #[.agg #[.int .i64 t789, .slice Ao22 t790.length co22, .slice Ao23 t793.length co23, .slice Ao24 t796.length co24], .int .i64 (Int.tmod t803 t789), .int .i64 t814] rfl la_ ?_; (with_reducible refine (impl_IsBelow.calls k t789 _ _ t790 _ _ t793 _ _ t796 (Int.tmod t803 t789) t814 false _ ?side1 ?side2 ?side3 ?side4 ?side5 ?side6 A40.out).mono ?_); (case side1 => exact kp_ (Kd.R_reads' HO792.out).2.2); (case side2 => exact (Kd.R_reads' HO792.out).2.1); (case side3 => exact kp_ (Kd.R_reads' HO795.out).2.2); (case side4 => exact (Kd.R_reads' HO795.out).2.1); (case side5 => exact kp_ (Kd.R_reads' HO798.out).2.2); (case side6 => exact (Kd.R_reads' HO798.out).2.1); rintro e w66 ⟨rfl, hb⟩; refine ⟨_, rfl, ?_⟩; replace HO792 := sd_ (Kd.R_below (ro_ HO792.out) hb); replace HO795 := sd_ (Kd.R_below (ro_ HO795.out) hb); replace HO798 := sd_ (Kd.R_below (ro_ HO798.out) hb); replace HO812 := sd_ (Kd.R_below (ro_ HO812.out) hb); replace BK799 := sd_ (bb_ BK799.out hb); replace HB := sd_ (below_step (bw1_ HB.out GE799.out) hb); (try clear hb)))
    go_meet
    case rel => exact ⟨_, (true), sm_, H', ⟨by first | omega | exact Nat.le_refl _⟩, ⟨by (with_reducible repeat (first | apply Kd.R_alloc | apply Kd.R_drewN | apply Kd.R_drew)); exact Kd.R_mono HO792.out (fun _ hk => hk.1)⟩, ⟨by (with_reducible repeat (first | apply Kd.R_alloc | apply Kd.R_drewN | apply Kd.R_drew)); exact Kd.R_mono HO795.out (fun _ hk => hk.1)⟩, ⟨by (with_reducible repeat (first | apply Kd.R_alloc | apply Kd.R_drewN | apply Kd.R_drew)); exact HO798.out⟩, ⟨by exact bz_ BK799.out⟩, ⟨bw1_ HB.out GE799.out⟩⟩
   case rest =>
    clear HC18
    try clear c1
    try clear c2
    try clear p2
    try clear c3
    try clear c6
    try clear c7
    try clear c8
    try clear c8b0
    try clear c8b1
    try clear c9
    try clear q9
    try clear c13
    try clear c16
    try clear c16b0
    try clear c16b1
    try clear c20
    try clear c30
    try clear c31
    try clear c32
    try clear c33
    try clear c34
    try clear hcz21_0
    try clear hcz21_1
    try clear hcz21_2
    try clear hcz21_3
    try clear hcz38_0
    try clear hcz38_1
    try clear hcz38_2
    try clear hcz38_3
    try clear hfz21_0
    try clear hfz21_1
    try clear hfz21_2
    try clear hfz21_3
    try clear hfz38_0
    try clear hfz38_1
    try clear hfz38_2
    try clear hfz38_3
    obtain ⟨kq, x91_17, rfl, HA, HJ17, HO_800001, HO_800002, HO_800003, BK799, HB⟩ := hcut
    cases kq with
    | zero => exact absurd HA.out (by simp [laws_FnGradesReckoned.j0])
    | succ kj17 =>
     have H := HA.out
     clear HA
     simp only [laws_FnGradesReckoned.j0] at H
     by_cases c67 : x91_17 = true
     ·subst c67
      have H1 : (some false) = some r := by rw [if_pos rfl] at H; exact H
      clear H
      have H := H1
      clear H1
      obtain rfl := Option.some.inj H
      exact absurd hr_ (by decide)
     replace c67 := Bool.eq_false_iff.mpr c67
     subst c67
     have H1 : ((impl_IsBelow.f kj17 t789 t790 t793 t796 (Int.tmod t803 t789) (Int.tmod t805 t789)).bind fun t819 => (if t819 = true then ((impl_IsBelow.f kj17 t789 t790 t793 t796 (Int.tmod t804 t789) (Int.tmod t805 t789)).bind fun t820 => (if t820 = true then ((impl_IsBelow.f kj17 t789 t790 t793 t796 t814 (Int.tmod t805 t789)).bind fun t821 => (laws_FnGradesReckoned.j1 kj17 (Int.tmod t803 t789) (Int.tmod t804 t789) (Int.tmod t805 t789) (!t821) t789 t790 t793 t796)) else (laws_FnGradesReckoned.j1 kj17 (Int.tmod t803 t789) (Int.tmod t804 t789) (Int.tmod t805 t789) false t789 t790 t793 t796))) else (laws_FnGradesReckoned.j1 kj17 (Int.tmod t803 t789) (Int.tmod t804 t789) (Int.tmod t805 t789) false t789 t790 t793 t796))) = some r := by rw [if_neg (show ¬ (false = true) by decide)] at H; exact H
     clear H
     have H := H1
     clear H1
     have HC68 := sd_ H
     clear H
     go_upto_region 14 with (fail)
     go_cut [108] (fun v108 wc => ∃ (kq : Nat) (x108_67 : Bool), v108 = .bool x108_67 ∧ Aside0 (laws_FnGradesReckoned.j1 kq (Int.tmod t803 t789) (Int.tmod t804 t789) (Int.tmod t805 t789) x108_67 t789 t790 t793 t796 = some r) ∧ Aside0 (kq ≤ kj17) ∧ Aside0 (Kd.R (Kd.int .i64) 3 wc w.heap.size (fun k_ => some k_ ≠ ((.slice Ao23 t793.length co23) : Value).ownBlock) (.slice Ao22 t790.length co22) t790) ∧ Aside0 (Kd.R (Kd.int .i64) 3 wc w.heap.size (fun k_ => some k_ ≠ ((.slice Ao22 t790.length co22) : Value).ownBlock) (.slice Ao23 t793.length co23) t793) ∧ Aside0 (Kd.R Kd.bool 4 wc w.heap.size (fun _ => True) (.slice Ao24 t796.length co24) t796) ∧ Aside0 (wc.heap[gb799]? = some (.cells #[.int .i64 t789, (.slice Ao22 t790.length co22), (.slice Ao23 t793.length co23), (.slice Ao24 t796.length co24)] 27 (0, 0))) ∧ Aside0 (Below w.heap.size w wc))
     case first =>
      have H := HC68.out
      clear HC68
      replace H := Option.bind_eq_some_iff.mp H
      obtain ⟨t819, A690, H⟩ := H
      try dsimp only at H
      have A69 := sd_ A690
      clear A690
      by_cases c70 : t819 = true
      ·subst c70
       have H1 : ((impl_IsBelow.f kj17 t789 t790 t793 t796 (Int.tmod t804 t789) (Int.tmod t805 t789)).bind fun t820 => (if t820 = true then ((impl_IsBelow.f kj17 t789 t790 t793 t796 t814 (Int.tmod t805 t789)).bind fun t821 => (laws_FnGradesReckoned.j1 kj17 (Int.tmod t803 t789) (Int.tmod t804 t789) (Int.tmod t805 t789) (!t821) t789 t790 t793 t796)) else (laws_FnGradesReckoned.j1 kj17 (Int.tmod t803 t789) (Int.tmod t804 t789) (Int.tmod t805 t789) false t789 t790 t793 t796))) = some r := by rw [if_pos rfl] at H; exact H
       clear H
       have H := H1
       clear H1
       replace H := Option.bind_eq_some_iff.mp H
       obtain ⟨t820, A710, H⟩ := H
       try dsimp only at H
       have A71 := sd_ A710
       clear A710
       by_cases c72 : t820 = true
       ·subst c72
        have H1 : ((impl_IsBelow.f kj17 t789 t790 t793 t796 t814 (Int.tmod t805 t789)).bind fun t821 => (laws_FnGradesReckoned.j1 kj17 (Int.tmod t803 t789) (Int.tmod t804 t789) (Int.tmod t805 t789) (!t821) t789 t790 t793 t796)) = some r := by rw [if_pos rfl] at H; exact H
        clear H
        have H := H1
        clear H1
        replace H := Option.bind_eq_some_iff.mp H
        obtain ⟨t821, A730, H⟩ := H
        try dsimp only at H
        have A73 := sd_ A730
        clear A730
        have H' := sd_ H
        clear H
        obtain ⟨hcz74_0, hcz74_1, hcz74_2, hcz74_3, hfz74_0, hfz74_1, hfz74_2, hfz74_3⟩ := bf4_ BK799.out
        go_wp2_with (first | ((with_reducible refine gate_callee (f := 35) rfl ?_); refine goesL_ (some 95) rfl rfl Try.func35 (by kernel_rfl) rfl #[.agg #[.int .i64 t789, .slice Ao22 t790.length co22, .slice Ao23 t793.length co23, .slice Ao24 t796.length co24], .int .i64 (Int.tmod t803 t789), .int .i64 (Int.tmod t805 t789)] rfl la_ ?_; (with_reducible refine (impl_IsBelow.calls kj17 t789 _ _ t790 _ _ t793 _ _ t796 (Int.tmod t803 t789) (Int.tmod t805 t789) true _ ?side1 ?side2 ?side3 ?side4 ?side5 ?side6 A69.out).mono ?_); (case side1 => exact kp_ (Kd.R_reads' HO_800001.out).2.2); (case side2 => exact (Kd.R_reads' HO_800001.out).2.1); (case side3 => exact kp_ (Kd.R_reads' HO_800002.out).2.2); (case side4 => exact (Kd.R_reads' HO_800002.out).2.1); (case side5 => exact kp_ (Kd.R_reads' HO_800003.out).2.2); (case side6 => exact (Kd.R_reads' HO_800003.out).2.1); rintro e w75 ⟨rfl, hb⟩; refine ⟨_, rfl, ?_⟩; replace HO_800001 := sd_ (Kd.R_below (ro_ HO_800001.out) hb); replace HO_800002 := sd_ (Kd.R_below (ro_ HO_800002.out) hb); replace HO_800003 := sd_ (Kd.R_below (ro_ HO_800003.out) hb); replace BK799 := sd_ (bb_ BK799.out hb); replace HB := sd_ (below_step (bw1_ HB.out GE799.out) hb); (try clear hb); obtain ⟨hcz76_0, hcz76_1, hcz76_2, hcz76_3, hfz76_0, hfz76_1, hfz76_2, hfz76_3⟩ := bf4_ BK799.out) | (go_at_call 35; (with_reducible refine (impl_IsBelow.calls kj17 t789 _ _ t790 _ _ t793 _ _ t796 (Int.tmod t804 t789) (Int.tmod t805 t789) true _ ?side1 ?side2 ?side3 ?side4 ?side5 ?side6 A71.out).mono ?_); (case side1 => exact kp_ (Kd.R_reads' HO_800001.out).2.2); (case side2 => exact (Kd.R_reads' HO_800001.out).2.1); (case side3 => exact kp_ (Kd.R_reads' HO_800002.out).2.2); (case side4 => exact (Kd.R_reads' HO_800002.out).2.1); (case side5 => exact kp_ (Kd.R_reads' HO_800003.out).2.2); (case side6 => exact (Kd.R_reads' HO_800003.out).2.1); rintro e w77 ⟨rfl, hb⟩; replace HO_800001 := sd_ (Kd.R_below (ro_ HO_800001.out) hb); replace HO_800002 := sd_ (Kd.R_below (ro_ HO_800002.out) hb); replace HO_800003 := sd_ (Kd.R_below (ro_ HO_800003.out) hb); replace BK799 := sd_ (bb_ BK799.out hb); replace HB := sd_ (below_step (bw1_ HB.out GE799.out) hb); (try clear hb); obtain ⟨hcz78_0, hcz78_1, hcz78_2, hcz78_3, hfz78_0, hfz78_1, hfz78_2, hfz78_3⟩ := bf4_ BK799.out) | (go_at_call 35; (with_reducible refine (impl_IsBelow.calls kj17 t789 _ _ t790 _ _ t793 _ _ t796 t814 (Int.tmod t805 t789) t821 _ ?side1 ?side2 ?side3 ?side4 ?side5 ?side6 A73.out).mono ?_); (case side1 => exact kp_ (Kd.R_reads' HO_800001.out).2.2); (case side2 => exact (Kd.R_reads' HO_800001.out).2.1); (case side3 => exact kp_ (Kd.R_reads' HO_800002.out).2.2); (case side4 => exact (Kd.R_reads' HO_800002.out).2.1); (case side5 => exact kp_ (Kd.R_reads' HO_800003.out).2.2); (case side6 => exact (Kd.R_reads' HO_800003.out).2.1); rintro e w79 ⟨rfl, hb⟩; replace HO_800001 := sd_ (Kd.R_below (ro_ HO_800001.out) hb); replace HO_800002 := sd_ (Kd.R_below (ro_ HO_800002.out) hb); replace HO_800003 := sd_ (Kd.R_below (ro_ HO_800003.out) hb); replace BK799 := sd_ (bb_ BK799.out hb); replace HB := sd_ (below_step (bw1_ HB.out GE799.out) hb); (try clear hb)))
        go_meet
        case rel => exact ⟨_, (!t821), sm_, H', ⟨by have := HJ17.out; first | omega | exact Nat.le_refl _⟩, ⟨by (with_reducible repeat (first | apply Kd.R_alloc | apply Kd.R_drewN | apply Kd.R_drew)); exact HO_800001.out⟩, ⟨by (with_reducible repeat (first | apply Kd.R_alloc | apply Kd.R_drewN | apply Kd.R_drew)); exact HO_800002.out⟩, ⟨by (with_reducible repeat (first | apply Kd.R_alloc | apply Kd.R_drewN | apply Kd.R_drew)); exact HO_800003.out⟩, ⟨by exact bz_ BK799.out⟩, ⟨bw1_ HB.out GE799.out⟩⟩
       replace c72 := Bool.eq_false_iff.mpr c72
       subst c72
       have H1 : (laws_FnGradesReckoned.j1 kj17 (Int.tmod t803 t789) (Int.tmod t804 t789) (Int.tmod t805 t789) false t789 t790 t793 t796) = some r := by rw [if_neg (show ¬ (false = true) by decide)] at H; exact H
       clear H
       have H := H1
       clear H1
       have H' := sd_ H
       clear H
       obtain ⟨hcz80_0, hcz80_1, hcz80_2, hcz80_3, hfz80_0, hfz80_1, hfz80_2, hfz80_3⟩ := bf4_ BK799.out
       go_wp2_with (first | ((with_reducible refine gate_callee (f := 35) rfl ?_); refine goesL_ (some 95) rfl rfl Try.func35 (by kernel_rfl) rfl #[.agg #[.int .i64 t789, .slice Ao22 t790.length co22, .slice Ao23 t793.length co23, .slice Ao24 t796.length co24], .int .i64 (Int.tmod t803 t789), .int .i64 (Int.tmod t805 t789)] rfl la_ ?_; (with_reducible refine (impl_IsBelow.calls kj17 t789 _ _ t790 _ _ t793 _ _ t796 (Int.tmod t803 t789) (Int.tmod t805 t789) true _ ?side1 ?side2 ?side3 ?side4 ?side5 ?side6 A69.out).mono ?_); (case side1 => exact kp_ (Kd.R_reads' HO_800001.out).2.2); (case side2 => exact (Kd.R_reads' HO_800001.out).2.1); (case side3 => exact kp_ (Kd.R_reads' HO_800002.out).2.2); (case side4 => exact (Kd.R_reads' HO_800002.out).2.1); (case side5 => exact kp_ (Kd.R_reads' HO_800003.out).2.2); (case side6 => exact (Kd.R_reads' HO_800003.out).2.1); rintro e w81 ⟨rfl, hb⟩; refine ⟨_, rfl, ?_⟩; replace HO_800001 := sd_ (Kd.R_below (ro_ HO_800001.out) hb); replace HO_800002 := sd_ (Kd.R_below (ro_ HO_800002.out) hb); replace HO_800003 := sd_ (Kd.R_below (ro_ HO_800003.out) hb); replace BK799 := sd_ (bb_ BK799.out hb); replace HB := sd_ (below_step (bw1_ HB.out GE799.out) hb); (try clear hb); obtain ⟨hcz82_0, hcz82_1, hcz82_2, hcz82_3, hfz82_0, hfz82_1, hfz82_2, hfz82_3⟩ := bf4_ BK799.out) | (go_at_call 35; (with_reducible refine (impl_IsBelow.calls kj17 t789 _ _ t790 _ _ t793 _ _ t796 (Int.tmod t804 t789) (Int.tmod t805 t789) false _ ?side1 ?side2 ?side3 ?side4 ?side5 ?side6 A71.out).mono ?_); (case side1 => exact kp_ (Kd.R_reads' HO_800001.out).2.2); (case side2 => exact (Kd.R_reads' HO_800001.out).2.1); (case side3 => exact kp_ (Kd.R_reads' HO_800002.out).2.2); (case side4 => exact (Kd.R_reads' HO_800002.out).2.1); (case side5 => exact kp_ (Kd.R_reads' HO_800003.out).2.2); (case side6 => exact (Kd.R_reads' HO_800003.out).2.1); rintro e w83 ⟨rfl, hb⟩; replace HO_800001 := sd_ (Kd.R_below (ro_ HO_800001.out) hb); replace HO_800002 := sd_ (Kd.R_below (ro_ HO_800002.out) hb); replace HO_800003 := sd_ (Kd.R_below (ro_ HO_800003.out) hb); replace BK799 := sd_ (bb_ BK799.out hb); replace HB := sd_ (below_step (bw1_ HB.out GE799.out) hb); (try clear hb)))
       go_meet
       case rel => exact ⟨_, (false), sm_, H', ⟨by have := HJ17.out; first | omega | exact Nat.le_refl _⟩, ⟨by (with_reducible repeat (first | apply Kd.R_alloc | apply Kd.R_drewN | apply Kd.R_drew)); exact HO_800001.out⟩, ⟨by (with_reducible repeat (first | apply Kd.R_alloc | apply Kd.R_drewN | apply Kd.R_drew)); exact HO_800002.out⟩, ⟨by (with_reducible repeat (first | apply Kd.R_alloc | apply Kd.R_drewN | apply Kd.R_drew)); exact HO_800003.out⟩, ⟨by exact bz_ BK799.out⟩, ⟨bw1_ HB.out GE799.out⟩⟩
      replace c70 := Bool.eq_false_iff.mpr c70
      subst c70
      have H1 : (laws_FnGradesReckoned.j1 kj17 (Int.tmod t803 t789) (Int.tmod t804 t789) (Int.tmod t805 t789) false t789 t790 t793 t796) = some r := by rw [if_neg (show ¬ (false = true) by decide)] at H; exact H
      clear H
      have H := H1
      clear H1
      have H' := sd_ H
      clear H
      obtain ⟨hcz84_0, hcz84_1, hcz84_2, hcz84_3, hfz84_0, hfz84_1, hfz84_2, hfz84_3⟩ := bf4_ BK799.out
      go_wp2_with (first | ((with_reducible refine gate_callee (f := 35) rfl ?_); refine goesL_ (some 95) rfl rfl Try.func35 (by kernel_rfl) rfl #[.agg #[.int .i64 t789, .slice Ao22 t790.length co22, .slice Ao23 t793.length co23, .slice Ao24 t796.length co24], .int .i64 (Int.tmod t803 t789), .int .i64 (Int.tmod t805 t789)] rfl la_ ?_; (with_reducible refine (impl_IsBelow.calls kj17 t789 _ _ t790 _ _ t793 _ _ t796 (Int.tmod t803 t789) (Int.tmod t805 t789) false _ ?side1 ?side2 ?side3 ?side4 ?side5 ?side6 A69.out).mono ?_); (case side1 => exact kp_ (Kd.R_reads' HO_800001.out).2.2); (case side2 => exact (Kd.R_reads' HO_800001.out).2.1); (case side3 => exact kp_ (Kd.R_reads' HO_800002.out).2.2); (case side4 => exact (Kd.R_reads' HO_800002.out).2.1); (case side5 => exact kp_ (Kd.R_reads' HO_800003.out).2.2); (case side6 => exact (Kd.R_reads' HO_800003.out).2.1); rintro e w85 ⟨rfl, hb⟩; refine ⟨_, rfl, ?_⟩; replace HO_800001 := sd_ (Kd.R_below (ro_ HO_800001.out) hb); replace HO_800002 := sd_ (Kd.R_below (ro_ HO_800002.out) hb); replace HO_800003 := sd_ (Kd.R_below (ro_ HO_800003.out) hb); replace BK799 := sd_ (bb_ BK799.out hb); replace HB := sd_ (below_step (bw1_ HB.out GE799.out) hb); (try clear hb)))
      go_meet
      case rel => exact ⟨_, (false), sm_, H', ⟨by have := HJ17.out; first | omega | exact Nat.le_refl _⟩, ⟨by (with_reducible repeat (first | apply Kd.R_alloc | apply Kd.R_drewN | apply Kd.R_drew)); exact HO_800001.out⟩, ⟨by (with_reducible repeat (first | apply Kd.R_alloc | apply Kd.R_drewN | apply Kd.R_drew)); exact HO_800002.out⟩, ⟨by (with_reducible repeat (first | apply Kd.R_alloc | apply Kd.R_drewN | apply Kd.R_drew)); exact HO_800003.out⟩, ⟨by exact bz_ BK799.out⟩, ⟨bw1_ HB.out GE799.out⟩⟩
     case rest =>
      clear HC68
      try clear c1
      try clear c2
      try clear p2
      try clear c3
      try clear c6
      try clear c7
      try clear c8
      try clear c8b0
      try clear c8b1
      try clear c9
      try clear q9
      try clear c13
      try clear c16
      try clear c16b0
      try clear c16b1
      try clear c20
      try clear c30
      try clear c31
      try clear c32
      try clear c33
      try clear c34
      try clear c67
      try clear hcz21_0
      try clear hcz21_1
      try clear hcz21_2
      try clear hcz21_3
      try clear hcz38_0
      try clear hcz38_1
      try clear hcz38_2
      try clear hcz38_3
      try clear hfz21_0
      try clear hfz21_1
      try clear hfz21_2
      try clear hfz21_3
      try clear hfz38_0
      try clear hfz38_1
      try clear hfz38_2
      try clear hfz38_3
      try clear p2
      try clear q9
      obtain ⟨kq, x108_67, rfl, HA, HJ67, HO_800001, HO_800002, HO_800003, BK799, HB⟩ := hcut
      cases kq with
      | zero => exact absurd HA.out (by simp [laws_FnGradesReckoned.j1])
      | succ kj67 =>
       have H := HA.out
       clear HA
       simp only [laws_FnGradesReckoned.j1] at H
       by_cases c86 : x108_67 = true
       ·subst c86
        have H1 : (some false) = some r := by rw [if_pos rfl] at H; exact H
        clear H
        have H := H1
        clear H1
        obtain rfl := Option.some.inj H
        exact absurd hr_ (by decide)
       replace c86 := Bool.eq_false_iff.mpr c86
       subst c86
       have H1 : ((impl_MeetGrades.f kj67 t789 t790 t793 t796 (Int.tmod t803 t789) (Int.tmod t804 t789)).bind fun t822 => (if t822 < 0 then (some true) else ((impl_IsBelow.f kj67 t789 t790 t793 t796 t822 (Int.tmod t803 t789)).bind fun t823 => (if t823 = true then ((impl_IsBelow.f kj67 t789 t790 t793 t796 t822 (Int.tmod t804 t789)).bind fun t824 => (if t824 = true then ((impl_IsBelow.f kj67 t789 t790 t793 t796 (Int.tmod t805 t789) (Int.tmod t803 t789)).bind fun t825 => (if t825 = true then ((impl_IsBelow.f kj67 t789 t790 t793 t796 (Int.tmod t805 t789) (Int.tmod t804 t789)).bind fun t826 => (if t826 = true then ((impl_IsBelow.f kj67 t789 t790 t793 t796 (Int.tmod t805 t789) t822).bind fun t827 => (some t827)) else (some true))) else (some true))) else (some false))) else (some false))))) = some r := by rw [if_neg (show ¬ (false = true) by decide)] at H; exact H
       clear H
       have H := H1
       clear H1
       replace H := Option.bind_eq_some_iff.mp H
       obtain ⟨t822, A870, H⟩ := H
       try dsimp only at H
       have A87 := sd_ A870
       clear A870
       by_cases c88 : t822 < 0
       ·rw [if_pos c88] at H
        have c88b0 : decide (t822 < 0) = true := decide_eq_true c88
        clear c88
        obtain rfl := Option.some.inj H
        obtain ⟨hcz89_0, hcz89_1, hcz89_2, hcz89_3, hfz89_0, hfz89_1, hfz89_2, hfz89_3⟩ := bf4_ BK799.out
        go_wp2_with (first | ((with_reducible refine gate_callee (f := 36) rfl ?_); refine goesL_ (some 112) rfl rfl Try.func36 (by kernel_rfl) rfl #[.agg #[.int .i64 t789, .slice Ao22 t790.length co22, .slice Ao23 t793.length co23, .slice Ao24 t796.length co24], .int .i64 (Int.tmod t803 t789), .int .i64 (Int.tmod t804 t789)] rfl la_ ?_; (with_reducible refine (impl_MeetGrades.calls kj67 t789 _ _ t790 _ _ t793 _ _ t796 (Int.tmod t803 t789) (Int.tmod t804 t789) t822 _ ?side1 ?side2 ?side3 ?side4 ?side5 ?side6 A87.out).mono ?_); (case side1 => exact kp_ (Kd.R_reads' HO_800001.out).2.2); (case side2 => exact (Kd.R_reads' HO_800001.out).2.1); (case side3 => exact kp_ (Kd.R_reads' HO_800002.out).2.2); (case side4 => exact (Kd.R_reads' HO_800002.out).2.1); (case side5 => exact kp_ (Kd.R_reads' HO_800003.out).2.2); (case side6 => exact (Kd.R_reads' HO_800003.out).2.1); rintro e w90 ⟨rfl, hb⟩; refine ⟨_, rfl, ?_⟩; replace HO_800001 := sd_ (Kd.R_below (ro_ HO_800001.out) hb); replace HO_800002 := sd_ (Kd.R_below (ro_ HO_800002.out) hb); replace HO_800003 := sd_ (Kd.R_below (ro_ HO_800003.out) hb); replace BK799 := sd_ (bb_ BK799.out hb); replace HB := sd_ (below_step (bw1_ HB.out GE799.out) hb); (try clear hb)))
        go_ret
        exact ⟨an_, bw1_ HB.out GE799.out⟩
       rw [if_neg c88] at H
       have c88b0 : decide (t822 < 0) = false := decide_eq_false c88
       clear c88
       replace H := Option.bind_eq_some_iff.mp H
       obtain ⟨t823, A910, H⟩ := H
       try dsimp only at H
       have A91 := sd_ A910
       clear A910
       by_cases c92 : t823 = true
       ·subst c92
        have H1 : ((impl_IsBelow.f kj67 t789 t790 t793 t796 t822 (Int.tmod t804 t789)).bind fun t824 => (if t824 = true then ((impl_IsBelow.f kj67 t789 t790 t793 t796 (Int.tmod t805 t789) (Int.tmod t803 t789)).bind fun t825 => (if t825 = true then ((impl_IsBelow.f kj67 t789 t790 t793 t796 (Int.tmod t805 t789) (Int.tmod t804 t789)).bind fun t826 => (if t826 = true then ((impl_IsBelow.f kj67 t789 t790 t793 t796 (Int.tmod t805 t789) t822).bind fun t827 => (some t827)) else (some true))) else (some true))) else (some false))) = some r := by rw [if_pos rfl] at H; exact H
        clear H
        have H := H1
        clear H1
        replace H := Option.bind_eq_some_iff.mp H
        obtain ⟨t824, A930, H⟩ := H
        try dsimp only at H
        have A93 := sd_ A930
        clear A930
        by_cases c94 : t824 = true
        ·subst c94
         have H1 : ((impl_IsBelow.f kj67 t789 t790 t793 t796 (Int.tmod t805 t789) (Int.tmod t803 t789)).bind fun t825 => (if t825 = true then ((impl_IsBelow.f kj67 t789 t790 t793 t796 (Int.tmod t805 t789) (Int.tmod t804 t789)).bind fun t826 => (if t826 = true then ((impl_IsBelow.f kj67 t789 t790 t793 t796 (Int.tmod t805 t789) t822).bind fun t827 => (some t827)) else (some true))) else (some true))) = some r := by rw [if_pos rfl] at H; exact H
         clear H
         have H := H1
         clear H1
         replace H := Option.bind_eq_some_iff.mp H
         obtain ⟨t825, A950, H⟩ := H
         try dsimp only at H
         have A95 := sd_ A950
         clear A950
         by_cases c96 : t825 = true
         ·subst c96
          have H1 : ((impl_IsBelow.f kj67 t789 t790 t793 t796 (Int.tmod t805 t789) (Int.tmod t804 t789)).bind fun t826 => (if t826 = true then ((impl_IsBelow.f kj67 t789 t790 t793 t796 (Int.tmod t805 t789) t822).bind fun t827 => (some t827)) else (some true))) = some r := by rw [if_pos rfl] at H; exact H
          clear H
          have H := H1
          clear H1
          replace H := Option.bind_eq_some_iff.mp H
          obtain ⟨t826, A970, H⟩ := H
          try dsimp only at H
          have A97 := sd_ A970
          clear A970
          by_cases c98 : t826 = true
          ·subst c98
           have H1 : ((impl_IsBelow.f kj67 t789 t790 t793 t796 (Int.tmod t805 t789) t822).bind fun t827 => (some t827)) = some r := by rw [if_pos rfl] at H; exact H
           clear H
           have H := H1
           clear H1
           replace H := Option.bind_eq_some_iff.mp H
           obtain ⟨t827, A990, H⟩ := H
           try dsimp only at H
           have A99 := sd_ A990
           clear A990
           obtain rfl := Option.some.inj H
           obtain ⟨hcz100_0, hcz100_1, hcz100_2, hcz100_3, hfz100_0, hfz100_1, hfz100_2, hfz100_3⟩ := bf4_ BK799.out
           go_wp2_with (first | ((with_reducible refine gate_callee (f := 36) rfl ?_); refine goesL_ (some 112) rfl rfl Try.func36 (by kernel_rfl) rfl #[.agg #[.int .i64 t789, .slice Ao22 t790.length co22, .slice Ao23 t793.length co23, .slice Ao24 t796.length co24], .int .i64 (Int.tmod t803 t789), .int .i64 (Int.tmod t804 t789)] rfl la_ ?_; (with_reducible refine (impl_MeetGrades.calls kj67 t789 _ _ t790 _ _ t793 _ _ t796 (Int.tmod t803 t789) (Int.tmod t804 t789) t822 _ ?side1 ?side2 ?side3 ?side4 ?side5 ?side6 A87.out).mono ?_); (case side1 => exact kp_ (Kd.R_reads' HO_800001.out).2.2); (case side2 => exact (Kd.R_reads' HO_800001.out).2.1); (case side3 => exact kp_ (Kd.R_reads' HO_800002.out).2.2); (case side4 => exact (Kd.R_reads' HO_800002.out).2.1); (case side5 => exact kp_ (Kd.R_reads' HO_800003.out).2.2); (case side6 => exact (Kd.R_reads' HO_800003.out).2.1); rintro e w101 ⟨rfl, hb⟩; refine ⟨_, rfl, ?_⟩; replace HO_800001 := sd_ (Kd.R_below (ro_ HO_800001.out) hb); replace HO_800002 := sd_ (Kd.R_below (ro_ HO_800002.out) hb); replace HO_800003 := sd_ (Kd.R_below (ro_ HO_800003.out) hb); replace BK799 := sd_ (bb_ BK799.out hb); replace HB := sd_ (below_step (bw1_ HB.out GE799.out) hb); (try clear hb); obtain ⟨hcz102_0, hcz102_1, hcz102_2, hcz102_3, hfz102_0, hfz102_1, hfz102_2, hfz102_3⟩ := bf4_ BK799.out) | (go_at_call 35; (with_reducible refine (impl_IsBelow.calls kj67 t789 _ _ t790 _ _ t793 _ _ t796 t822 (Int.tmod t803 t789) true _ ?side1 ?side2 ?side3 ?side4 ?side5 ?side6 A91.out).mono ?_); (case side1 => exact kp_ (Kd.R_reads' HO_800001.out).2.2); (case side2 => exact (Kd.R_reads' HO_800001.out).2.1); (case side3 => exact kp_ (Kd.R_reads' HO_800002.out).2.2); (case side4 => exact (Kd.R_reads' HO_800002.out).2.1); (case side5 => exact kp_ (Kd.R_reads' HO_800003.out).2.2); (case side6 => exact (Kd.R_reads' HO_800003.out).2.1); rintro e w103 ⟨rfl, hb⟩; replace HO_800001 := sd_ (Kd.R_below (ro_ HO_800001.out) hb); replace HO_800002 := sd_ (Kd.R_below (ro_ HO_800002.out) hb); replace HO_800003 := sd_ (Kd.R_below (ro_ HO_800003.out) hb); replace BK799 := sd_ (bb_ BK799.out hb); replace HB := sd_ (below_step (bw1_ HB.out GE799.out) hb); (try clear hb); obtain ⟨hcz104_0, hcz104_1, hcz104_2, hcz104_3, hfz104_0, hfz104_1, hfz104_2, hfz104_3⟩ := bf4_ BK799.out) | (go_at_call 35; (with_reducible refine (impl_IsBelow.calls kj67 t789 _ _ t790 _ _ t793 _ _ t796 t822 (Int.tmod t804 t789) true _ ?side1 ?side2 ?side3 ?side4 ?side5 ?side6 A93.out).mono ?_); (case side1 => exact kp_ (Kd.R_reads' HO_800001.out).2.2); (case side2 => exact (Kd.R_reads' HO_800001.out).2.1); (case side3 => exact kp_ (Kd.R_reads' HO_800002.out).2.2); (case side4 => exact (Kd.R_reads' HO_800002.out).2.1); (case side5 => exact kp_ (Kd.R_reads' HO_800003.out).2.2); (case side6 => exact (Kd.R_reads' HO_800003.out).2.1); rintro e w105 ⟨rfl, hb⟩; replace HO_800001 := sd_ (Kd.R_below (ro_ HO_800001.out) hb); replace HO_800002 := sd_ (Kd.R_below (ro_ HO_800002.out) hb); replace HO_800003 := sd_ (Kd.R_below (ro_ HO_800003.out) hb); replace BK799 := sd_ (bb_ BK799.out hb); replace HB := sd_ (below_step (bw1_ HB.out GE799.out) hb); (try clear hb); obtain ⟨hcz106_0, hcz106_1, hcz106_2, hcz106_3, hfz106_0, hfz106_1, hfz106_2, hfz106_3⟩ := bf4_ BK799.out) | (go_at_call 35; (with_reducible refine (impl_IsBelow.calls kj67 t789 _ _ t790 _ _ t793 _ _ t796 (Int.tmod t805 t789) (Int.tmod t803 t789) true _ ?side1 ?side2 ?side3 ?side4 ?side5 ?side6 A95.out).mono ?_); (case side1 => exact kp_ (Kd.R_reads' HO_800001.out).2.2); (case side2 => exact (Kd.R_reads' HO_800001.out).2.1); (case side3 => exact kp_ (Kd.R_reads' HO_800002.out).2.2); (case side4 => exact (Kd.R_reads' HO_800002.out).2.1); (case side5 => exact kp_ (Kd.R_reads' HO_800003.out).2.2); (case side6 => exact (Kd.R_reads' HO_800003.out).2.1); rintro e w107 ⟨rfl, hb⟩; replace HO_800001 := sd_ (Kd.R_below (ro_ HO_800001.out) hb); replace HO_800002 := sd_ (Kd.R_below (ro_ HO_800002.out) hb); replace HO_800003 := sd_ (Kd.R_below (ro_ HO_800003.out) hb); replace BK799 := sd_ (bb_ BK799.out hb); replace HB := sd_ (below_step (bw1_ HB.out GE799.out) hb); (try clear hb); obtain ⟨hcz108_0, hcz108_1, hcz108_2, hcz108_3, hfz108_0, hfz108_1, hfz108_2, hfz108_3⟩ := bf4_ BK799.out) | (go_at_call 35; (with_reducible refine (impl_IsBelow.calls kj67 t789 _ _ t790 _ _ t793 _ _ t796 (Int.tmod t805 t789) (Int.tmod t804 t789) true _ ?side1 ?side2 ?side3 ?side4 ?side5 ?side6 A97.out).mono ?_); (case side1 => exact kp_ (Kd.R_reads' HO_800001.out).2.2); (case side2 => exact (Kd.R_reads' HO_800001.out).2.1); (case side3 => exact kp_ (Kd.R_reads' HO_800002.out).2.2); (case side4 => exact (Kd.R_reads' HO_800002.out).2.1); (case side5 => exact kp_ (Kd.R_reads' HO_800003.out).2.2); (case side6 => exact (Kd.R_reads' HO_800003.out).2.1); rintro e w109 ⟨rfl, hb⟩; replace HO_800001 := sd_ (Kd.R_below (ro_ HO_800001.out) hb); replace HO_800002 := sd_ (Kd.R_below (ro_ HO_800002.out) hb); replace HO_800003 := sd_ (Kd.R_below (ro_ HO_800003.out) hb); replace BK799 := sd_ (bb_ BK799.out hb); replace HB := sd_ (below_step (bw1_ HB.out GE799.out) hb); (try clear hb); obtain ⟨hcz110_0, hcz110_1, hcz110_2, hcz110_3, hfz110_0, hfz110_1, hfz110_2, hfz110_3⟩ := bf4_ BK799.out) | (go_at_call 35; (with_reducible refine (impl_IsBelow.calls kj67 t789 _ _ t790 _ _ t793 _ _ t796 (Int.tmod t805 t789) t822 t827 _ ?side1 ?side2 ?side3 ?side4 ?side5 ?side6 A99.out).mono ?_); (case side1 => exact kp_ (Kd.R_reads' HO_800001.out).2.2); (case side2 => exact (Kd.R_reads' HO_800001.out).2.1); (case side3 => exact kp_ (Kd.R_reads' HO_800002.out).2.2); (case side4 => exact (Kd.R_reads' HO_800002.out).2.1); (case side5 => exact kp_ (Kd.R_reads' HO_800003.out).2.2); (case side6 => exact (Kd.R_reads' HO_800003.out).2.1); rintro e w111 ⟨rfl, hb⟩; replace HO_800001 := sd_ (Kd.R_below (ro_ HO_800001.out) hb); replace HO_800002 := sd_ (Kd.R_below (ro_ HO_800002.out) hb); replace HO_800003 := sd_ (Kd.R_below (ro_ HO_800003.out) hb); replace BK799 := sd_ (bb_ BK799.out hb); replace HB := sd_ (below_step (bw1_ HB.out GE799.out) hb); (try clear hb)))
           go_ret
           exact ⟨an_, bw1_ HB.out GE799.out⟩
          replace c98 := Bool.eq_false_iff.mpr c98
          subst c98
          have H1 : (some true) = some r := by rw [if_neg (show ¬ (false = true) by decide)] at H; exact H
          clear H
          have H := H1
          clear H1
          obtain rfl := Option.some.inj H
          obtain ⟨hcz112_0, hcz112_1, hcz112_2, hcz112_3, hfz112_0, hfz112_1, hfz112_2, hfz112_3⟩ := bf4_ BK799.out
          go_wp2_with (first | ((with_reducible refine gate_callee (f := 36) rfl ?_); refine goesL_ (some 112) rfl rfl Try.func36 (by kernel_rfl) rfl #[.agg #[.int .i64 t789, .slice Ao22 t790.length co22, .slice Ao23 t793.length co23, .slice Ao24 t796.length co24], .int .i64 (Int.tmod t803 t789), .int .i64 (Int.tmod t804 t789)] rfl la_ ?_; (with_reducible refine (impl_MeetGrades.calls kj67 t789 _ _ t790 _ _ t793 _ _ t796 (Int.tmod t803 t789) (Int.tmod t804 t789) t822 _ ?side1 ?side2 ?side3 ?side4 ?side5 ?side6 A87.out).mono ?_); (case side1 => exact kp_ (Kd.R_reads' HO_800001.out).2.2); (case side2 => exact (Kd.R_reads' HO_800001.out).2.1); (case side3 => exact kp_ (Kd.R_reads' HO_800002.out).2.2); (case side4 => exact (Kd.R_reads' HO_800002.out).2.1); (case side5 => exact kp_ (Kd.R_reads' HO_800003.out).2.2); (case side6 => exact (Kd.R_reads' HO_800003.out).2.1); rintro e w113 ⟨rfl, hb⟩; refine ⟨_, rfl, ?_⟩; replace HO_800001 := sd_ (Kd.R_below (ro_ HO_800001.out) hb); replace HO_800002 := sd_ (Kd.R_below (ro_ HO_800002.out) hb); replace HO_800003 := sd_ (Kd.R_below (ro_ HO_800003.out) hb); replace BK799 := sd_ (bb_ BK799.out hb); replace HB := sd_ (below_step (bw1_ HB.out GE799.out) hb); (try clear hb); obtain ⟨hcz114_0, hcz114_1, hcz114_2, hcz114_3, hfz114_0, hfz114_1, hfz114_2, hfz114_3⟩ := bf4_ BK799.out) | (go_at_call 35; (with_reducible refine (impl_IsBelow.calls kj67 t789 _ _ t790 _ _ t793 _ _ t796 t822 (Int.tmod t803 t789) true _ ?side1 ?side2 ?side3 ?side4 ?side5 ?side6 A91.out).mono ?_); (case side1 => exact kp_ (Kd.R_reads' HO_800001.out).2.2); (case side2 => exact (Kd.R_reads' HO_800001.out).2.1); (case side3 => exact kp_ (Kd.R_reads' HO_800002.out).2.2); (case side4 => exact (Kd.R_reads' HO_800002.out).2.1); (case side5 => exact kp_ (Kd.R_reads' HO_800003.out).2.2); (case side6 => exact (Kd.R_reads' HO_800003.out).2.1); rintro e w115 ⟨rfl, hb⟩; replace HO_800001 := sd_ (Kd.R_below (ro_ HO_800001.out) hb); replace HO_800002 := sd_ (Kd.R_below (ro_ HO_800002.out) hb); replace HO_800003 := sd_ (Kd.R_below (ro_ HO_800003.out) hb); replace BK799 := sd_ (bb_ BK799.out hb); replace HB := sd_ (below_step (bw1_ HB.out GE799.out) hb); (try clear hb); obtain ⟨hcz116_0, hcz116_1, hcz116_2, hcz116_3, hfz116_0, hfz116_1, hfz116_2, hfz116_3⟩ := bf4_ BK799.out) | (go_at_call 35; (with_reducible refine (impl_IsBelow.calls kj67 t789 _ _ t790 _ _ t793 _ _ t796 t822 (Int.tmod t804 t789) true _ ?side1 ?side2 ?side3 ?side4 ?side5 ?side6 A93.out).mono ?_); (case side1 => exact kp_ (Kd.R_reads' HO_800001.out).2.2); (case side2 => exact (Kd.R_reads' HO_800001.out).2.1); (case side3 => exact kp_ (Kd.R_reads' HO_800002.out).2.2); (case side4 => exact (Kd.R_reads' HO_800002.out).2.1); (case side5 => exact kp_ (Kd.R_reads' HO_800003.out).2.2); (case side6 => exact (Kd.R_reads' HO_800003.out).2.1); rintro e w117 ⟨rfl, hb⟩; replace HO_800001 := sd_ (Kd.R_below (ro_ HO_800001.out) hb); replace HO_800002 := sd_ (Kd.R_below (ro_ HO_800002.out) hb); replace HO_800003 := sd_ (Kd.R_below (ro_ HO_800003.out) hb); replace BK799 := sd_ (bb_ BK799.out hb); replace HB := sd_ (below_step (bw1_ HB.out GE799.out) hb); (try clear hb); obtain ⟨hcz118_0, hcz118_1, hcz118_2, hcz118_3, hfz118_0, hfz118_1, hfz118_2, hfz118_3⟩ := bf4_ BK799.out) | (go_at_call 35; (with_reducible refine (impl_IsBelow.calls kj67 t789 _ _ t790 _ _ t793 _ _ t796 (Int.tmod t805 t789) (Int.tmod t803 t789) true _ ?side1 ?side2 ?side3 ?side4 ?side5 ?side6 A95.out).mono ?_); (case side1 => exact kp_ (Kd.R_reads' HO_800001.out).2.2); (case side2 => exact (Kd.R_reads' HO_800001.out).2.1); (case side3 => exact kp_ (Kd.R_reads' HO_800002.out).2.2); (case side4 => exact (Kd.R_reads' HO_800002.out).2.1); (case side5 => exact kp_ (Kd.R_reads' HO_800003.out).2.2); (case side6 => exact (Kd.R_reads' HO_800003.out).2.1); rintro e w119 ⟨rfl, hb⟩; replace HO_800001 := sd_ (Kd.R_below (ro_ HO_800001.out) hb); replace HO_800002 := sd_ (Kd.R_below (ro_ HO_800002.out) hb); replace HO_800003 := sd_ (Kd.R_below (ro_ HO_800003.out) hb); replace BK799 := sd_ (bb_ BK799.out hb); replace HB := sd_ (below_step (bw1_ HB.out GE799.out) hb); (try clear hb); obtain ⟨hcz120_0, hcz120_1, hcz120_2, hcz120_3, hfz120_0, hfz120_1, hfz120_2, hfz120_3⟩ := bf4_ BK799.out) | (go_at_call 35; (with_reducible refine (impl_IsBelow.calls kj67 t789 _ _ t790 _ _ t793 _ _ t796 (Int.tmod t805 t789) (Int.tmod t804 t789) false _ ?side1 ?side2 ?side3 ?side4 ?side5 ?side6 A97.out).mono ?_); (case side1 => exact kp_ (Kd.R_reads' HO_800001.out).2.2); (case side2 => exact (Kd.R_reads' HO_800001.out).2.1); (case side3 => exact kp_ (Kd.R_reads' HO_800002.out).2.2); (case side4 => exact (Kd.R_reads' HO_800002.out).2.1); (case side5 => exact kp_ (Kd.R_reads' HO_800003.out).2.2); (case side6 => exact (Kd.R_reads' HO_800003.out).2.1); rintro e w121 ⟨rfl, hb⟩; replace HO_800001 := sd_ (Kd.R_below (ro_ HO_800001.out) hb); replace HO_800002 := sd_ (Kd.R_below (ro_ HO_800002.out) hb); replace HO_800003 := sd_ (Kd.R_below (ro_ HO_800003.out) hb); replace BK799 := sd_ (bb_ BK799.out hb); replace HB := sd_ (below_step (bw1_ HB.out GE799.out) hb); (try clear hb)))
          go_ret
          exact ⟨an_, bw1_ HB.out GE799.out⟩
         replace c96 := Bool.eq_false_iff.mpr c96
         subst c96
         have H1 : (some true) = some r := by rw [if_neg (show ¬ (false = true) by decide)] at H; exact H
         clear H
         have H := H1
         clear H1
         obtain rfl := Option.some.inj H
         obtain ⟨hcz122_0, hcz122_1, hcz122_2, hcz122_3, hfz122_0, hfz122_1, hfz122_2, hfz122_3⟩ := bf4_ BK799.out
         go_wp2_with (first | ((with_reducible refine gate_callee (f := 36) rfl ?_); refine goesL_ (some 112) rfl rfl Try.func36 (by kernel_rfl) rfl #[.agg #[.int .i64 t789, .slice Ao22 t790.length co22, .slice Ao23 t793.length co23, .slice Ao24 t796.length co24], .int .i64 (Int.tmod t803 t789), .int .i64 (Int.tmod t804 t789)] rfl la_ ?_; (with_reducible refine (impl_MeetGrades.calls kj67 t789 _ _ t790 _ _ t793 _ _ t796 (Int.tmod t803 t789) (Int.tmod t804 t789) t822 _ ?side1 ?side2 ?side3 ?side4 ?side5 ?side6 A87.out).mono ?_); (case side1 => exact kp_ (Kd.R_reads' HO_800001.out).2.2); (case side2 => exact (Kd.R_reads' HO_800001.out).2.1); (case side3 => exact kp_ (Kd.R_reads' HO_800002.out).2.2); (case side4 => exact (Kd.R_reads' HO_800002.out).2.1); (case side5 => exact kp_ (Kd.R_reads' HO_800003.out).2.2); (case side6 => exact (Kd.R_reads' HO_800003.out).2.1); rintro e w123 ⟨rfl, hb⟩; refine ⟨_, rfl, ?_⟩; replace HO_800001 := sd_ (Kd.R_below (ro_ HO_800001.out) hb); replace HO_800002 := sd_ (Kd.R_below (ro_ HO_800002.out) hb); replace HO_800003 := sd_ (Kd.R_below (ro_ HO_800003.out) hb); replace BK799 := sd_ (bb_ BK799.out hb); replace HB := sd_ (below_step (bw1_ HB.out GE799.out) hb); (try clear hb); obtain ⟨hcz124_0, hcz124_1, hcz124_2, hcz124_3, hfz124_0, hfz124_1, hfz124_2, hfz124_3⟩ := bf4_ BK799.out) | (go_at_call 35; (with_reducible refine (impl_IsBelow.calls kj67 t789 _ _ t790 _ _ t793 _ _ t796 t822 (Int.tmod t803 t789) true _ ?side1 ?side2 ?side3 ?side4 ?side5 ?side6 A91.out).mono ?_); (case side1 => exact kp_ (Kd.R_reads' HO_800001.out).2.2); (case side2 => exact (Kd.R_reads' HO_800001.out).2.1); (case side3 => exact kp_ (Kd.R_reads' HO_800002.out).2.2); (case side4 => exact (Kd.R_reads' HO_800002.out).2.1); (case side5 => exact kp_ (Kd.R_reads' HO_800003.out).2.2); (case side6 => exact (Kd.R_reads' HO_800003.out).2.1); rintro e w125 ⟨rfl, hb⟩; replace HO_800001 := sd_ (Kd.R_below (ro_ HO_800001.out) hb); replace HO_800002 := sd_ (Kd.R_below (ro_ HO_800002.out) hb); replace HO_800003 := sd_ (Kd.R_below (ro_ HO_800003.out) hb); replace BK799 := sd_ (bb_ BK799.out hb); replace HB := sd_ (below_step (bw1_ HB.out GE799.out) hb); (try clear hb); obtain ⟨hcz126_0, hcz126_1, hcz126_2, hcz126_3, hfz126_0, hfz126_1, hfz126_2, hfz126_3⟩ := bf4_ BK799.out) | (go_at_call 35; (with_reducible refine (impl_IsBelow.calls kj67 t789 _ _ t790 _ _ t793 _ _ t796 t822 (Int.tmod t804 t789) true _ ?side1 ?side2 ?side3 ?side4 ?side5 ?side6 A93.out).mono ?_); (case side1 => exact kp_ (Kd.R_reads' HO_800001.out).2.2); (case side2 => exact (Kd.R_reads' HO_800001.out).2.1); (case side3 => exact kp_ (Kd.R_reads' HO_800002.out).2.2); (case side4 => exact (Kd.R_reads' HO_800002.out).2.1); (case side5 => exact kp_ (Kd.R_reads' HO_800003.out).2.2); (case side6 => exact (Kd.R_reads' HO_800003.out).2.1); rintro e w127 ⟨rfl, hb⟩; replace HO_800001 := sd_ (Kd.R_below (ro_ HO_800001.out) hb); replace HO_800002 := sd_ (Kd.R_below (ro_ HO_800002.out) hb); replace HO_800003 := sd_ (Kd.R_below (ro_ HO_800003.out) hb); replace BK799 := sd_ (bb_ BK799.out hb); replace HB := sd_ (below_step (bw1_ HB.out GE799.out) hb); (try clear hb); obtain ⟨hcz128_0, hcz128_1, hcz128_2, hcz128_3, hfz128_0, hfz128_1, hfz128_2, hfz128_3⟩ := bf4_ BK799.out) | (go_at_call 35; (with_reducible refine (impl_IsBelow.calls kj67 t789 _ _ t790 _ _ t793 _ _ t796 (Int.tmod t805 t789) (Int.tmod t803 t789) false _ ?side1 ?side2 ?side3 ?side4 ?side5 ?side6 A95.out).mono ?_); (case side1 => exact kp_ (Kd.R_reads' HO_800001.out).2.2); (case side2 => exact (Kd.R_reads' HO_800001.out).2.1); (case side3 => exact kp_ (Kd.R_reads' HO_800002.out).2.2); (case side4 => exact (Kd.R_reads' HO_800002.out).2.1); (case side5 => exact kp_ (Kd.R_reads' HO_800003.out).2.2); (case side6 => exact (Kd.R_reads' HO_800003.out).2.1); rintro e w129 ⟨rfl, hb⟩; replace HO_800001 := sd_ (Kd.R_below (ro_ HO_800001.out) hb); replace HO_800002 := sd_ (Kd.R_below (ro_ HO_800002.out) hb); replace HO_800003 := sd_ (Kd.R_below (ro_ HO_800003.out) hb); replace BK799 := sd_ (bb_ BK799.out hb); replace HB := sd_ (below_step (bw1_ HB.out GE799.out) hb); (try clear hb)))
         go_ret
         exact ⟨an_, bw1_ HB.out GE799.out⟩
        replace c94 := Bool.eq_false_iff.mpr c94
        subst c94
        have H1 : (some false) = some r := by rw [if_neg (show ¬ (false = true) by decide)] at H; exact H
        clear H
        have H := H1
        clear H1
        obtain rfl := Option.some.inj H
        exact absurd hr_ (by decide)
       replace c92 := Bool.eq_false_iff.mpr c92
       subst c92
       have H1 : (some false) = some r := by rw [if_neg (show ¬ (false = true) by decide)] at H; exact H
       clear H
       have H := H1
       clear H1
       obtain rfl := Option.some.inj H
       exact absurd hr_ (by decide)
  rw [if_neg c16] at H
  have c16b0 : (t807 == t813) = false := beq_eq_false_iff_ne.mpr c16
  have c16b1 : (t807 != t813) = true := bne_iff_ne.mpr c16
  obtain rfl := Option.some.inj H
  exact absurd hr_ (by decide)
 replace c6 := Bool.eq_false_iff.mpr c6
 subst c6
 have H1 : ((impl_AddGrades.f k t789 t790 t793 t796 0 0).bind fun t801 => (if t801 = (-1) then ((impl_JoinGrades.f k t789 t790 t793 t796 0 0).bind fun t802 => (some (t802 == (-1)))) else (some false))) = some r := by rw [if_neg (show ¬ (false = true) by decide)] at H; exact H
 clear H
 have H := H1
 clear H1
 replace H := Option.bind_eq_some_iff.mp H
 obtain ⟨t801, A1300, H⟩ := H
 try dsimp only at H
 have A130 := sd_ A1300
 clear A1300
 by_cases c131 : t801 = (-1)
 ·rw [if_pos c131] at H
  have c131b0 : (t801 == (-1)) = true := beq_iff_eq.mpr c131
  have c131b1 : (t801 != (-1)) = false := bne_eq_false_iff_eq.mpr c131
  clear c131
  replace H := Option.bind_eq_some_iff.mp H
  obtain ⟨t802, A1320, H⟩ := H
  try dsimp only at H
  have A132 := sd_ A1320
  clear A1320
  obtain rfl := Option.some.inj H
  go_enter Try.func7, Try.ntmps7
  go_wp2_with (first | ((with_reducible refine gate_callee (f := 13) rfl ?_); refine goesL_ (some 10) rfl rfl Try.func13 (by kernel_rfl) rfl #[.slice A0 l0.length c0] rfl la_ ?_; (with_reducible refine (laws_big.calls _ _ l0 false _ (kp_ HR0.out) HC0.out A2.out).mono ?_); rintro e w' ⟨rfl, ⟨nd, rfl⟩⟩; refine ⟨_, rfl, ?_⟩) | ((with_reducible refine gate_callee (f := 30) rfl ?_); refine goesL_ (some 12) rfl rfl Try.func30 (by kernel_rfl) rfl #[.slice A0 l0.length c0] rfl la_ ?_; (with_reducible refine (spec_DrawIsSystem.calls k _ _ l0 t789 t790 t793 t796 _ (kp_ HR0.out) HC0.out A4.out).mono ?_); rintro e w133 ⟨v791, v794, v797, rfl, ho0, ho1, ho2, hb⟩; refine ⟨_, rfl, ?_⟩; have HO792 := sd_ (Kd.R_lower ho0 (below_size (bw0_ HB.out))); have HO795 := sd_ (Kd.R_lower ho1 (below_size (bw0_ HB.out))); have HO798 := sd_ (Kd.R_lower ho2 (below_size (bw0_ HB.out))); replace HB := sd_ (below_step (bw0_ HB.out) hb); (try clear ho0); (try clear ho1); (try clear ho2)) | ((with_reducible refine gate_dst (N := 3) rfl ?_); refine bx_ (N := 3) (cs := #[.int .i64 0, .slice none 0 0, .slice none 0 0, .slice none 0 0]) (t := 27) ?_; intro gb799 hg w134 hbox hb; replace HO792 := sd_ (Kd.R_below (ro_ HO792.out) hb); replace HO795 := sd_ (Kd.R_below (ro_ HO795.out) hb); replace HO798 := sd_ (Kd.R_below (ro_ HO798.out) hb); have BK799 := sd_ (hbox); have GW799 := sd_ (gs_ hg (bw0_ HB.out)); have GE799 := sd_ (gs_ hg (bw0_ HB.out)); replace HB := sd_ (below_step (bw0_ HB.out) hb); clear hb hbox hg; obtain ⟨hcz135_0, hcz135_1, hcz135_2, hcz135_3, hfz135_0, hfz135_1, hfz135_2, hfz135_3⟩ := bf4_ BK799.out; obtain ⟨Ao136, co136, eo136⟩ := Kd.R_slice HO792.out; subst eo136; obtain ⟨Ao137, co137, eo137⟩ := Kd.R_slice HO795.out; subst eo137; obtain ⟨Ao138, co138, eo138⟩ := Kd.R_slice HO798.out; subst eo138) | ((with_reducible refine gate_callee (f := 31) rfl ?_); refine goesL_ (some 14) rfl rfl Try.func31 (by kernel_rfl) rfl #[.agg #[.int .i64 t789, .slice Ao136 t790.length co136, .slice Ao137 t793.length co137, .slice Ao138 t796.length co138]] rfl la_ ?_; (with_reducible refine (impl_IsSystem.calls k t789 _ _ t790 _ _ t793 _ _ t796 false _ ?side1 ?side2 ?side3 ?side4 ?side5 ?side6 A5.out).mono ?_); (case side1 => refine (Kd.R_reads' (e := 3) (base := w.heap.size) (ok := fun k_ => some k_ ≠ (.slice Ao137 t793.length co137 : Value).ownBlock) (A := Ao136) (n := t790.length) (c := co136) ?_).2.2; exact (by (with_reducible repeat (first | apply Kd.R_alloc | apply Kd.R_drewN | apply Kd.R_drew)); exact (Kd.R_mono (Kd.R_far (p := ⟨gb799, 3, none⟩) (Kd.R_far (p := ⟨gb799, 2, none⟩) (Kd.R_far (p := ⟨gb799, 1, none⟩) (Kd.R_far (p := ⟨gb799, 0, none⟩) (Kd.R_types HO792.out BK799.out (by decide)) (fun _ hk => hk.2) (.int .i64 t789)) (fun _ hk => hk.2) (.slice Ao136 t790.length co136)) (fun _ hk => hk.2) (.slice Ao137 t793.length co137)) (fun _ hk => hk.2) (.slice Ao138 t796.length co138)) (fun _ h_ => h_.1)))); (case side2 => exact (Kd.R_reads' HO792.out).2.1); (case side3 => refine (Kd.R_reads' (e := 3) (base := w.heap.size) (ok := fun k_ => some k_ ≠ (.slice Ao136 t790.length co136 : Value).ownBlock) (A := Ao137) (n := t793.length) (c := co137) ?_).2.2; exact (by (with_reducible repeat (first | apply Kd.R_alloc | apply Kd.R_drewN | apply Kd.R_drew)); exact (Kd.R_mono (Kd.R_far (p := ⟨gb799, 3, none⟩) (Kd.R_far (p := ⟨gb799, 2, none⟩) (Kd.R_far (p := ⟨gb799, 1, none⟩) (Kd.R_far (p := ⟨gb799, 0, none⟩) (Kd.R_types HO795.out BK799.out (by decide)) (fun _ hk => hk.2) (.int .i64 t789)) (fun _ hk => hk.2) (.slice Ao136 t790.length co136)) (fun _ hk => hk.2) (.slice Ao137 t793.length co137)) (fun _ hk => hk.2) (.slice Ao138 t796.length co138)) (fun _ h_ => h_.1)))); (case side4 => exact (Kd.R_reads' HO795.out).2.1); (case side5 => refine (Kd.R_reads' (e := 4) (base := w.heap.size) (ok := fun k_ => True) (A := Ao138) (n := t796.length) (c := co138) ?_).2.2; exact (by (with_reducible repeat (first | apply Kd.R_alloc | apply Kd.R_drewN | apply Kd.R_drew)); exact (Kd.R_mono (Kd.R_far (p := ⟨gb799, 3, none⟩) (Kd.R_far (p := ⟨gb799, 2, none⟩) (Kd.R_far (p := ⟨gb799, 1, none⟩) (Kd.R_far (p := ⟨gb799, 0, none⟩) (Kd.R_types HO798.out BK799.out (by decide)) (fun _ hk => hk.2) (.int .i64 t789)) (fun _ hk => hk.2) (.slice Ao136 t790.length co136)) (fun _ hk => hk.2) (.slice Ao137 t793.length co137)) (fun _ hk => hk.2) (.slice Ao138 t796.length co138)) (fun _ h_ => h_.1)))); (case side6 => exact (Kd.R_reads' HO798.out).2.1); rintro e w139 ⟨rfl, hb⟩; refine ⟨_, rfl, ?_⟩; replace HO792 := sd_ (Kd.R_below (by (with_reducible repeat (first | apply Kd.R_alloc | apply Kd.R_drewN | apply Kd.R_drew)); exact (Kd.R_mono (Kd.R_far (p := ⟨gb799, 3, none⟩) (Kd.R_far (p := ⟨gb799, 2, none⟩) (Kd.R_far (p := ⟨gb799, 1, none⟩) (Kd.R_far (p := ⟨gb799, 0, none⟩) (Kd.R_types HO792.out BK799.out (by decide)) (fun _ hk => hk.2) (.int .i64 t789)) (fun _ hk => hk.2) (.slice Ao136 t790.length co136)) (fun _ hk => hk.2) (.slice Ao137 t793.length co137)) (fun _ hk => hk.2) (.slice Ao138 t796.length co138)) (fun _ h_ => h_.1))) hb); replace HO795 := sd_ (Kd.R_below (by (with_reducible repeat (first | apply Kd.R_alloc | apply Kd.R_drewN | apply Kd.R_drew)); exact (Kd.R_mono (Kd.R_far (p := ⟨gb799, 3, none⟩) (Kd.R_far (p := ⟨gb799, 2, none⟩) (Kd.R_far (p := ⟨gb799, 1, none⟩) (Kd.R_far (p := ⟨gb799, 0, none⟩) (Kd.R_types HO795.out BK799.out (by decide)) (fun _ hk => hk.2) (.int .i64 t789)) (fun _ hk => hk.2) (.slice Ao136 t790.length co136)) (fun _ hk => hk.2) (.slice Ao137 t793.length co137)) (fun _ hk => hk.2) (.slice Ao138 t796.length co138)) (fun _ h_ => h_.1))) hb); replace HO798 := sd_ (Kd.R_below (by (with_reducible repeat (first | apply Kd.R_alloc | apply Kd.R_drewN | apply Kd.R_drew)); exact (Kd.R_mono (Kd.R_far (p := ⟨gb799, 3, none⟩) (Kd.R_far (p := ⟨gb799, 2, none⟩) (Kd.R_far (p := ⟨gb799, 1, none⟩) (Kd.R_far (p := ⟨gb799, 0, none⟩) (Kd.R_types HO798.out BK799.out (by decide)) (fun _ hk => hk.2) (.int .i64 t789)) (fun _ hk => hk.2) (.slice Ao136 t790.length co136)) (fun _ hk => hk.2) (.slice Ao137 t793.length co137)) (fun _ hk => hk.2) (.slice Ao138 t796.length co138)) (fun _ h_ => h_.1))) hb); replace BK799 := sd_ (blk_below (g := gb799) (o := .cells #[.int .i64 t789, .slice Ao136 t790.length co136, .slice Ao137 t793.length co137, .slice Ao138 t796.length co138] 27 (0, 0)) (by (with_reducible repeat (first | refine blk_drewN ?_ _ | refine blk_drew ?_ | refine blk_alloc ?_ _)); refine blk_put (cs := #[.int .i64 t789, .slice Ao136 t790.length co136, .slice Ao137 t793.length co137, .slice none 0 0]) ?_ 3 _ rfl; (with_reducible repeat (first | refine blk_drewN ?_ _ | refine blk_drew ?_ | refine blk_alloc ?_ _)); refine blk_put (cs := #[.int .i64 t789, .slice Ao136 t790.length co136, .slice none 0 0, .slice none 0 0]) ?_ 2 _ rfl; (with_reducible repeat (first | refine blk_drewN ?_ _ | refine blk_drew ?_ | refine blk_alloc ?_ _)); refine blk_put (cs := #[.int .i64 t789, .slice none 0 0, .slice none 0 0, .slice none 0 0]) ?_ 1 _ rfl; (with_reducible repeat (first | refine blk_drewN ?_ _ | refine blk_drew ?_ | refine blk_alloc ?_ _)); refine blk_put (cs := #[.int .i64 0, .slice none 0 0, .slice none 0 0, .slice none 0 0]) ?_ 0 _ rfl; exact bz_ BK799.out) hb); replace HB := sd_ (below_step (bw1_ HB.out GE799.out) hb); (try clear hb); obtain ⟨hcz140_0, hcz140_1, hcz140_2, hcz140_3, hfz140_0, hfz140_1, hfz140_2, hfz140_3⟩ := bf4_ BK799.out) | ((with_reducible refine gate_callee (f := 32) rfl ?_); refine goesL_ (some 17) rfl rfl Try.func32 (by kernel_rfl) rfl #[.agg #[.int .i64 t789, .slice Ao136 t790.length co136, .slice Ao137 t793.length co137, .slice Ao138 t796.length co138], .int .i64 0, .int .i64 0] rfl la_ ?_; (with_reducible refine (impl_AddGrades.calls k t789 _ _ t790 _ _ t793 _ _ t796 0 0 t801 _ ?side1 ?side2 ?side3 ?side4 ?side5 ?side6 A130.out).mono ?_); (case side1 => exact kp_ (Kd.R_reads' HO792.out).2.2); (case side2 => exact (Kd.R_reads' HO792.out).2.1); (case side3 => exact kp_ (Kd.R_reads' HO795.out).2.2); (case side4 => exact (Kd.R_reads' HO795.out).2.1); (case side5 => exact kp_ (Kd.R_reads' HO798.out).2.2); (case side6 => exact (Kd.R_reads' HO798.out).2.1); rintro e w141 ⟨rfl, hb⟩; refine ⟨_, rfl, ?_⟩; replace HO792 := sd_ (Kd.R_below (ro_ HO792.out) hb); replace HO795 := sd_ (Kd.R_below (ro_ HO795.out) hb); replace HO798 := sd_ (Kd.R_below (ro_ HO798.out) hb); replace BK799 := sd_ (bb_ BK799.out hb); replace HB := sd_ (below_step (bw1_ HB.out GE799.out) hb); (try clear hb); obtain ⟨hcz142_0, hcz142_1, hcz142_2, hcz142_3, hfz142_0, hfz142_1, hfz142_2, hfz142_3⟩ := bf4_ BK799.out) | (go_at_call 20; (with_reducible refine (impl_JoinGrades.calls k t789 _ _ t790 _ _ t793 _ _ t796 0 0 t802 _ ?side1 ?side2 ?side3 ?side4 ?side5 ?side6 A132.out).mono ?_); (case side1 => exact kp_ (Kd.R_reads' HO792.out).2.2); (case side2 => exact (Kd.R_reads' HO792.out).2.1); (case side3 => exact kp_ (Kd.R_reads' HO795.out).2.2); (case side4 => exact (Kd.R_reads' HO795.out).2.1); (case side5 => exact kp_ (Kd.R_reads' HO798.out).2.2); (case side6 => exact (Kd.R_reads' HO798.out).2.1); rintro e w143 ⟨rfl, hb⟩; replace HO792 := sd_ (Kd.R_below (ro_ HO792.out) hb); replace HO795 := sd_ (Kd.R_below (ro_ HO795.out) hb); replace HO798 := sd_ (Kd.R_below (ro_ HO798.out) hb); replace BK799 := sd_ (bb_ BK799.out hb); replace HB := sd_ (below_step (bw1_ HB.out GE799.out) hb); (try clear hb)))
  go_ret
  exact ⟨an_, bw1_ HB.out GE799.out⟩
 rw [if_neg c131] at H
 have c131b0 : (t801 == (-1)) = false := beq_eq_false_iff_ne.mpr c131
 have c131b1 : (t801 != (-1)) = true := bne_iff_ne.mpr c131
 obtain rfl := Option.some.inj H
 exact absurd hr_ (by decide)

def laws_FnGradesReckoned.Pure : Prop := ∀ (l0 : List Int), ((∀ z ∈ l0, (Lit.int .u8 z).wf = true) ∧ l0.length ≤ maxLen) → ∃ k, laws_FnGradesReckoned.f k l0 = some true

end Go.Proofs.Ytcdmnofomoadlaa.P
