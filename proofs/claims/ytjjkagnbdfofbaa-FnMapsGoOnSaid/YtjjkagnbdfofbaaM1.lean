-- Several texts in one (wip/tools/merge.py).
import Derived.Sort.LotA
import Derived.Shelf.SlSortCmp.NoneTotal
import Derived.Test.YtjjkagnbdfofbaaProg
section
/- Lists' order. -/
namespace Go.Proofs.Ytjjkagnbdfofbaa.P
/-- How two lists of numbers stand: as the library's Compare tells it. -/
def cmpL : List Int → List Int → Int
  | [], [] => 0
  | [], _ :: _ => -1
  | _ :: _, [] => 1
  | a :: l, b :: bs => if a < b then -1 else if b < a then 1 else cmpL l bs
theorem cmpL_self : ∀ a, cmpL a a = 0
  | [] => rfl
  | a :: l => by unfold cmpL; rw [if_neg (by omega), if_neg (by omega)]; exact cmpL_self l
theorem cmpL_eq : ∀ a b, cmpL a b = 0 → a = b
  | [], [], _ => rfl
  | [], _ :: _, h => by simp [cmpL] at h
  | _ :: _, [], h => by simp [cmpL] at h
  | a :: l, b :: bs, h => by
    unfold cmpL at h
    by_cases c : a < b
    · rw [if_pos c] at h; omega
    · rw [if_neg c] at h
      by_cases d : b < a
      · rw [if_pos d] at h; omega
      · rw [if_neg d] at h
        rw [cmpL_eq l bs h, show a = b by omega]
theorem cmpL_neg : ∀ a b, cmpL b a = - cmpL a b
  | [], [] => rfl
  | [], _ :: _ => rfl
  | _ :: _, [] => rfl
  | a :: l, b :: bs => by
    unfold cmpL
    by_cases c : a < b
    · simp [c, show ¬ b < a by omega]
    · by_cases d : b < a
      · simp [c, d]
      · simp only [if_neg c, if_neg d]; exact cmpL_neg l bs
theorem cmpL_trans : ∀ a b c, cmpL a b ≤ 0 → cmpL b c ≤ 0 → cmpL a c ≤ 0
  | [], [], _, _, h => h
  | [], _ :: _, [], _, _ => by simp [cmpL]
  | [], _ :: _, _ :: _, _, _ => by simp [cmpL]
  | _ :: _, [], _, h, _ => by simp [cmpL] at h
  | _ :: _, _ :: _, [], _, h => by simp [cmpL] at h
  | a :: l, b :: bs, c :: cs, h, k => by
    unfold cmpL at h k ⊢
    by_cases p : a < b
    · by_cases q : b < c
      · rw [if_pos (by omega)]; omega
      · rw [if_neg q] at k
        by_cases r : c < b
        · rw [if_pos r] at k; omega
        · rw [if_pos (by omega)]; omega
    · rw [if_neg p] at h
      by_cases p2 : b < a
      · rw [if_pos p2] at h; omega
      · rw [if_neg p2] at h
        by_cases q : b < c
        · rw [if_pos (by omega)]; omega
        · rw [if_neg q] at k
          by_cases r : c < b
          · rw [if_pos r] at k; omega
          · rw [if_neg r] at k
            rw [if_neg (by omega), if_neg (by omega)]
            exact cmpL_trans l bs cs h k
/-- Lists in their order. -/
def sortL (l : List (List Int)) : List (List Int) := l.mergeSort fun a b => decide (cmpL a b ≤ 0)
theorem sort_one {l r : List (List Int)} (hp : r.Perm l) (hs : r.Pairwise fun a b => cmpL a b ≤ 0) : r = sortL l := by
  have h1 : (sortL l).Pairwise fun a b => (decide (cmpL a b ≤ 0)) = true := List.pairwise_mergeSort (fun a b c h k => by
    simp only [decide_eq_true_eq] at h k ⊢; exact cmpL_trans a b c h k) (fun a b => by
    have := cmpL_neg a b
    by_cases c : cmpL a b ≤ 0
    · simp [c]
    · simp only [Bool.or_eq_true, decide_eq_true_eq]; omega) l
  refine List.Perm.eq_of_pairwise (le := fun a b => cmpL a b ≤ 0) ?_ hs (h1.imp fun h => by simpa using h) (hp.trans (List.mergeSort_perm _ _).symm)
  intro a b _ _ h k
  have := cmpL_neg a b
  exact cmpL_eq a b (by omega)
end Go.Proofs.Ytjjkagnbdfofbaa.P
end

section
/- slices.SortFunc out of the kit's shelf, laid at this program in plain words. -/
namespace Go.Proofs.Ytjjkagnbdfofbaa.P
open Go.Shelf Go.RowKit
def sortL_ren : Go.Shelf.Ren := ⟨fun | 6 => 28 | 14 => 55 | 15 => 56 | 20 => 73 | 21 => 74 | 22 => 75 | 23 => 76 | 24 => 77 | 25 => 78 | 26 => 79 | 27 => 80 | 28 => 81 | 29 => 82 | 46 => 87 | 47 => 88 | 48 => 89 | 49 => 90 | 50 => 91 | 57 => 92 | n => n, fun | 0 => 0 | 1 => 1 | 2 => 2 | 3 => 3 | 4 => 4 | 5 => 5 | 6 => 6 | 7 => 7 | 8 => 8 | 9 => 9 | 10 => 10 | 11 => 11 | 12 => 12 | 13 => 13 | 14 => 14 | 15 => 15 | 16 => 16 | 17 => 17 | 18 => 18 | 19 => 19 | 20 => 20 | 21 => 21 | 22 => 32 | 23 => 52 | 24 => 24 | 25 => 53 | 27 => 24 | 29 => 50 | 37 => 66 | 38 => 67 | 39 => 68 | 42 => 45 | 44 => 77 | 45 => 78 | 46 => 79 | 47 => 80 | 48 => 81 | 49 => 82 | 50 => 83 | 51 => 84 | 52 => 85 | 53 => 86 | 54 => 87 | 55 => 88 | 66 => 90 | 67 => 91 | 68 => 92 | 69 => 93 | 70 => 94 | 71 => 95 | 76 => 96 | 77 => 97 | 78 => 98 | 81 => 99 | 82 => 100 | 83 => 101 | 84 => 102 | 85 => 103 | 86 => 104 | 87 => 105 | 88 => 106 | 89 => 107 | 90 => 108 | 91 => 109 | 92 => 110 | 93 => 111 | 94 => 112 | 95 => 113 | 96 => 114 | n => n, fun n => n⟩
theorem shelfSort : Go.Proofs.SlLaysF.n6 Try.prog sortL_ren := {
  mixed := by kernel_rfl
  f6 := ⟨Try.f28.name, by decide, Try.func28.trans (congrArg some (by kernel_rfl))⟩
  f14 := ⟨Try.f55.name, by decide, Try.func55.trans (congrArg some (by kernel_rfl))⟩
  f15 := Try.func56.trans (congrArg some (by kernel_rfl))
  f20 := ⟨Try.f73.name, by decide, Try.func73.trans (congrArg some (by kernel_rfl))⟩
  f21 := ⟨Try.f74.name, by decide, Try.func74.trans (congrArg some (by kernel_rfl))⟩
  f22 := ⟨Try.f75.name, by decide, Try.func75.trans (congrArg some (by kernel_rfl))⟩
  f23 := ⟨Try.f76.name, by decide, Try.func76.trans (congrArg some (by kernel_rfl))⟩
  f24 := ⟨Try.f77.name, by decide, Try.func77.trans (congrArg some (by kernel_rfl))⟩
  f25 := ⟨Try.f78.name, by decide, Try.func78.trans (congrArg some (by kernel_rfl))⟩
  f26 := ⟨Try.f79.name, by decide, Try.func79.trans (congrArg some (by kernel_rfl))⟩
  f27 := ⟨Try.f80.name, by decide, Try.func80.trans (congrArg some (by kernel_rfl))⟩
  f28 := Try.func81.trans (congrArg some (by kernel_rfl))
  f29 := Try.func82.trans (congrArg some (by kernel_rfl))
  f46 := ⟨Try.f87.name, by decide, Try.func87.trans (congrArg some (by kernel_rfl))⟩
  f47 := Try.func88.trans (congrArg some (by kernel_rfl))
  f48 := Try.func89.trans (congrArg some (by kernel_rfl))
  f49 := ⟨Try.f90.name, by decide, Try.func90.trans (congrArg some (by kernel_rfl))⟩
  f50 := ⟨Try.f91.name, by decide, Try.func91.trans (congrArg some (by kernel_rfl))⟩
  f57 := ⟨Try.f92.name, by decide, Try.func92.trans (congrArg some (by kernel_rfl))⟩
  t0 := Try.underlying0
  a0 := Try.isAgg0
  z0 := Try.sizeOf0
  v0 := Try.zeroValue0
  t3 := Try.underlying3
  a3 := Try.isAgg3
  z3 := Try.sizeOf3
  v3 := Try.zeroValue3
  t4 := Try.underlying4
  a4 := Try.isAgg4
  z4 := Try.sizeOf4
  v4 := Try.zeroValue4
  t5 := Try.underlying5
  a5 := Try.isAgg5
  z5 := Try.sizeOf5
  v5 := Try.zeroValue5
  t9 := Try.underlying9
  a9 := Try.isAgg9
  z9 := Try.sizeOf9
  v9 := Try.zeroValue9
  t22 := Try.underlying32
  a22 := Try.isAgg32
  z22 := Try.sizeOf32
  v22 := Try.zeroValue32
  a24 := Try.isAgg24
  z24 := Try.sizeOf24
  t25 := Try.underlying53
  a25 := Try.isAgg53
  z25 := Try.sizeOf53
  v25 := Try.zeroValue53
  t39 := Try.underlying68
  a39 := Try.isAgg68
  z39 := Try.sizeOf68
  v39 := Try.zeroValue68
  t45 := Try.underlying78
  a45 := Try.isAgg78
  z45 := Try.sizeOf78
  v45 := Try.zeroValue78
  t46 := Try.underlying79
  a46 := Try.isAgg79
  z46 := Try.sizeOf79
  v46 := Try.zeroValue79
  t50 := Try.underlying83
  a50 := Try.isAgg83
  z50 := Try.sizeOf83
  v50 := Try.zeroValue83
  t53 := Try.underlying86
  a53 := Try.isAgg86
  z53 := Try.sizeOf86
  v53 := Try.zeroValue86
  t55 := Try.underlying88
  a55 := Try.isAgg88
  z55 := Try.sizeOf88
  v55 := Try.zeroValue88
  t66 := Try.underlying90
  a66 := Try.isAgg90
  z66 := Try.sizeOf90
  v66 := Try.zeroValue90
  t70 := Try.underlying94
  a70 := Try.isAgg94
  z70 := Try.sizeOf94
  v70 := Try.zeroValue94
  t76 := Try.underlying96
  a76 := Try.isAgg96
  z76 := Try.sizeOf96
  v76 := Try.zeroValue96
  t77 := Try.underlying97
  a77 := Try.isAgg97
  z77 := Try.sizeOf97
  v77 := Try.zeroValue97 }
end Go.Proofs.Ytjjkagnbdfofbaa.P
end
