-- Several texts in one (wip/tools/merge.py).
import Derived.Sort.LotA
import Derived.Shelf.SlSortCmp.NoneTotal
import Derived.Test.YtipfkicndjddgaaProg
section
/- Lists' order. -/
namespace Go.Proofs.Ytipfkicndjddgaa.P
/-- How two lists of numbers stand: as the library's Compare tells it. -/
def cmpL : List Int → List Int → Int
  | [], [] => 0
  | [], _ :: _ => -1
  | _ :: _, [] => 1
  | a :: l, b :: bs => if a < b then -1 else if b < a then 1 else cmpL l bs
theorem cmpL_self : ∀ a, cmpL a a = 0
  | [] => rfl
  | a :: l => by unfold cmpL; rw [if_neg (by omega), if_neg (by omega)]; exact cmpL_self l
theorem cmpL_eq : ∀ a b, cmpL a b = 0 → a = b
  | [], [], _ => rfl
  | [], _ :: _, h => by simp [cmpL] at h
  | _ :: _, [], h => by simp [cmpL] at h
  | a :: l, b :: bs, h => by
    unfold cmpL at h
    by_cases c : a < b
    · rw [if_pos c] at h; omega
    · rw [if_neg c] at h
      by_cases d : b < a
      · rw [if_pos d] at h; omega
      · rw [if_neg d] at h
        rw [cmpL_eq l bs h, show a = b by omega]
theorem cmpL_neg : ∀ a b, cmpL b a = - cmpL a b
  | [], [] => rfl
  | [], _ :: _ => rfl
  | _ :: _, [] => rfl
  | a :: l, b :: bs => by
    unfold cmpL
    by_cases c : a < b
    · simp [c, show ¬ b < a by omega]
    · by_cases d : b < a
      · simp [c, d]
      · simp only [if_neg c, if_neg d]; exact cmpL_neg l bs
theorem cmpL_trans : ∀ a b c, cmpL a b ≤ 0 → cmpL b c ≤ 0 → cmpL a c ≤ 0
  | [], [], _, _, h => h
  | [], _ :: _, [], _, _ => by simp [cmpL]
  | [], _ :: _, _ :: _, _, _ => by simp [cmpL]
  | _ :: _, [], _, h, _ => by simp [cmpL] at h
  | _ :: _, _ :: _, [], _, h => by simp [cmpL] at h
  | a :: l, b :: bs, c :: cs, h, k => by
    unfold cmpL at h k ⊢
    by_cases p : a < b
    · by_cases q : b < c
      · rw [if_pos (by omega)]; omega
      · rw [if_neg q] at k
        by_cases r : c < b
        · rw [if_pos r] at k; omega
        · rw [if_pos (by omega)]; omega
    · rw [if_neg p] at h
      by_cases p2 : b < a
      · rw [if_pos p2] at h; omega
      · rw [if_neg p2] at h
        by_cases q : b < c
        · rw [if_pos (by omega)]; omega
        · rw [if_neg q] at k
          by_cases r : c < b
          · rw [if_pos r] at k; omega
          · rw [if_neg r] at k
            rw [if_neg (by omega), if_neg (by omega)]
            exact cmpL_trans l bs cs h k
/-- Lists in their order. -/
def sortL (l : List (List Int)) : List (List Int) := l.mergeSort fun a b => decide (cmpL a b ≤ 0)
theorem sort_one {l r : List (List Int)} (hp : r.Perm l) (hs : r.Pairwise fun a b => cmpL a b ≤ 0) : r = sortL l := by
  have h1 : (sortL l).Pairwise fun a b => (decide (cmpL a b ≤ 0)) = true := List.pairwise_mergeSort (fun a b c h k => by
    simp only [decide_eq_true_eq] at h k ⊢; exact cmpL_trans a b c h k) (fun a b => by
    have := cmpL_neg a b
    by_cases c : cmpL a b ≤ 0
    · simp [c]
    · simp only [Bool.or_eq_true, decide_eq_true_eq]; omega) l
  refine List.Perm.eq_of_pairwise (le := fun a b => cmpL a b ≤ 0) ?_ hs (h1.imp fun h => by simpa using h) (hp.trans (List.mergeSort_perm _ _).symm)
  intro a b _ _ h k
  have := cmpL_neg a b
  exact cmpL_eq a b (by omega)
end Go.Proofs.Ytipfkicndjddgaa.P
end

section
/- slices.SortFunc out of the kit's shelf, laid at this program in plain words. -/
namespace Go.Proofs.Ytipfkicndjddgaa.P
open Go.Shelf Go.RowKit
def sortL_ren : Go.Shelf.Ren := ⟨fun | 6 => 79 | 14 => 108 | 15 => 109 | 20 => 125 | 21 => 126 | 22 => 127 | 23 => 128 | 24 => 129 | 25 => 130 | 26 => 131 | 27 => 132 | 28 => 133 | 29 => 134 | 46 => 141 | 47 => 142 | 48 => 143 | 49 => 144 | 50 => 145 | 57 => 146 | n => n, fun | 0 => 0 | 1 => 1 | 2 => 2 | 3 => 3 | 4 => 4 | 5 => 5 | 6 => 6 | 7 => 7 | 8 => 8 | 9 => 9 | 10 => 10 | 11 => 11 | 12 => 12 | 13 => 13 | 14 => 14 | 15 => 15 | 16 => 16 | 17 => 17 | 18 => 18 | 19 => 19 | 20 => 20 | 21 => 21 | 22 => 54 | 23 => 85 | 24 => 22 | 25 => 86 | 27 => 22 | 29 => 60 | 37 => 102 | 38 => 103 | 39 => 104 | 40 => 105 | 42 => 88 | 44 => 112 | 45 => 113 | 46 => 114 | 47 => 115 | 48 => 116 | 49 => 117 | 50 => 118 | 51 => 119 | 52 => 120 | 53 => 121 | 54 => 122 | 55 => 123 | 66 => 125 | 67 => 126 | 68 => 127 | 69 => 128 | 70 => 129 | 71 => 130 | 76 => 131 | 77 => 110 | 78 => 132 | 81 => 133 | 82 => 134 | 83 => 135 | 84 => 136 | 85 => 137 | 86 => 138 | 87 => 139 | 88 => 140 | 89 => 141 | 90 => 142 | 91 => 143 | 92 => 144 | 93 => 145 | 94 => 146 | 95 => 147 | 96 => 148 | n => n, fun n => n⟩
theorem shelfSort : Go.Proofs.SlLaysF.n6 Try.prog sortL_ren := {
  mixed := by kernel_rfl
  f6 := ⟨Try.f79.name, by decide, Try.func79.trans (congrArg some (by kernel_rfl))⟩
  f14 := ⟨Try.f108.name, by decide, Try.func108.trans (congrArg some (by kernel_rfl))⟩
  f15 := Try.func109.trans (congrArg some (by kernel_rfl))
  f20 := ⟨Try.f125.name, by decide, Try.func125.trans (congrArg some (by kernel_rfl))⟩
  f21 := ⟨Try.f126.name, by decide, Try.func126.trans (congrArg some (by kernel_rfl))⟩
  f22 := ⟨Try.f127.name, by decide, Try.func127.trans (congrArg some (by kernel_rfl))⟩
  f23 := ⟨Try.f128.name, by decide, Try.func128.trans (congrArg some (by kernel_rfl))⟩
  f24 := ⟨Try.f129.name, by decide, Try.func129.trans (congrArg some (by kernel_rfl))⟩
  f25 := ⟨Try.f130.name, by decide, Try.func130.trans (congrArg some (by kernel_rfl))⟩
  f26 := ⟨Try.f131.name, by decide, Try.func131.trans (congrArg some (by kernel_rfl))⟩
  f27 := ⟨Try.f132.name, by decide, Try.func132.trans (congrArg some (by kernel_rfl))⟩
  f28 := Try.func133.trans (congrArg some (by kernel_rfl))
  f29 := Try.func134.trans (congrArg some (by kernel_rfl))
  f46 := ⟨Try.f141.name, by decide, Try.func141.trans (congrArg some (by kernel_rfl))⟩
  f47 := Try.func142.trans (congrArg some (by kernel_rfl))
  f48 := Try.func143.trans (congrArg some (by kernel_rfl))
  f49 := ⟨Try.f144.name, by decide, Try.func144.trans (congrArg some (by kernel_rfl))⟩
  f50 := ⟨Try.f145.name, by decide, Try.func145.trans (congrArg some (by kernel_rfl))⟩
  f57 := ⟨Try.f146.name, by decide, Try.func146.trans (congrArg some (by kernel_rfl))⟩
  t0 := Try.underlying0
  a0 := Try.isAgg0
  z0 := Try.sizeOf0
  v0 := Try.zeroValue0
  t3 := Try.underlying3
  a3 := Try.isAgg3
  z3 := Try.sizeOf3
  v3 := Try.zeroValue3
  t4 := Try.underlying4
  a4 := Try.isAgg4
  z4 := Try.sizeOf4
  v4 := Try.zeroValue4
  t5 := Try.underlying5
  a5 := Try.isAgg5
  z5 := Try.sizeOf5
  v5 := Try.zeroValue5
  t9 := Try.underlying9
  a9 := Try.isAgg9
  z9 := Try.sizeOf9
  v9 := Try.zeroValue9
  t22 := Try.underlying54
  a22 := Try.isAgg54
  z22 := Try.sizeOf54
  v22 := Try.zeroValue54
  a24 := Try.isAgg22
  z24 := Try.sizeOf22
  t25 := Try.underlying86
  a25 := Try.isAgg86
  z25 := Try.sizeOf86
  v25 := Try.zeroValue86
  t39 := Try.underlying104
  a39 := Try.isAgg104
  z39 := Try.sizeOf104
  v39 := Try.zeroValue104
  t45 := Try.underlying113
  a45 := Try.isAgg113
  z45 := Try.sizeOf113
  v45 := Try.zeroValue113
  t46 := Try.underlying114
  a46 := Try.isAgg114
  z46 := Try.sizeOf114
  v46 := Try.zeroValue114
  t50 := Try.underlying118
  a50 := Try.isAgg118
  z50 := Try.sizeOf118
  v50 := Try.zeroValue118
  t53 := Try.underlying121
  a53 := Try.isAgg121
  z53 := Try.sizeOf121
  v53 := Try.zeroValue121
  t55 := Try.underlying123
  a55 := Try.isAgg123
  z55 := Try.sizeOf123
  v55 := Try.zeroValue123
  t66 := Try.underlying125
  a66 := Try.isAgg125
  z66 := Try.sizeOf125
  v66 := Try.zeroValue125
  t70 := Try.underlying129
  a70 := Try.isAgg129
  z70 := Try.sizeOf129
  v70 := Try.zeroValue129
  t76 := Try.underlying131
  a76 := Try.isAgg131
  z76 := Try.sizeOf131
  v76 := Try.zeroValue131
  t77 := Try.underlying110
  a77 := Try.isAgg110
  z77 := Try.sizeOf110
  v77 := Try.zeroValue110 }
end Go.Proofs.Ytipfkicndjddgaa.P
end
