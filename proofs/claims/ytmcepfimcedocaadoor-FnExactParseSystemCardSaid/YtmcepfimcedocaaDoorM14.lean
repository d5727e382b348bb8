-- Several texts in one (wip/tools/merge.py).
import Derived.Test.YtmcepfimcedocaaDoorM12
import Derived.Test.YtmcepfimcedocaaDoorM11
import Derived.Test.YtmcepfimcedocaaDoorM13
import Derived.Test.YtmcepfimcedocaaDoorM10
import Derived.Test.YtmcepfimcedocaaDoorB1
import Derived.Test.YtmcepfimcedocaaDoorPf23
import Derived.Test.YtmcepfimcedocaaDoorM2
import Derived.Lib.Strings
import Derived.Lib.ItoaNum
import Derived.KernelRfl
section
/- Tables by formula: what the systems of one part are made of. -/
set_option linter.unusedSimpArgs false
set_option linter.unusedVariables false
namespace Go.Proofs.YtmcepfimcedocaaDoor.Pure
open Go.RowKit Go.Proofs.YtmcepfimcedocaaDoor.P Go.Proofs.YtmcepfimcedocaaDoorW.PrintWords Go.Proofs.YtmcepfimcedocaaDoorW.PrintLast
def rowF {α : Type} (g : Int → Int → α) (a : Int) : Nat → Int → List α
  | 0, _ => []
  | q + 1, b => g a b :: rowF g a q (b + 1)
def tabF {α : Type} (m : Nat) (g : Int → Int → α) : Nat → Int → List α
  | 0, _ => []
  | q + 1, a => rowF g a m 0 ++ tabF m g q (a + 1)
def tab {α : Type} (m : Nat) (g : Int → Int → α) : List α := tabF m g m 0
theorem rowF_len {α : Type} (g : Int → Int → α) (a : Int) : ∀ (q : Nat) (b : Int), (rowF g a q b).length = q
  | 0, _ => rfl
  | q + 1, b => by simp [rowF, rowF_len g a q (b + 1)]
theorem tabF_len {α : Type} (m : Nat) (g : Int → Int → α) : ∀ (q : Nat) (a : Int), (tabF m g q a).length = q * m
  | 0, _ => by simp [tabF]
  | q + 1, a => by rw [tabF, List.length_append, rowF_len, tabF_len m g q (a + 1), Nat.succ_mul]; omega
/-- A loop of two that fills three tables. -/
theorem tabLoop {R : Type} {F0 : Nat → Int → List Int → List Int → List Bool → Option R} {F1 : Nat → Int → Int → List Int → List Int → List Bool → Option R} {fin : List Int → List Int → List Bool → R} (m : Nat) (hm : m ≤ 16) (P T : Int → Int → Int) (U : Int → Int → Bool)
    (s1 : ∀ (a b : Nat) (p t : List Int) (u : List Bool) (r : R), a < m → b < m → p.length ≤ 1000 → t.length ≤ 1000 → u.length ≤ 1000 → Ev (fun k => F1 k (a : Int) ((b + 1 : Nat) : Int) (p ++ [P a b]) (t ++ [T a b]) (u ++ [U a b])) r → Ev (fun k => F1 k (a : Int) (b : Int) p t u) r)
    (s2 : ∀ (a : Nat) (p t : List Int) (u : List Bool) (r : R), a < m → Ev (fun k => F0 k ((a + 1 : Nat) : Int) p t u) r → Ev (fun k => F1 k (a : Int) (m : Int) p t u) r)
    (s3 : ∀ (a : Nat) (p t : List Int) (u : List Bool) (r : R), a < m → Ev (fun k => F1 k (a : Int) 0 p t u) r → Ev (fun k => F0 k (a : Int) p t u) r)
    (s4 : ∀ (p t : List Int) (u : List Bool), Ev (fun k => F0 k (m : Int) p t u) (fin p t u)) :
    Ev (fun k => F0 k 0 [] [] []) (fin (tab m P) (tab m T) (tab m U)) := by
  have inner : ∀ (a : Nat), a < m → ∀ (q b : Nat) (p t : List Int) (u : List Bool) (r : R), b + q = m → p.length + q ≤ 900 → t.length + q ≤ 900 → u.length + q ≤ 900 →
      Ev (fun k => F0 k ((a + 1 : Nat) : Int) (p ++ rowF P a q (b : Int)) (t ++ rowF T a q (b : Int)) (u ++ rowF U a q (b : Int))) r → Ev (fun k => F1 k (a : Int) (b : Int) p t u) r := by
    intro a ha q
    induction q with
    | zero =>
      intro b p t u r hb h1 h2 h3 e
      obtain rfl : b = m := by omega
      simp only [rowF, List.append_nil] at e
      exact s2 a p t u r ha e
    | succ q ih =>
      intro b p t u r hb h1 h2 h3 e
      refine s1 a b p t u r ha (by omega) (by omega) (by omega) (by omega) ?_
      refine ih (b + 1) _ _ _ r (by omega) (by simp; omega) (by simp; omega) (by simp; omega) ?_
      simp only [rowF] at e
      rw [List.append_assoc, List.append_assoc, List.append_assoc]
      rw [show ((b + 1 : Nat) : Int) = (b : Int) + 1 by omega]
      exact e
  have outer : ∀ (q a : Nat) (p t : List Int) (u : List Bool), a + q = m → p.length + q * m ≤ 600 → t.length + q * m ≤ 600 → u.length + q * m ≤ 600 →
      Ev (fun k => F0 k (a : Int) p t u) (fin (p ++ tabF m P q (a : Int)) (t ++ tabF m T q (a : Int)) (u ++ tabF m U q (a : Int))) := by
    intro q
    induction q with
    | zero =>
      intro a p t u ha h1 h2 h3
      obtain rfl : a = m := by omega
      simp only [tabF, List.append_nil]
      exact s4 p t u
    | succ q ih =>
      intro a p t u ha h1 h2 h3
      rw [Nat.succ_mul] at h1 h2 h3
      refine s3 a p t u _ (by omega) ?_
      refine inner a (by omega) m 0 p t u _ (by omega) (by omega) (by omega) (by omega) ?_
      have := ih (a + 1) (p ++ rowF P a m 0) (t ++ rowF T a m 0) (u ++ rowF U a m 0) (by omega) (by rw [List.length_append, rowF_len]; omega) (by rw [List.length_append, rowF_len]; omega) (by rw [List.length_append, rowF_len]; omega)
      rw [List.append_assoc, List.append_assoc, List.append_assoc] at this
      simp only [tabF]
      rw [show ((a + 1 : Nat) : Int) = (a : Int) + 1 by omega] at this ⊢
      exact this
  have hmm : m * m ≤ 16 * 16 := Nat.mul_le_mul hm hm
  have := outer m 0 [] [] [] (by omega) (by simp; omega) (by simp; omega) (by simp; omega)
  exact this
/-! ## the entries -/
def cP (M a b : Int) : Int := if a + b < M then a + b else M
def cT (M a b : Int) : Int := if a * b < M then a * b else M
def cB (bd : Bool) (M a b : Int) : Bool := decide (a = b) || (decide (b = M) || (bd && decide (a ≤ b)))
def pl (N a : Int) : Int := if a = 0 then 0 else N - a
def hP (N a b : Int) : Int := pl N (if pl N a > pl N b then pl N a else pl N b)
def hT (N a b : Int) : Int := pl N (if pl N a < pl N b then pl N a else pl N b)
def hB (N a b : Int) : Bool := decide (pl N a ≤ pl N b)
abbrev Sy := Int × List Int × List Int × List Bool
def z0 : Sy := (0, [], [], [])
def numS (bd : Bool) (n : Nat) : Sy := (((n + 2 : Nat) : Int), tab (n + 2) (cP ((n + 1 : Nat) : Int)), tab (n + 2) (cT ((n + 1 : Nat) : Int)), tab (n + 2) (cB bd ((n + 1 : Nat) : Int)))
def levS (n : Nat) : Sy := (((n + 1 : Nat) : Int), tab (n + 1) (hP ((n + 1 : Nat) : Int)), tab (n + 1) (hT ((n + 1 : Nat) : Int)), tab (n + 1) (hB ((n + 1 : Nat) : Int)))
/-- The system of one part: which of the three, and its number. -/
def val (q n : Nat) : Sy := match q with
  | 0 => if 1 ≤ n ∧ n ≤ 14 then numS false n else z0
  | 1 => if 1 ≤ n ∧ n ≤ 14 then numS true n else z0
  | _ => if 1 ≤ n ∧ n ≤ 15 then levS n else z0
theorem mul_small {a b : Nat} (ha : a ≤ 15) (hb : b ≤ 15) : (a : Int) * (b : Int) ≤ 225 ∧ 0 ≤ (a : Int) * (b : Int) :=
  ⟨Int.mul_le_mul (show (a : Int) ≤ 15 by omega) (show (b : Int) ≤ 15 by omega) (by omega) (by decide), Int.mul_nonneg (by omega) (by omega)⟩
theorem specMin (x y : Int) : spec_l1Min.f x y = some (if x < y then x else y) := by unfold spec_l1Min.f; split <;> rfl
theorem specMax (x y : Int) : spec_l1Max.f x y = some (if x > y then x else y) := by unfold spec_l1Max.f; split <;> rfl
theorem specNumbers (bd : Bool) (n : Nat) (h1 : 1 ≤ n) (h2 : n ≤ 14) : Ev (fun k => spec_l1Numbers.f k (n : Int) bd) (numS bd n) := by
  have e1 : wrap64 ((n : Int) + 1) = ((n + 1 : Nat) : Int) := by rw [w64 (by omega) (by omega)]; omega
  have e2 : wrap64 ((n : Int) + 2) = ((n + 2 : Nat) : Int) := by rw [w64 (by omega) (by omega)]; omega
  have hin : spec_l1In.f (n : Int) 1 14 = some true := by unfold spec_l1In.f; rw [if_pos (by omega), decide_eq_true (by omega)]
  unfold spec_l1Numbers.f
  simp only [hin, Option.bind_some, if_true, e1, e2]
  refine tabLoop (F0 := fun k a p t u => spec_l1Numbers.l0 k bd ((n + 1 : Nat) : Int) a ((n + 2 : Nat) : Int) p t u) (F1 := fun k a b p t u => spec_l1Numbers.l1 k bd ((n + 1 : Nat) : Int) a b ((n + 2 : Nat) : Int) p t u) (fin := fun p t u => (((n + 2 : Nat) : Int), p, t, u)) (n + 2) (by omega) (cP ((n + 1 : Nat) : Int)) (cT ((n + 1 : Nat) : Int)) (cB bd ((n + 1 : Nat) : Int)) ?_ ?_ ?_ ?_
  · intro a b p t u r ha hb hp ht hu e
    obtain ⟨m1, m2⟩ := mul_small (a := a) (b := b) (by omega) (by omega)
    refine Ev.step (fun k => ?_) e
    simp only [spec_l1Numbers.l1, specMin, Option.bind_some]
    rw [if_pos (by omega), if_pos (by omega), if_pos (by omega), w64 (x := (a : Int) + (b : Int)) (by omega) (by omega), w64 (x := (a : Int) * (b : Int)) (by omega) (by omega), w64 (x := (b : Int) + 1) (by omega) (by omega)]
    have hu' : u.length < 140737488355328 := by omega
    simp only [if_pos hu']
    unfold cP cT cB
    rw [show ((b + 1 : Nat) : Int) = (b : Int) + 1 by omega]
    by_cases c1 : (a : Int) = (b : Int)
    · rw [if_pos c1, decide_eq_true c1]; simp only [Bool.true_or]
    · rw [if_neg c1, decide_eq_false c1]
      by_cases c2 : (b : Int) = ((n + 1 : Nat) : Int)
      · rw [if_pos c2, decide_eq_true c2]; simp only [Bool.true_or, Bool.false_or]
      · rw [if_neg c2, decide_eq_false c2]
        cases bd <;> simp
  · intro a p t u r ha e
    refine Ev.step (fun k => ?_) e
    simp only [spec_l1Numbers.l1]; rw [if_neg (by omega), w64 (by omega) (by omega)]; rfl
  · intro a p t u r ha e
    refine Ev.step (fun k => ?_) e
    simp only [spec_l1Numbers.l0]; rw [if_pos (by omega)]
  · intro p t u
    refine Ev.step (f := fun _ => some (((n + 2 : Nat) : Int), p, t, u)) (fun k => ?_) (Ev.now _)
    simp only [spec_l1Numbers.l0]; rw [if_neg (by omega)]
theorem place_eq {n : Nat} (h2 : n ≤ 15) {a : Nat} (ha : a < n + 1) : Int.tmod (wrap64 (((n + 1 : Nat) : Int) - (a : Int))) ((n + 1 : Nat) : Int) = pl ((n + 1 : Nat) : Int) (a : Int) := by
  rw [w64 (by omega) (by omega)]
  unfold pl
  by_cases c : (a : Int) = 0
  · rw [if_pos c, c, Int.sub_zero, Int.tmod_self]
  · rw [if_neg c]
    exact Int.tmod_eq_of_lt (by omega) (by omega)
theorem pl_in {n : Nat} {a : Int} (h0 : 0 ≤ a) (ha : a < ((n + 1 : Nat) : Int)) : ∃ c : Nat, pl ((n + 1 : Nat) : Int) a = (c : Int) ∧ c < n + 1 := by
  unfold pl
  by_cases c : a = 0
  · rw [if_pos c]; exact ⟨0, rfl, by omega⟩
  · rw [if_neg c]; exact ⟨(((n + 1 : Nat) : Int) - a).toNat, by omega, by omega⟩
theorem specLevels (n : Nat) (h1 : 1 ≤ n) (h2 : n ≤ 15) : Ev (fun k => spec_LevelSystem.f k (n : Int)) (levS n) := by
  have e1 : wrap64 ((n : Int) + 1) = ((n + 1 : Nat) : Int) := by rw [w64 (by omega) (by omega)]; omega
  have hin : spec_l1In.f (n : Int) 1 15 = some true := by unfold spec_l1In.f; rw [if_pos (by omega), decide_eq_true (by omega)]
  unfold spec_LevelSystem.f
  simp only [hin, Option.bind_some, if_true, e1]
  refine tabLoop (F0 := fun k a p t u => spec_LevelSystem.l0 k (n : Int) a ((n + 1 : Nat) : Int) p t u) (F1 := fun k a b p t u => spec_LevelSystem.l1 k (n : Int) a b ((n + 1 : Nat) : Int) p t u) (fin := fun p t u => (((n + 1 : Nat) : Int), p, t, u)) (n + 1) (by omega) (hP ((n + 1 : Nat) : Int)) (hT ((n + 1 : Nat) : Int)) (hB ((n + 1 : Nat) : Int)) ?_ ?_ ?_ ?_
  · intro a b p t u r ha hb hp ht hu e
    obtain ⟨ca, pa, qa⟩ := pl_in (n := n) (a := (a : Int)) (by omega) (by omega)
    obtain ⟨cb, pb, qb⟩ := pl_in (n := n) (a := (b : Int)) (by omega) (by omega)
    have p1 : p.length < 17592186044416 := by omega
    have p2 : t.length < 17592186044416 := by omega
    have p3 : u.length < 140737488355328 := by omega
    refine Ev.step (fun k => ?_) e
    simp only [spec_LevelSystem.l1, e1, place_eq h2 ha, place_eq h2 hb, specMax, specMin, Option.bind_some, if_pos p1, if_pos p2, if_pos p3]
    rw [if_pos (by omega), if_neg (by omega), w64 (x := (b : Int) + 1) (by omega) (by omega)]
    have hi : Int.tmod (wrap64 (((n + 1 : Nat) : Int) - (if pl ((n + 1 : Nat) : Int) a > pl ((n + 1 : Nat) : Int) b then pl ((n + 1 : Nat) : Int) a else pl ((n + 1 : Nat) : Int) b))) ((n + 1 : Nat) : Int) = hP ((n + 1 : Nat) : Int) a b := by
      unfold hP
      rw [pa, pb]
      split
      · exact place_eq h2 qa
      · exact place_eq h2 qb
    have lo : Int.tmod (wrap64 (((n + 1 : Nat) : Int) - (if pl ((n + 1 : Nat) : Int) a < pl ((n + 1 : Nat) : Int) b then pl ((n + 1 : Nat) : Int) a else pl ((n + 1 : Nat) : Int) b))) ((n + 1 : Nat) : Int) = hT ((n + 1 : Nat) : Int) a b := by
      unfold hT
      rw [pa, pb]
      split
      · exact place_eq h2 qa
      · exact place_eq h2 qb
    rw [hi, lo]
    rfl
  · intro a p t u r ha e
    refine Ev.step (fun k => ?_) e
    simp only [spec_LevelSystem.l1]; rw [if_neg (by omega), w64 (by omega) (by omega)]; rfl
  · intro a p t u r ha e
    refine Ev.step (fun k => ?_) e
    simp only [spec_LevelSystem.l0]; rw [if_pos (by omega)]
  · intro p t u
    refine Ev.step (f := fun _ => some (((n + 1 : Nat) : Int), p, t, u)) (fun k => ?_) (Ev.now _)
    simp only [spec_LevelSystem.l0]; rw [if_neg (by omega)]
/-! ## the program's -/
theorem tabled (m : Nat) (hm : m ≤ 16) (p0 t0 : Int → Int → Option Int) (u0 : Int → Int → Option Bool) (P T : Int → Int → Int) (U : Int → Int → Bool)
    (hp : ∀ a b : Nat, a < m → b < m → p0 (a : Int) (b : Int) = some (P a b)) (ht : ∀ a b : Nat, a < m → b < m → t0 (a : Int) (b : Int) = some (T a b)) (hu : ∀ a b : Nat, a < m → b < m → u0 (a : Int) (b : Int) = some (U a b)) :
    Ev (fun k => impl_tabled.f k (m : Int) p0 t0 u0) ((m : Int), tab m P, tab m T, tab m U) := by
  unfold impl_tabled.f
  refine tabLoop (F0 := fun k a p t u => impl_tabled.l0 k (m : Int) p0 t0 u0 a (m : Int) p t u) (F1 := fun k a b p t u => impl_tabled.l1 k (m : Int) p0 t0 u0 a b (m : Int) p t u) (fin := fun p t u => ((m : Int), p, t, u)) m hm P T U ?_ ?_ ?_ ?_
  · intro a b p t u r ha hb lp lt lu e
    have p1 : p.length < 17592186044416 := by omega
    have p2 : t.length < 17592186044416 := by omega
    have p3 : u.length < 140737488355328 := by omega
    refine Ev.step (fun k => ?_) e
    simp only [impl_tabled.l1, hp a b ha hb, ht a b ha hb, hu a b ha hb, Option.bind_some, if_pos p1, if_pos p2, if_pos p3]
    rw [if_pos (by omega), w64 (by omega) (by omega)]; rfl
  · intro a p t u r ha e
    refine Ev.step (fun k => ?_) e
    simp only [impl_tabled.l1]; rw [if_neg (by omega), w64 (by omega) (by omega)]; rfl
  · intro a p t u r ha e
    refine Ev.step (fun k => ?_) e
    simp only [impl_tabled.l0]; rw [if_pos (by omega)]
  · intro p t u
    refine Ev.step (f := fun _ => some ((m : Int), p, t, u)) (fun k => ?_) (Ev.now _)
    simp only [impl_tabled.l0]; rw [if_neg (by omega)]
theorem counted2 (k : Nat) (a b : Nat) (M : Nat) (hM : M ≤ 15) (ha : a ≤ M) (hb : b ≤ M) (h1 : 1 ≤ M) : impl_counted_2.f (k + 1) (a : Int) (b : Int) (M : Int) = some (cT (M : Int) a b) := by
  obtain ⟨m1, m2⟩ := mul_small (a := a) (b := b) (by omega) (by omega)
  unfold impl_counted_2.f
  by_cases c1 : (a : Int) = 0
  · rw [if_pos c1]
    simp only [impl_counted_2.j0, if_true]
    unfold cT
    rw [c1, Int.zero_mul, if_pos (by omega)]
  · rw [if_neg c1]
    by_cases c2 : (b : Int) = 0
    · rw [show ((b : Int) == 0) = true from beq_iff_eq.mpr c2]
      simp only [impl_counted_2.j0, if_true]
      unfold cT
      rw [c2, Int.mul_zero, if_pos (by omega)]
    · rw [show ((b : Int) == 0) = false from beq_eq_false_iff_ne.mpr c2]
      simp only [impl_counted_2.j0, Bool.false_eq_true, if_false]
      by_cases c3 : (a : Int) = (M : Int)
      · rw [if_pos c3]
        unfold cT
        rw [if_neg]
        rw [c3]
        have := Int.mul_le_mul_of_nonneg_left (a := 1) (b := (b : Int)) (c := (M : Int)) (by omega) (by omega)
        omega
      · rw [if_neg c3]
        by_cases c4 : (b : Int) = (M : Int)
        · rw [if_pos c4]
          unfold cT
          rw [if_neg]
          rw [c4]
          have := Int.mul_le_mul_of_nonneg_right (a := 1) (b := (a : Int)) (c := (M : Int)) (by omega) (by omega)
          omega
        · rw [if_neg c4, w64 (by omega) (by omega)]
          unfold cT mn
          congr 1
          split <;> split <;> omega
theorem implNumbers (bd : Bool) (n : Nat) (h1 : 1 ≤ n) (h2 : n ≤ 14) (u0 : Int → Int → Option Bool) (hu : ∀ a b : Nat, a < n + 2 → b < n + 2 → u0 (a : Int) (b : Int) = some (cB bd ((n + 1 : Nat) : Int) a b)) : Ev (fun k => impl_counted.f k (n : Int) u0) (numS bd n) := by
  have e1 : wrap64 ((n : Int) + 1) = ((n + 1 : Nat) : Int) := by rw [w64 (by omega) (by omega)]; omega
  have e2 : wrap64 ((n : Int) + 2) = ((n + 2 : Nat) : Int) := by rw [w64 (by omega) (by omega)]; omega
  have key := tabled (n + 2) (by omega) (fun z0_ z1_ => impl_counted_1.f z0_ z1_ ((n + 1 : Nat) : Int)) (fun z0_ z1_ => impl_counted_2.f 1 z0_ z1_ ((n + 1 : Nat) : Int)) u0 (cP ((n + 1 : Nat) : Int)) (cT ((n + 1 : Nat) : Int)) (cB bd ((n + 1 : Nat) : Int))
    (fun a b ha hb => by
      simp only [impl_counted_1.f]
      rw [w64 (by omega) (by omega)]
      unfold cP mn
      congr 1
      split <;> split <;> omega)
    (fun a b ha hb => counted2 0 a b (n + 1) (by omega) (by omega) (by omega) (by omega)) hu
  obtain ⟨K, key⟩ := key
  refine ⟨K + 1, fun k hk => ?_⟩
  obtain ⟨j, rfl⟩ : ∃ j, k = j + 1 := ⟨k - 1, by omega⟩
  have same : (fun z0_ z1_ => impl_counted_2.f (j + 1) z0_ z1_ ((n + 1 : Nat) : Int)) = (fun z0_ z1_ => impl_counted_2.f 1 z0_ z1_ ((n + 1 : Nat) : Int)) := by
    funext x y
    unfold impl_counted_2.f
    simp only [impl_counted_2.j0]
  have key' := key (j + 1) (by omega)
  dsimp only at key' ⊢
  unfold impl_counted.f
  rw [e1, e2, same, key']
  rfl
theorem within_true {x lo hi : Int} (h1 : lo ≤ x) (h2 : x ≤ hi) : impl_within.f x lo hi = some true := by unfold impl_within.f; rw [if_pos h1, decide_eq_true h2]
theorem within_false {x lo hi : Int} (h : ¬ (lo ≤ x ∧ x ≤ hi)) : impl_within.f x lo hi = some false := by
  unfold impl_within.f
  by_cases c : x ≥ lo
  · rw [if_pos c, decide_eq_false (by omega)]
  · rw [if_neg c]
theorem in_false {x lo hi : Int} (h : ¬ (lo ≤ x ∧ x ≤ hi)) : spec_l1In.f x lo hi = some false := by
  unfold spec_l1In.f
  by_cases c : x ≥ lo
  · rw [if_pos c, decide_eq_false (by omega)]
  · rw [if_neg c]
structure Facts (n : Nat) : Prop where
  c : Ev (fun k => spec_CountSystem.f k (n : Int)) (val 0 n)
  b : Ev (fun k => spec_BoundSystem.f k (n : Int)) (val 1 n)
  l : Ev (fun k => spec_LevelSystem.f k (n : Int)) (val 2 n)
  ci : Ev (fun k => impl_CountSystem.f k (n : Int)) (val 0 n)
  bi : Ev (fun k => impl_BoundSystem.f k (n : Int)) (val 1 n)
  li : Ev (fun k => impl_LevelSystem.f k (n : Int)) (val 2 n)
theorem facts (n : Nat) (h1 : 1 ≤ n) (h2 : n ≤ 15) : Facts n := by
  have e1 : wrap64 ((n : Int) + 1) = ((n + 1 : Nat) : Int) := by rw [w64 (by omega) (by omega)]; omega
  have lv : val 2 n = levS n := by simp only [val]; rw [if_pos ⟨h1, h2⟩]
  have place : ∀ a : Nat, a < n + 1 → impl_LevelSystem_1.f (a : Int) (n : Int) = some (pl ((n + 1 : Nat) : Int) (a : Int)) := fun a ha => by
    unfold impl_LevelSystem_1.f pl
    rw [e1]
    by_cases c : (a : Int) = 0
    · rw [if_pos c, if_pos c]
    · rw [if_neg c, if_neg c, w64 (by omega) (by omega)]
  have li : Ev (fun k => impl_LevelSystem.f k (n : Int)) (val 2 n) := by
    rw [lv]
    unfold impl_LevelSystem.f
    simp only [within_true (x := (n : Int)) (lo := 1) (hi := 15) (by omega) (by omega), Option.bind_some, if_true, e1]
    refine Ev.bind (tabled (n + 1) (by omega) _ _ _ (hP ((n + 1 : Nat) : Int)) (hT ((n + 1 : Nat) : Int)) (hB ((n + 1 : Nat) : Int)) (fun a b ha hb => ?_) (fun a b ha hb => ?_) (fun a b ha hb => ?_)) (Ev.now _)
    · obtain ⟨ca, pa, qa⟩ := pl_in (n := n) (a := (a : Int)) (by omega) (by omega)
      obtain ⟨cb, pb, qb⟩ := pl_in (n := n) (a := (b : Int)) (by omega) (by omega)
      simp only [impl_LevelSystem_2.f, place a ha, place b hb, Option.bind_some]
      unfold hP
      rw [pa, pb]
      have em : mx (ca : Int) (cb : Int) = if (ca : Int) > (cb : Int) then (ca : Int) else (cb : Int) := by unfold mx; split <;> split <;> omega
      rw [em]
      split
      · rw [place ca qa]; rfl
      · rw [place cb qb]; rfl
    · obtain ⟨ca, pa, qa⟩ := pl_in (n := n) (a := (a : Int)) (by omega) (by omega)
      obtain ⟨cb, pb, qb⟩ := pl_in (n := n) (a := (b : Int)) (by omega) (by omega)
      simp only [impl_LevelSystem_3.f, place a ha, place b hb, Option.bind_some]
      unfold hT
      rw [pa, pb]
      have em : mn (ca : Int) (cb : Int) = if (ca : Int) < (cb : Int) then (ca : Int) else (cb : Int) := by unfold mn; split <;> split <;> omega
      rw [em]
      split
      · rw [place ca qa]; rfl
      · rw [place cb qb]; rfl
    · simp only [impl_LevelSystem_4.f, place a ha, place b hb, Option.bind_some]; rfl
  by_cases c : n ≤ 14
  · have v0 : val 0 n = numS false n := by simp only [val]; rw [if_pos ⟨h1, c⟩]
    have v1 : val 1 n = numS true n := by simp only [val]; rw [if_pos ⟨h1, c⟩]
    refine ⟨?_, ?_, by rw [lv]; exact specLevels n h1 h2, ?_, ?_, li⟩
    · rw [v0]; unfold spec_CountSystem.f; exact Ev.bind (specNumbers false n h1 c) (Ev.now _)
    · rw [v1]; unfold spec_BoundSystem.f; exact Ev.bind (specNumbers true n h1 c) (Ev.now _)
    · rw [v0]
      unfold impl_CountSystem.f
      simp only [within_true (x := (n : Int)) (lo := 1) (hi := 14) (by omega) (by omega), Option.bind_some, if_true]
      refine Ev.bind (implNumbers false n h1 c _ (fun a b ha hb => ?_)) (Ev.now _)
      simp only [impl_CountSystem_1.f, e1]
      unfold cB
      by_cases q : (a : Int) = (b : Int)
      · rw [if_pos q, decide_eq_true q]; rfl
      · rw [if_neg q, decide_eq_false q]
        by_cases q2 : (b : Int) = ((n + 1 : Nat) : Int)
        · rw [decide_eq_true q2, beq_iff_eq.mpr q2]; rfl
        · rw [decide_eq_false q2, beq_eq_false_iff_ne.mpr q2]; rfl
    · rw [v1]
      unfold impl_BoundSystem.f
      simp only [within_true (x := (n : Int)) (lo := 1) (hi := 14) (by omega) (by omega), Option.bind_some, if_true]
      refine Ev.bind (implNumbers true n h1 c _ (fun a b ha hb => ?_)) (Ev.now _)
      simp only [impl_BoundSystem_1.f]
      unfold cB
      by_cases q : (a : Int) ≤ (b : Int)
      · rw [decide_eq_true q]; simp
      · rw [decide_eq_false q, decide_eq_false (show ¬ (a : Int) = (b : Int) by omega), decide_eq_false (show ¬ (b : Int) = ((n + 1 : Nat) : Int) by omega)]; rfl
  · have v0 : val 0 n = z0 := by simp only [val]; rw [if_neg (by omega)]
    have v1 : val 1 n = z0 := by simp only [val]; rw [if_neg (by omega)]
    refine ⟨?_, ?_, by rw [lv]; exact specLevels n h1 h2, ?_, ?_, li⟩
    · rw [v0]; unfold spec_CountSystem.f spec_l1Numbers.f; simp only [in_false (x := (n : Int)) (lo := 1) (hi := 14) (by omega), Option.bind_some, Bool.false_eq_true, if_false]; exact Ev.now _
    · rw [v1]; unfold spec_BoundSystem.f spec_l1Numbers.f; simp only [in_false (x := (n : Int)) (lo := 1) (hi := 14) (by omega), Option.bind_some, Bool.false_eq_true, if_false]; exact Ev.now _
    · rw [v0]; unfold impl_CountSystem.f; simp only [within_false (x := (n : Int)) (lo := 1) (hi := 14) (by omega), Option.bind_some, Bool.false_eq_true, if_false]; exact Ev.now _
    · rw [v1]; unfold impl_BoundSystem.f; simp only [within_false (x := (n : Int)) (lo := 1) (hi := 14) (by omega), Option.bind_some, Bool.false_eq_true, if_false]; exact Ev.now _
theorem tab_len {α : Type} (m : Nat) (g : Int → Int → α) : (tab m g).length = m * m := tabF_len m g m 0
theorem val_size (q n : Nat) (h1 : 1 ≤ n) (h : q ≤ 1 ∧ n ≤ 14 ∨ q = 2 ∧ n ≤ 15) : ∃ m : Nat, 2 ≤ m ∧ m ≤ 16 ∧ (val q n).1 = (m : Int) ∧ (val q n).2.1.length = m * m ∧ (val q n).2.2.1.length = m * m ∧ (val q n).2.2.2.length = m * m := by
  match q, h with
  | 0, h => simp only [val]; rw [if_pos (by omega)]; exact ⟨n + 2, by omega, by omega, rfl, tab_len _ _, tab_len _ _, tab_len _ _⟩
  | 1, h => simp only [val]; rw [if_pos (by omega)]; exact ⟨n + 2, by omega, by omega, rfl, tab_len _ _, tab_len _ _, tab_len _ _⟩
  | 2, h => simp only [val]; rw [if_pos (by omega)]; exact ⟨n + 1, by omega, by omega, rfl, tab_len _ _, tab_len _ _, tab_len _ _⟩
  | q + 3, h => omega
end Go.Proofs.YtmcepfimcedocaaDoor.Pure
end

section
/- The systems that have a text of one part. -/
set_option linter.unusedSimpArgs false
set_option linter.unusedVariables false
namespace Go.Proofs.YtmcepfimcedocaaDoor.Pure
open Go.RowKit Go.Proofs.YtmcepfimcedocaaDoor.P Go.Proofs.YtmcepfimcedocaaDoorW.PrintWords Go.Proofs.YtmcepfimcedocaaDoorW.PrintLast
abbrev Nmd := S48
abbrev rdN (l : List Nmd) (i : Int) : Nmd := rd_T48 l i
def dg (n : Nat) : ByteArray := (spec_l1Decimal.f 8 (n : Int)).getD ⟨#[]⟩
def wd (q : Nat) : ByteArray := match q with
  | 0 => ⟨#[99, 111, 117, 110, 116, 32]⟩
  | 1 => ⟨#[98, 111, 117, 110, 100, 32]⟩
  | _ => ⟨#[108, 101, 118, 101, 108, 32]⟩
def nm (q n : Nat) : ByteArray := wd q ++ dg n
/-- Its number's digits. -/
structure Digits (n : Nat) : Prop where
  d : spec_l1Decimal.f 8 (n : Int) = some (dg n)
  ds : (dg n).size ≤ 2
  it : strconv_Itoa_50.f (n : Int) = some (dg n)
theorem digits : ∀ n : Nat, 1 ≤ n → n ≤ 15 → Digits n
  | 0, h, _ => by omega
  | 1, _, _ => ⟨by decide +kernel, by decide +kernel, by decide +kernel⟩
  | 2, _, _ => ⟨by decide +kernel, by decide +kernel, by decide +kernel⟩
  | 3, _, _ => ⟨by decide +kernel, by decide +kernel, by decide +kernel⟩
  | 4, _, _ => ⟨by decide +kernel, by decide +kernel, by decide +kernel⟩
  | 5, _, _ => ⟨by decide +kernel, by decide +kernel, by decide +kernel⟩
  | 6, _, _ => ⟨by decide +kernel, by decide +kernel, by decide +kernel⟩
  | 7, _, _ => ⟨by decide +kernel, by decide +kernel, by decide +kernel⟩
  | 8, _, _ => ⟨by decide +kernel, by decide +kernel, by decide +kernel⟩
  | 9, _, _ => ⟨by decide +kernel, by decide +kernel, by decide +kernel⟩
  | 10, _, _ => ⟨by decide +kernel, by decide +kernel, by decide +kernel⟩
  | 11, _, _ => ⟨by decide +kernel, by decide +kernel, by decide +kernel⟩
  | 12, _, _ => ⟨by decide +kernel, by decide +kernel, by decide +kernel⟩
  | 13, _, _ => ⟨by decide +kernel, by decide +kernel, by decide +kernel⟩
  | 14, _, _ => ⟨by decide +kernel, by decide +kernel, by decide +kernel⟩
  | 15, _, _ => ⟨by decide +kernel, by decide +kernel, by decide +kernel⟩
  | n + 16, _, h => by omega
theorem decimal_more (k : Nat) (x : Int) (r : ByteArray) : spec_l1Decimal.f k x = some r → spec_l1Decimal.f (k + 1) x = some r := by
  induction k generalizing x r with
  | zero => intro h; simp [spec_l1Decimal.f] at h
  | succ k ih =>
    intro h
    rw [spec_l1Decimal.f] at h ⊢
    simp only [Option.bind_some] at h ⊢
    split
    · rename_i c
      rw [if_pos c] at h
      obtain ⟨t, h1, h2⟩ := Option.bind_eq_some_iff.mp h
      rw [ih _ _ h1, Option.bind_some]
      exact h2
    · rename_i c
      rw [if_neg c] at h
      exact h
theorem decimalE {n : Nat} (D : Digits n) : Ev (fun k => spec_l1Decimal.f k (n : Int)) (dg n) := by
  refine ⟨8, fun k hk => ?_⟩
  obtain ⟨j, rfl⟩ : ∃ j, k = 8 + j := ⟨k - 8, by omega⟩
  induction j with
  | zero => exact D.d
  | succ j ih => exact decimal_more _ _ _ (ih (by omega))
/-- Codes: which of the three, and its number. -/
def fromC (q N : Nat) : Nat → List (Nat × Nat)
  | 0 => []
  | m + 1 => (q, N - m) :: fromC q N m
def specFrom : Nat → List (Nat × Nat)
  | 0 => []
  | m + 1 => (0, 15 - m) :: (1, 15 - m) :: (2, 15 - m) :: specFrom m
def specC : List (Nat × Nat) := specFrom 15
def implC : List (Nat × Nat) := fromC 0 14 14 ++ (fromC 1 14 14 ++ fromC 2 15 15)
def nmL (c : Nat × Nat) : List UInt8 := (nm c.1 c.2).data.toList
def look (T : List UInt8) : List (Nat × Nat) → Option (Nat × Nat)
  | [] => none
  | c :: r => if nmL c = T then some c else look T r
theorem look_none {T : List UInt8} : ∀ {l : List (Nat × Nat)}, (∀ c ∈ l, nmL c ≠ T) → look T l = none
  | [], _ => rfl
  | c :: r, h => by
    unfold look
    rw [if_neg (h c List.mem_cons_self)]
    exact look_none fun d hd => h d (List.mem_cons_of_mem _ hd)
theorem look_some {T : List UInt8} {c : Nat × Nat} : ∀ {l : List (Nat × Nat)}, look T l = some c → c ∈ l ∧ nmL c = T
  | [], h => by cases h
  | d :: r, h => by
    unfold look at h
    split at h
    · rename_i e
      obtain rfl := Option.some.inj h
      exact ⟨List.mem_cons_self, e⟩
    · obtain ⟨h1, h2⟩ := look_some h
      exact ⟨List.mem_cons_of_mem _ h1, h2⟩
def alike (T : List UInt8) : Bool := decide (look T specC = look T implC) || (decide (look T implC = none) && (decide (look T specC = some (0, 15)) || decide (look T specC = some (1, 15))))
theorem alike_all : ∀ T, alike T = true := by
  intro T
  by_cases h : ∃ c ∈ specC, nmL c = T
  · obtain ⟨c, hc, rfl⟩ := h
    have all : (specC.all fun c => alike (nmL c)) = true := by decide +kernel
    exact List.all_eq_true.mp all c hc
  · have h1 : look T specC = none := look_none fun c hc e => h ⟨c, hc, e⟩
    have sub : (implC.all fun c => specC.contains c) = true := by decide +kernel
    have h2 : look T implC = none := look_none fun c hc e => h ⟨c, by simpa using List.all_eq_true.mp sub c hc, e⟩
    unfold alike
    rw [h1, h2]; rfl
theorem val15 : val 0 15 = z0 ∧ val 1 15 = z0 := ⟨rfl, rfl⟩
theorem implC_in {c : Nat × Nat} (h : c ∈ implC) : 1 ≤ c.2 ∧ (c.1 ≤ 1 ∧ c.2 ≤ 14 ∨ c.1 = 2 ∧ c.2 ≤ 15) := by
  have all : (implC.all fun c => decide (1 ≤ c.2 ∧ (c.1 ≤ 1 ∧ c.2 ≤ 14 ∨ c.1 = 2 ∧ c.2 ≤ 15))) = true := by decide +kernel
  exact of_decide_eq_true (List.all_eq_true.mp all c h)
def valO : Option (Nat × Nat) → Sy
  | some c => val c.1 c.2
  | none => z0
/-- What is found for a text. -/
theorem found (T : List UInt8) : valO (look T specC) = valO (look T implC) := by
  have := alike_all T
  unfold alike at this
  simp only [Bool.or_eq_true, Bool.and_eq_true, decide_eq_true_eq] at this
  rcases this with h | ⟨h1, h2 | h2⟩
  · rw [h]
  · rw [h1, h2]; exact val15.1
  · rw [h1, h2]; exact val15.2
theorem nm_eq (q n : Nat) (x : ByteArray) : (nm q n).toList = x.toList ↔ nmL (q, n) = x.data.toList := by
  rw [Go.Lib.toList_data, Go.Lib.toList_data]; exact Iff.rfl
/-! ## the reference's -/
theorem specNamed (x : ByteArray) : Ev (fun k => spec_l1Named.f k x) (valO (look x.data.toList specC)) := by
  have lp : ∀ m : Nat, m ≤ 15 → Ev (fun k => spec_l1Named.l0 k x ((16 - m : Nat) : Int)) (valO (look x.data.toList (specFrom m))) := by
    intro m
    induction m with
    | zero =>
      intro _
      refine Ev.step (f := fun _ => some z0) (fun k => ?_) (Ev.now _)
      simp only [spec_l1Named.l0]; rw [if_neg (by omega)]; rfl
    | succ m ih =>
      intro hm
      have F := facts (15 - m) (by omega) (by omega)
      have D := digits (15 - m) (by omega) (by omega)
      have e : 16 - (m + 1) = 15 - m := by omega
      have up : wrap64 (((15 - m : Nat) : Int) + 1) = ((16 - m : Nat) : Int) := by rw [w64 (by omega) (by omega)]; omega
      have q0 : ∀ q, x.toList = (wd q ++ dg (15 - m)).toList ↔ nmL (q, 15 - m) = x.data.toList := fun q => by
        rw [eq_comm]; exact nm_eq q (15 - m) x
      have sz : 6 + (dg (15 - m)).size ≤ 9223372036854775807 := by have := D.ds; omega
      rw [e]
      refine Ev.step (f := fun k => (spec_l1Decimal.f k ((15 - m : Nat) : Int)).bind fun d => if 6 + d.size ≤ 9223372036854775807 then (if x.toList = (wd 0 ++ d).toList then (spec_CountSystem.f k ((15 - m : Nat) : Int)).bind fun s => some (s.1, s.2.1, s.2.2.1, s.2.2.2) else if x.toList = (wd 1 ++ d).toList then (spec_BoundSystem.f k ((15 - m : Nat) : Int)).bind fun s => some (s.1, s.2.1, s.2.2.1, s.2.2.2) else if x.toList = (wd 2 ++ d).toList then (spec_LevelSystem.f k ((15 - m : Nat) : Int)).bind fun s => some (s.1, s.2.1, s.2.2.1, s.2.2.2) else spec_l1Named.l0 k x ((16 - m : Nat) : Int)) else none) (fun k => ?_) (Ev.bind (decimalE D) ?_)
      · simp only [spec_l1Named.l0]; rw [if_pos (by omega), up]; rfl
      · simp only [if_pos sz]
        by_cases c0 : nmL (0, 15 - m) = x.data.toList
        · refine evCongr (fun k => if_pos ((q0 0).mpr c0)) ?_
          unfold specFrom look
          rw [if_pos c0]
          exact Ev.bind F.c (Ev.now _)
        · refine evCongr (fun k => if_neg (fun h => c0 ((q0 0).mp h))) ?_
          by_cases c1 : nmL (1, 15 - m) = x.data.toList
          · refine evCongr (fun k => if_pos ((q0 1).mpr c1)) ?_
            unfold specFrom look
            rw [if_neg c0]
            unfold look
            rw [if_pos c1]
            exact Ev.bind F.b (Ev.now _)
          · refine evCongr (fun k => if_neg (fun h => c1 ((q0 1).mp h))) ?_
            by_cases c2 : nmL (2, 15 - m) = x.data.toList
            · refine evCongr (fun k => if_pos ((q0 2).mpr c2)) ?_
              unfold specFrom look
              rw [if_neg c0]
              unfold look
              rw [if_neg c1]
              unfold look
              rw [if_pos c2]
              exact Ev.bind F.l (Ev.now _)
            · refine evCongr (fun k => if_neg (fun h => c2 ((q0 2).mp h))) ?_
              unfold specFrom look
              rw [if_neg c0]
              unfold look
              rw [if_neg c1]
              unfold look
              rw [if_neg c2]
              exact ih (by omega)
  have := lp 15 (by omega)
  exact this
/-! ## the program's -/
def ent (c : Nat × Nat) : Nmd := ⟨nm c.1 c.2, ⟨(val c.1 c.2).1, (val c.1 c.2).2.1, (val c.1 c.2).2.2.1, (val c.1 c.2).2.2.2⟩⟩
theorem simpleE : Ev (fun k => impl_simple.f k) (implC.map ent) := by
  have l2 : ∀ (m : Nat) (acc : List Nmd), m ≤ 15 → acc.length + m ≤ 100 → Ev (fun k => impl_simple.l2 k acc ((16 - m : Nat) : Int)) (acc ++ (fromC 2 15 m).map ent) := by
    intro m
    induction m with
    | zero =>
      intro acc _ _
      refine Ev.step (f := fun _ => some acc) (fun k => ?_) (by simpa [fromC] using Ev.now acc)
      simp only [impl_simple.l2]; rw [if_neg (by omega)]
    | succ m ih =>
      intro acc hm hl
      have F := facts (15 - m) (by omega) (by omega)
      have D := digits (15 - m) (by omega) (by omega)
      have e : 16 - (m + 1) = 15 - m := by omega
      have up : wrap64 (((15 - m : Nat) : Int) + 1) = ((16 - m : Nat) : Int) := by rw [w64 (by omega) (by omega)]; omega
      have sz : 6 + (dg (15 - m)).size ≤ 9223372036854775807 := by have := D.ds; omega
      have ln : acc.length < 1466015503701 := by omega
      have nx := ih (acc ++ [ent (2, 15 - m)]) (by omega) (by simp; omega)
      rw [e]
      rw [List.append_assoc] at nx
      refine Ev.step (f := fun k => (impl_LevelSystem.f k ((15 - m : Nat) : Int)).bind fun s => impl_simple.l2 k (acc ++ [⟨nm 2 (15 - m), ⟨s.1, s.2.1, s.2.2.1, s.2.2.2⟩⟩]) ((16 - m : Nat) : Int)) (fun k => ?_) (Ev.bind F.li nx)
      simp only [impl_simple.l2, D.it, Option.bind_some, if_pos sz, if_pos ln, up]; rw [if_pos (by omega)]; rfl
  have l1 : ∀ (m : Nat) (acc : List Nmd), m ≤ 14 → acc.length + m ≤ 80 → Ev (fun k => impl_simple.l1 k acc ((15 - m : Nat) : Int)) (acc ++ ((fromC 1 14 m).map ent ++ (fromC 2 15 15).map ent)) := by
    intro m
    induction m with
    | zero =>
      intro acc _ hl
      refine Ev.step (f := fun k => impl_simple.l2 k acc ((16 - 15 : Nat) : Int)) (fun k => ?_) (by simpa [fromC] using l2 15 acc (by omega) (by omega))
      simp only [impl_simple.l1]; rw [if_neg (by omega)]; rfl
    | succ m ih =>
      intro acc hm hl
      have F := facts (14 - m) (by omega) (by omega)
      have D := digits (14 - m) (by omega) (by omega)
      have e : 15 - (m + 1) = 14 - m := by omega
      have up : wrap64 (((14 - m : Nat) : Int) + 1) = ((15 - m : Nat) : Int) := by rw [w64 (by omega) (by omega)]; omega
      have sz : 6 + (dg (14 - m)).size ≤ 9223372036854775807 := by have := D.ds; omega
      have ln : acc.length < 1466015503701 := by omega
      have nx := ih (acc ++ [ent (1, 14 - m)]) (by omega) (by simp; omega)
      rw [e]
      rw [List.append_assoc] at nx
      refine Ev.step (f := fun k => (impl_BoundSystem.f k ((14 - m : Nat) : Int)).bind fun s => impl_simple.l1 k (acc ++ [⟨nm 1 (14 - m), ⟨s.1, s.2.1, s.2.2.1, s.2.2.2⟩⟩]) ((15 - m : Nat) : Int)) (fun k => ?_) (Ev.bind F.bi nx)
      simp only [impl_simple.l1, D.it, Option.bind_some, if_pos sz, if_pos ln, up]; rw [if_pos (by omega)]; rfl
  have l0 : ∀ (m : Nat) (acc : List Nmd), m ≤ 14 → acc.length + m ≤ 60 → Ev (fun k => impl_simple.l0 k acc ((15 - m : Nat) : Int)) (acc ++ ((fromC 0 14 m).map ent ++ ((fromC 1 14 14).map ent ++ (fromC 2 15 15).map ent))) := by
    intro m
    induction m with
    | zero =>
      intro acc _ hl
      refine Ev.step (f := fun k => impl_simple.l1 k acc ((15 - 14 : Nat) : Int)) (fun k => ?_) (by simpa [fromC] using l1 14 acc (by omega) (by omega))
      simp only [impl_simple.l0]; rw [if_neg (by omega)]; rfl
    | succ m ih =>
      intro acc hm hl
      have F := facts (14 - m) (by omega) (by omega)
      have D := digits (14 - m) (by omega) (by omega)
      have e : 15 - (m + 1) = 14 - m := by omega
      have up : wrap64 (((14 - m : Nat) : Int) + 1) = ((15 - m : Nat) : Int) := by rw [w64 (by omega) (by omega)]; omega
      have sz : 6 + (dg (14 - m)).size ≤ 9223372036854775807 := by have := D.ds; omega
      have ln : acc.length < 1466015503701 := by omega
      have nx := ih (acc ++ [ent (0, 14 - m)]) (by omega) (by simp; omega)
      rw [e]
      rw [List.append_assoc] at nx
      refine Ev.step (f := fun k => (impl_CountSystem.f k ((14 - m : Nat) : Int)).bind fun s => impl_simple.l0 k (acc ++ [⟨nm 0 (14 - m), ⟨s.1, s.2.1, s.2.2.1, s.2.2.2⟩⟩]) ((15 - m : Nat) : Int)) (fun k => ?_) (Ev.bind F.ci nx)
      simp only [impl_simple.l0, D.it, Option.bind_some, if_pos sz, if_pos ln, up]; rw [if_pos (by omega)]; rfl
  have := l0 14 [] (by omega) (by simp)
  unfold implC
  rw [List.map_append, List.map_append]
  exact this
end Go.Proofs.YtmcepfimcedocaaDoor.Pure
end
