/- FormatSystem: both searches find one text. -/
import Derived.Test.YtmcepfimcedocaaDoorPf8
import Derived.Test.YtmcepfimcedocaaDoorPf6
import Derived.Test.YtmcepfimcedocaaDoorM17
import Derived.Test.YtmcepfimcedocaaDoorM19
import Derived.Test.YtmcepfimcedocaaDoorM18
set_option linter.unusedSimpArgs false
set_option linter.unusedVariables false
namespace Go.Proofs.YtmcepfimcedocaaDoor.Pure
open Go.RowKit Go.Proofs.YtmcepfimcedocaaDoor.P Go.Proofs.YtmcepfimcedocaaDoorW.PrintWords Go.Proofs.YtmcepfimcedocaaDoorW.PrintLast
abbrev Cd := Nat × Nat
theorem look_self {c : Cd} (h : c ∈ implC) : look (nmL c) implC = some c := by
  have all : (implC.all fun c => decide (look (nmL c) implC = some c)) = true := by decide +kernel
  exact of_decide_eq_true (List.all_eq_true.mp all c h)
theorem namedE {c : Cd} (h : c ∈ implC) : Ev (fun k => spec_l1Named.f k (nmB c)) (val c.1 c.2) := by
  have e := specNamed (nmB c)
  have f : valO (look (nmB c).data.toList specC) = val c.1 c.2 := by
    have q : (nmB c).data.toList = nmL c := rfl
    rw [found, q, look_self h]; rfl
  rw [f] at e
  exact e
theorem nmB_size {c : Cd} (h : c ∈ implC) : (nmB c).size ≤ 8 := by
  have all : (implC.all fun c => decide ((nmB c).size ≤ 8)) = true := by decide +kernel
  exact of_decide_eq_true (List.all_eq_true.mp all c h)
noncomputable def pv (c d : Cd) : Int × List Int × List Int × List Bool × Bool :=
  Classical.choose (prod5 (val c.1 c.2).1 (val c.1 c.2).2.1 (val c.1 c.2).2.2.1 (val c.1 c.2).2.2.2 (val d.1 d.2).1 (val d.1 d.2).2.1 (val d.1 d.2).2.2.1 (val d.1 d.2).2.2.2)
theorem pv_is (c d : Cd) : Prod5 (val c.1 c.2).1 (val c.1 c.2).2.1 (val c.1 c.2).2.2.1 (val c.1 c.2).2.2.2 (val d.1 d.2).1 (val d.1 d.2).2.1 (val d.1 d.2).2.2.1 (val d.1 d.2).2.2.2 (pv c d) :=
  Classical.choose_spec (prod5 (val c.1 c.2).1 (val c.1 c.2).2.1 (val c.1 c.2).2.2.1 (val c.1 c.2).2.2.2 (val d.1 d.2).1 (val d.1 d.2).2.1 (val d.1 d.2).2.2.1 (val d.1 d.2).2.2.2)
def prt (r : Int × List Int × List Int × List Bool × Bool) : Sy := (r.1, r.2.1, r.2.2.1, r.2.2.2.1)
def star : ByteArray := ⟨#[42]⟩
def hit (s : Sy) (c d : Cd) : Prop := wrap64 ((val c.1 c.2).1 * (val d.1 d.2).1) = s.1 ∧ (pv c d).2.2.2.2 = true ∧ prt (pv c d) = s
open Classical in
noncomputable def row (s : Sy) (c : Cd) (r : ByteArray) : List Cd → ByteArray
  | [] => r
  | d :: ds => if hit s c d then nmB c ++ star ++ nmB d else row s c r ds
noncomputable def all2 (s : Sy) : List Cd → ByteArray
  | [] => ⟨#[]⟩
  | c :: cs => row s c (all2 s cs) implC
def lenOk (s : Sy) : Prop := s.2.1.length ≤ 1048576 ∧ s.2.2.1.length ≤ 1048576 ∧ s.2.2.2.length ≤ 1048576
noncomputable def all1 (s : Sy) : List Cd → ByteArray
  | [] => all2 s implC
  | c :: cs => if val c.1 c.2 = s then nmB c else all1 s cs
theorem row_none {s : Sy} {c : Cd} {r : ByteArray} : ∀ {l : List Cd}, (∀ d ∈ l, ¬ hit s c d) → row s c r l = r
  | [], _ => rfl
  | d :: ds, h => by
    unfold row
    rw [if_neg (h d List.mem_cons_self)]
    exact row_none fun e he => h e (List.mem_cons_of_mem _ he)
theorem all2_none {s : Sy} : ∀ {l : List Cd}, (∀ c ∈ l, ∀ d ∈ implC, ¬ hit s c d) → all2 s l = ⟨#[]⟩
  | [], _ => rfl
  | c :: cs, h => by
    unfold all2
    rw [row_none (h c List.mem_cons_self)]
    exact all2_none fun e he => h e (List.mem_cons_of_mem _ he)
theorem all1_none {s : Sy} (h2 : all2 s implC = ⟨#[]⟩) : ∀ {l : List Cd}, (∀ c ∈ l, val c.1 c.2 ≠ s) → all1 s l = ⟨#[]⟩
  | [], _ => h2
  | c :: cs, h => by
    unfold all1
    rw [if_neg (h c List.mem_cons_self)]
    exact all1_none h2 fun e he => h e (List.mem_cons_of_mem _ he)
/-- Of what is no system there is no text. -/
theorem no_text {s : Sy} (h : sysV s.1 s.2.1 s.2.2.1 s.2.2.2 = false) : all1 s implC = ⟨#[]⟩ := by
  refine all1_none (all2_none fun c hc d hd q => ?_) fun c hc e => ?_
  · have := (pv_is c d).sys q.2.1
    have e := q.2.2
    rw [← e] at h
    rw [show sysV (prt (pv c d)).1 (prt (pv c d)).2.1 (prt (pv c d)).2.2.1 (prt (pv c d)).2.2.2 = true from this] at h
    cases h
  · have := val_sys hc
    rw [e, h] at this
    cases this
theorem at_ent {pre rest : List Cd} {c : Cd} (h : pre ++ c :: rest = implC) : rdN (implC.map ent) (pre.length : Int) = ent c := by
  rw [← h, List.map_append, List.map_cons]
  show (pre.map ent ++ ent c :: rest.map ent).getD ((pre.length : Int)).toNat _ = ent c
  rw [Int.toNat_natCast, List.getD_eq_getElem?_getD, List.getElem?_append_right (by rw [List.length_map]; exact Nat.le_refl _)]; simp
theorem at_nm {pre rest : List Cd} {c : Cd} (h : pre ++ c :: rest = implC) : rdOf ByteArray.empty (implC.map nmB) (pre.length : Int) = nmB c := by
  rw [← h, List.map_append, List.map_cons]
  show (pre.map nmB ++ nmB c :: rest.map nmB).getD ((pre.length : Int)).toNat _ = nmB c
  rw [Int.toNat_natCast, List.getD_eq_getElem?_getD, List.getElem?_append_right (by rw [List.length_map]; exact Nat.le_refl _)]; simp
theorem at_len {pre rest : List Cd} (h : pre ++ rest = implC) : pre.length + rest.length = 43 := by
  rw [← List.length_append, h]; decide +kernel
theorem val_len {c : Cd} (h : c ∈ implC) : lenOk (val c.1 c.2) ∧ ∃ m : Nat, 2 ≤ m ∧ m ≤ 16 ∧ (val c.1 c.2).1 = (m : Int) := by
  obtain ⟨h1, h2⟩ := implC_in h
  obtain ⟨m, m1, m2, m3, m4, m5, m6⟩ := val_size c.1 c.2 h1 h2
  have : m * m ≤ 16 * 16 := Nat.mul_le_mul m2 m2
  exact ⟨⟨by omega, by omega, by omega⟩, m, m1, m2, m3⟩
theorem sizes_ok {c d : Cd} (hc : c ∈ implC) (hd : d ∈ implC) : (nmB c).size + 1 ≤ 9223372036854775807 ∧ (nmB c ++ star).size + (nmB d).size ≤ 9223372036854775807 := by
  have := nmB_size hc
  have := nmB_size hd
  have : star.size = 1 := rfl
  exact ⟨by omega, by rw [ByteArray.size_append]; omega⟩
theorem mem_at {pre rest : List Cd} {c : Cd} (h : pre ++ c :: rest = implC) : c ∈ implC := by rw [← h]; simp
/-! ## The program's -/
theorem implRow (s : Sy) {c : Cd} (hc : c ∈ implC) (i : Nat) (hi : i < 43) {r : ByteArray}
    (nx : Ev (fun k => impl_FormatSystem.l1 k (implC.map ent) (implC.map ent) ((implC.map ent).length : Int) ((i + 1 : Nat) : Int) s.1 s.2.1 s.2.2.1 s.2.2.2) r) :
    ∀ rest pre : List Cd, pre ++ rest = implC → Ev (fun k => impl_FormatSystem.l2 k (implC.map ent) (implC.map ent) ((implC.map ent).length : Int) (i : Int) (implC.map ent) ((implC.map ent).length : Int) (pre.length : Int) s.1 s.2.1 s.2.2.1 s.2.2.2 (nmB c) (val c.1 c.2).1 (val c.1 c.2).2.1 (val c.1 c.2).2.2.1 (val c.1 c.2).2.2.2) (row s c r rest) := by
  intro rest
  induction rest with
  | nil =>
    intro pre h
    have hl := at_len h
    have n43 : ((implC.map ent).length : Int) = 43 := by rw [List.length_map]; decide +kernel
    have up : wrap64 ((i : Int) + 1) = ((i + 1 : Nat) : Int) := by rw [w64 (by omega) (by omega)]; omega
    refine Ev.step (fun k => ?_) nx
    simp only [impl_FormatSystem.l2]
    rw [if_neg (by rw [n43]; simp at hl; omega), up]
  | cons d rest ih =>
    intro pre h
    have hl := at_len h
    have hd := mem_at h
    have n43 : ((implC.map ent).length : Int) = 43 := by rw [List.length_map]; decide +kernel
    have ln : (pre.length : Int) < ((implC.map ent).length : Int) := by rw [n43]; simp at hl; omega
    have up : wrap64 ((pre.length : Int) + 1) = (((pre ++ [d]).length : Nat) : Int) := by
      simp at hl
      rw [w64 (by omega) (by omega), List.length_append]; simp
    have ae := at_ent h
    have ae' : rd_T48 (implC.map ent) (pre.length : Int) = ent d := ae
    have nxt := ih (pre ++ [d]) (by rw [List.append_assoc]; exact h)
    obtain ⟨z1, z2⟩ := sizes_ok hc hd
    have Q := pv_is c d
    have same := implSame (prt (pv c d)) s Q.len.1 Q.len.2.1 Q.len.2.2
    refine Ev.step (f := fun k => if wrap64 ((val c.1 c.2).1 * (val d.1 d.2).1) = s.1 then ((impl_ProductSystem.f k (val c.1 c.2).1 (val c.1 c.2).2.1 (val c.1 c.2).2.2.1 (val c.1 c.2).2.2.2 (val d.1 d.2).1 (val d.1 d.2).2.1 (val d.1 d.2).2.2.1 (val d.1 d.2).2.2.2).bind fun bt => if bt.2.2.2.2 = true then ((impl_sameSystems.f k bt.1 bt.2.1 bt.2.2.1 bt.2.2.2.1 s.1 s.2.1 s.2.2.1 s.2.2.2).bind fun t => if t = true then (if (nmB c).size + 1 ≤ 9223372036854775807 then (if (nmB c ++ star).size + (nmB d).size ≤ 9223372036854775807 then some (nmB c ++ star ++ nmB d) else none) else none) else impl_FormatSystem.l2 k (implC.map ent) (implC.map ent) ((implC.map ent).length : Int) (i : Int) (implC.map ent) ((implC.map ent).length : Int) ((pre ++ [d]).length : Int) s.1 s.2.1 s.2.2.1 s.2.2.2 (nmB c) (val c.1 c.2).1 (val c.1 c.2).2.1 (val c.1 c.2).2.2.1 (val c.1 c.2).2.2.2) else impl_FormatSystem.l2 k (implC.map ent) (implC.map ent) ((implC.map ent).length : Int) (i : Int) (implC.map ent) ((implC.map ent).length : Int) ((pre ++ [d]).length : Int) s.1 s.2.1 s.2.2.1 s.2.2.2 (nmB c) (val c.1 c.2).1 (val c.1 c.2).2.1 (val c.1 c.2).2.2.1 (val c.1 c.2).2.2.2) else impl_FormatSystem.l2 k (implC.map ent) (implC.map ent) ((implC.map ent).length : Int) (i : Int) (implC.map ent) ((implC.map ent).length : Int) ((pre ++ [d]).length : Int) s.1 s.2.1 s.2.2.1 s.2.2.2 (nmB c) (val c.1 c.2).1 (val c.1 c.2).2.1 (val c.1 c.2).2.2.1 (val c.1 c.2).2.2.2) (fun k => ?_) ?_
    · simp only [impl_FormatSystem.l2]
      rw [if_pos ln, if_pos (by omega), if_pos ln, ae', up]; rfl
    · unfold row
      by_cases a : wrap64 ((val c.1 c.2).1 * (val d.1 d.2).1) = s.1
      · refine evCongr (fun k => if_pos a) ?_
        refine Ev.bind Q.impl ?_
        cases b : (pv c d).2.2.2.2 with
        | false =>
          rw [if_neg (fun q : hit s c d => Bool.noConfusion (b.symm.trans q.2.1))]
          simp only [Bool.false_eq_true, if_false]
          exact nxt
        | true =>
          simp only [if_true]
          refine Ev.bind same ?_
          by_cases e : prt (pv c d) = s
          · rw [if_pos (show hit s c d from ⟨a, b, e⟩), decide_eq_true e]
            simp only [if_true, if_pos z1, if_pos z2]
            exact Ev.now _
          · rw [if_neg (fun q : hit s c d => e q.2.2), decide_eq_false e]
            simp only [Bool.false_eq_true, if_false]
            exact nxt
      · refine evCongr (fun k => if_neg a) ?_
        rw [if_neg (fun q : hit s c d => a q.1)]
        exact nxt
theorem implAll2 (s : Sy) : ∀ rest pre : List Cd, pre ++ rest = implC → Ev (fun k => impl_FormatSystem.l1 k (implC.map ent) (implC.map ent) ((implC.map ent).length : Int) (pre.length : Int) s.1 s.2.1 s.2.2.1 s.2.2.2) (all2 s rest) := by
  intro rest
  induction rest with
  | nil =>
    intro pre h
    have hl := at_len h
    have n43 : ((implC.map ent).length : Int) = 43 := by rw [List.length_map]; decide +kernel
    refine Ev.step (f := fun _ => some (⟨#[]⟩ : ByteArray)) (fun k => ?_) (Ev.now _)
    simp only [impl_FormatSystem.l1]
    rw [if_neg (by rw [n43]; simp at hl; omega)]
  | cons c rest ih =>
    intro pre h
    have hl := at_len h
    have hc := mem_at h
    have n43 : ((implC.map ent).length : Int) = 43 := by rw [List.length_map]; decide +kernel
    have ln : (pre.length : Int) < ((implC.map ent).length : Int) := by rw [n43]; simp at hl; omega
    have ae := at_ent h
    have ae' : rd_T48 (implC.map ent) (pre.length : Int) = ent c := ae
    have nxt := ih (pre ++ [c]) (by rw [List.append_assoc]; exact h)
    rw [List.length_append] at nxt
    have rw1 := implRow s hc pre.length (by simp at hl; omega) nxt implC [] rfl
    refine Ev.step (fun k => ?_) rw1
    simp only [impl_FormatSystem.l1]
    rw [if_pos ln, if_pos (by omega), if_pos ln, ae']; rfl
theorem implAll1 (s : Sy) : ∀ rest pre : List Cd, pre ++ rest = implC → Ev (fun k => impl_FormatSystem.l0 k (implC.map ent) (implC.map ent) ((implC.map ent).length : Int) (pre.length : Int) s.1 s.2.1 s.2.2.1 s.2.2.2) (all1 s rest) := by
  intro rest
  induction rest with
  | nil =>
    intro pre h
    have hl := at_len h
    have n43 : ((implC.map ent).length : Int) = 43 := by rw [List.length_map]; decide +kernel
    refine Ev.step (fun k => ?_) (implAll2 s implC [] rfl)
    simp only [impl_FormatSystem.l0]
    rw [if_neg (by rw [n43]; simp at hl; omega)]; rfl
  | cons c rest ih =>
    intro pre h
    have hl := at_len h
    have hc := mem_at h
    have n43 : ((implC.map ent).length : Int) = 43 := by rw [List.length_map]; decide +kernel
    have ln : (pre.length : Int) < ((implC.map ent).length : Int) := by rw [n43]; simp at hl; omega
    have up : wrap64 ((pre.length : Int) + 1) = (((pre ++ [c]).length : Nat) : Int) := by
      simp at hl
      rw [w64 (by omega) (by omega), List.length_append]; simp
    have ae := at_ent h
    have ae' : rd_T48 (implC.map ent) (pre.length : Int) = ent c := ae
    have nxt := ih (pre ++ [c]) (by rw [List.append_assoc]; exact h)
    obtain ⟨⟨v1, v2, v3⟩, _⟩ := val_len hc
    refine Ev.step (f := fun k => (impl_sameSystems.f k (val c.1 c.2).1 (val c.1 c.2).2.1 (val c.1 c.2).2.2.1 (val c.1 c.2).2.2.2 s.1 s.2.1 s.2.2.1 s.2.2.2).bind fun t => if t = true then some (nmB c) else impl_FormatSystem.l0 k (implC.map ent) (implC.map ent) ((implC.map ent).length : Int) ((pre ++ [c]).length : Int) s.1 s.2.1 s.2.2.1 s.2.2.2) (fun k => ?_) (Ev.bind (implSame (val c.1 c.2) s v1 v2 v3) ?_)
    · simp only [impl_FormatSystem.l0]
      rw [if_pos ln, if_pos (by omega), if_pos ln, ae', up]; rfl
    · unfold all1
      by_cases e : val c.1 c.2 = s
      · rw [if_pos e, decide_eq_true e]; simp only [if_true]; exact Ev.now _
      · rw [if_neg e, decide_eq_false e]; simp only [Bool.false_eq_true, if_false]; exact nxt
theorem implFmt (n : Int) (p t : List Int) (b : List Bool) : Ev (fun k => impl_FormatSystem.f k n p t b) (all1 (n, p, t, b) implC) := by
  unfold impl_FormatSystem.f
  refine Ev.bind simpleE ?_
  unfold impl_FormatSystem.g
  exact implAll1 (n, p, t, b) implC [] rfl
/-! ## The reference's -/
theorem specRow (s : Sy) (hs : lenOk s) (h2 : 2 ≤ s.1) {c : Cd} (hc : c ∈ implC) (i : Nat) (hi : i < 43) (hn : rdOf ByteArray.empty (implC.map nmB) (i : Int) = nmB c) (dv : Int.tmod s.1 (val c.1 c.2).1 = 0) {r : ByteArray}
    (nx : Ev (fun k => spec_FormatSystem.l1 k (implC.map nmB) ((i + 1 : Nat) : Int) s.1 s.2.1 s.2.2.1 s.2.2.2) r) :
    ∀ rest pre : List Cd, pre ++ rest = implC → Ev (fun k => spec_FormatSystem.l2 k (implC.map nmB) (i : Int) (pre.length : Int) s.1 s.2.1 s.2.2.1 s.2.2.2 (val c.1 c.2).1 (val c.1 c.2).2.1 (val c.1 c.2).2.2.1 (val c.1 c.2).2.2.2) (row s c r rest) := by
  have n43 : ((implC.map nmB).length : Int) = 43 := by rw [List.length_map]; decide +kernel
  obtain ⟨_, m, m1, m2, m3⟩ := val_len hc
  have li : (i : Int) < ((implC.map nmB).length : Int) := by rw [n43]; omega
  intro rest
  induction rest with
  | nil =>
    intro pre h
    have hl := at_len h
    have up : wrap64 ((i : Int) + 1) = ((i + 1 : Nat) : Int) := by rw [w64 (by omega) (by omega)]; omega
    refine Ev.step (f := fun k => spec_FormatSystem.j3 k (implC.map nmB) (i : Int) (pre.length : Int) false s.1 s.2.1 s.2.2.1 s.2.2.2 (val c.1 c.2).1 (val c.1 c.2).2.1 (val c.1 c.2).2.2.1 (val c.1 c.2).2.2.2) (fun k => ?_) (Ev.step (fun k => ?_) nx)
    · simp only [spec_FormatSystem.l2]
      rw [if_neg (by rw [n43]; simp at hl; omega)]
    · simp only [spec_FormatSystem.j3, Bool.false_eq_true, if_false]
      rw [up]
  | cons d rest ih =>
    intro pre h
    have hl := at_len h
    have hd := mem_at h
    have ln : (pre.length : Int) < ((implC.map nmB).length : Int) := by rw [n43]; simp at hl; omega
    have up : wrap64 ((pre.length : Int) + 1) = (((pre ++ [d]).length : Nat) : Int) := by
      simp at hl
      rw [w64 (by omega) (by omega), List.length_append]; simp
    have an := at_nm h
    have nxt := ih (pre ++ [d]) (by rw [List.append_assoc]; exact h)
    obtain ⟨z1, z2⟩ := sizes_ok hc hd
    have Q := pv_is c d
    have same := specSame s (prt (pv c d)) hs.1 hs.2.1 hs.2.2
    refine Ev.step (f := fun k => spec_FormatSystem.j3 k (implC.map nmB) (i : Int) (pre.length : Int) true s.1 s.2.1 s.2.2.1 s.2.2.2 (val c.1 c.2).1 (val c.1 c.2).2.1 (val c.1 c.2).2.2.1 (val c.1 c.2).2.2.2) (fun k => ?_) (Ev.step (f := fun k => (spec_l1Named.f k (nmB d)).bind fun v => if wrap64 ((val c.1 c.2).1 * v.1) = s.1 then ((spec_ProductSystem.f k (val c.1 c.2).1 (val c.1 c.2).2.1 (val c.1 c.2).2.2.1 (val c.1 c.2).2.2.2 v.1 v.2.1 v.2.2.1 v.2.2.2).bind fun bt => (spec_l1Equal.f k s.1 s.2.1 s.2.2.1 s.2.2.2 bt.1 bt.2.1 bt.2.2.1 bt.2.2.2.1).bind fun t => if t = true then (if (nmB c).size + 1 ≤ 9223372036854775807 then (if (nmB c ++ star).size + (nmB d).size ≤ 9223372036854775807 then some (nmB c ++ star ++ nmB d) else none) else none) else spec_FormatSystem.l2 k (implC.map nmB) (i : Int) ((pre ++ [d]).length : Int) s.1 s.2.1 s.2.2.1 s.2.2.2 (val c.1 c.2).1 (val c.1 c.2).2.1 (val c.1 c.2).2.2.1 (val c.1 c.2).2.2.2) else spec_FormatSystem.l2 k (implC.map nmB) (i : Int) ((pre ++ [d]).length : Int) s.1 s.2.1 s.2.2.1 s.2.2.2 (val c.1 c.2).1 (val c.1 c.2).2.1 (val c.1 c.2).2.2.1 (val c.1 c.2).2.2.2) (fun k => ?_) (Ev.bind (namedE hd) ?_))
    · simp only [spec_FormatSystem.l2]
      rw [if_pos ln, if_pos (by omega), if_neg (by omega), dv]; rfl
    · simp only [spec_FormatSystem.j3, if_true]
      rw [if_pos (by omega), if_pos ln, an, hn, up]
      simp only [if_pos (show (0 : Int) ≤ (i : Int) by omega), if_pos li]
      rfl
    · unfold row
      by_cases a : wrap64 ((val c.1 c.2).1 * (val d.1 d.2).1) = s.1
      · simp only [if_pos a]
        refine Ev.bind Q.spec ?_
        refine Ev.bind same ?_
        by_cases e : s = prt (pv c d)
        · have b : (pv c d).2.2.2.2 = true := by
            cases b : (pv c d).2.2.2.2 with
            | true => rfl
            | false =>
              have := Q.non b
              rw [e] at h2
              have : (prt (pv c d)).1 = 0 := this
              omega
          rw [if_pos (show hit s c d from ⟨a, b, e.symm⟩), decide_eq_true e]
          simp only [if_true, if_pos z1, if_pos z2]
          exact Ev.now _
        · rw [if_neg (fun q : hit s c d => e q.2.2.symm), decide_eq_false e]
          simp only [Bool.false_eq_true, if_false]
          exact nxt
      · simp only [if_neg a]
        rw [if_neg (fun q : hit s c d => a q.1)]
        exact nxt
theorem row_div (s : Sy) {c : Cd} (hc : c ∈ implC) (dv : Int.tmod s.1 (val c.1 c.2).1 ≠ 0) (r : ByteArray) : row s c r implC = r := by
  refine row_none fun d hd q => dv ?_
  obtain ⟨_, m, m1, m2, m3⟩ := val_len hc
  obtain ⟨_, m', k1, k2, k3⟩ := val_len hd
  have := q.1
  rw [m3, k3] at this
  have b := mul_small (a := m - 1) (b := m' - 1) (by omega) (by omega)
  have hm : m * m' ≤ 16 * 16 := Nat.mul_le_mul m2 k2
  have e : (m : Int) * (m' : Int) = ((m * m' : Nat) : Int) := by push_cast; rfl
  rw [w64 (by omega) (by omega)] at this
  rw [m3, ← this]
  exact Int.mul_tmod_right _ _
theorem specAll2 (s : Sy) (hs : lenOk s) (h2 : 2 ≤ s.1) : ∀ rest pre : List Cd, pre ++ rest = implC → Ev (fun k => spec_FormatSystem.l1 k (implC.map nmB) (pre.length : Int) s.1 s.2.1 s.2.2.1 s.2.2.2) (all2 s rest) := by
  have n43 : ((implC.map nmB).length : Int) = 43 := by rw [List.length_map]; decide +kernel
  intro rest
  induction rest with
  | nil =>
    intro pre h
    have hl := at_len h
    refine Ev.step (f := fun _ => some (⟨#[]⟩ : ByteArray)) (fun k => ?_) (Ev.now _)
    simp only [spec_FormatSystem.l1]
    rw [if_neg (by rw [n43]; simp at hl; omega)]
  | cons c rest ih =>
    intro pre h
    have hl := at_len h
    have hc := mem_at h
    have ln : (pre.length : Int) < ((implC.map nmB).length : Int) := by rw [n43]; simp at hl; omega
    have an := at_nm h
    have nxt := ih (pre ++ [c]) (by rw [List.append_assoc]; exact h)
    rw [List.length_append] at nxt
    obtain ⟨_, m, m1, m2, m3⟩ := val_len hc
    refine Ev.step (f := fun k => (spec_l1Named.f k (nmB c)).bind fun v => spec_FormatSystem.l2 k (implC.map nmB) (pre.length : Int) 0 s.1 s.2.1 s.2.2.1 s.2.2.2 v.1 v.2.1 v.2.2.1 v.2.2.2) (fun k => ?_) (Ev.bind (namedE hc) ?_)
    · simp only [spec_FormatSystem.l1]
      rw [if_pos ln, if_pos (by omega), an]
    · unfold all2
      by_cases dv : Int.tmod s.1 (val c.1 c.2).1 = 0
      · exact specRow s hs h2 hc pre.length (by simp at hl; omega) an dv nxt implC [] rfl
      · rw [row_div s hc dv]
        have up : wrap64 ((pre.length : Int) + 1) = ((pre.length + [c].length : Nat) : Int) := by
          simp at hl
          rw [w64 (by omega) (by omega)]; simp
        refine Ev.step (f := fun k => spec_FormatSystem.j3 k (implC.map nmB) (pre.length : Int) 0 false s.1 s.2.1 s.2.2.1 s.2.2.2 (val c.1 c.2).1 (val c.1 c.2).2.1 (val c.1 c.2).2.2.1 (val c.1 c.2).2.2.2) (fun k => ?_) (Ev.step (fun k => ?_) nxt)
        · simp only [spec_FormatSystem.l2]
          rw [if_pos (by rw [n43]; omega), if_pos (by omega), if_neg (by omega), show (Int.tmod s.1 (val c.1 c.2).1 == 0) = false from by rw [beq_eq_false_iff_ne]; exact dv]
        · simp only [spec_FormatSystem.j3, Bool.false_eq_true, if_false]
          rw [up]
theorem specAll1 (s : Sy) (hs : lenOk s) (h2 : 2 ≤ s.1) : ∀ rest pre : List Cd, pre ++ rest = implC → Ev (fun k => spec_FormatSystem.l0 k (implC.map nmB) (pre.length : Int) s.1 s.2.1 s.2.2.1 s.2.2.2) (all1 s rest) := by
  have n43 : ((implC.map nmB).length : Int) = 43 := by rw [List.length_map]; decide +kernel
  intro rest
  induction rest with
  | nil =>
    intro pre h
    have hl := at_len h
    refine Ev.step (fun k => ?_) (specAll2 s hs h2 implC [] rfl)
    simp only [spec_FormatSystem.l0]
    rw [if_neg (by rw [n43]; simp at hl; omega)]; rfl
  | cons c rest ih =>
    intro pre h
    have hl := at_len h
    have hc := mem_at h
    have ln : (pre.length : Int) < ((implC.map nmB).length : Int) := by rw [n43]; simp at hl; omega
    have up : wrap64 ((pre.length : Int) + 1) = (((pre ++ [c]).length : Nat) : Int) := by
      simp at hl
      rw [w64 (by omega) (by omega), List.length_append]; simp
    have an := at_nm h
    have nxt := ih (pre ++ [c]) (by rw [List.append_assoc]; exact h)
    refine Ev.step (f := fun k => (spec_l1Named.f k (nmB c)).bind fun v => (spec_l1Equal.f k s.1 s.2.1 s.2.2.1 s.2.2.2 v.1 v.2.1 v.2.2.1 v.2.2.2).bind fun t => if t = true then some (nmB c) else spec_FormatSystem.l0 k (implC.map nmB) ((pre ++ [c]).length : Int) s.1 s.2.1 s.2.2.1 s.2.2.2) (fun k => ?_) (Ev.bind (namedE hc) (Ev.bind (specSame s (val c.1 c.2) hs.1 hs.2.1 hs.2.2) ?_))
    · simp only [spec_FormatSystem.l0]
      rw [if_pos ln, if_pos (by omega), an, up]
    · unfold all1
      by_cases e : s = val c.1 c.2
      · rw [if_pos e.symm, decide_eq_true e]; simp only [if_true]; exact Ev.now _
      · rw [if_neg (fun h => e h.symm), decide_eq_false e]; simp only [Bool.false_eq_true, if_false]; exact nxt
theorem specFmt (n : Int) (p t : List Int) (b : List Bool) (h1 : p.length ≤ 1048576) (h2 : t.length ≤ 1048576) (h3 : b.length ≤ 1048576) : Ev (fun k => spec_FormatSystem.f k n p t b) (all1 (n, p, t, b) implC) := by
  unfold spec_FormatSystem.f
  refine Ev.bind (specSystem n p t b) ?_
  cases c : sysV n p t b with
  | true =>
    simp only [if_true]
    refine Ev.bind specNames ?_
    exact specAll1 (n, p, t, b) ⟨h1, h2, h3⟩ (sysV_ok c).lo implC [] rfl
  | false =>
    simp only [Bool.false_eq_true, if_false]
    rw [no_text (s := (n, p, t, b)) c]
    exact Ev.now _
end Go.Proofs.YtmcepfimcedocaaDoor.Pure
