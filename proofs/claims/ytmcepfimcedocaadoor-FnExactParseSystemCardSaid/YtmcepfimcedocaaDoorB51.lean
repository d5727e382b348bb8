/- ParseSystem: both answer alike. -/
import Derived.Test.YtmcepfimcedocaaDoorPf11
import Derived.Test.YtmcepfimcedocaaDoorPf10
import Derived.Test.YtmcepfimcedocaaDoorB18
import Derived.Test.YtmcepfimcedocaaDoorM14
import Derived.Lib.CutLaws
import Derived.Lib.IndexBytes
set_option linter.unusedSimpArgs false
set_option linter.unusedVariables false
namespace Go.Proofs.YtmcepfimcedocaaDoor.Pure
open Go.RowKit Go.Proofs.YtmcepfimcedocaaDoor.P Go.Proofs.YtmcepfimcedocaaDoorW.PrintWords Go.Proofs.YtmcepfimcedocaaDoorW.PrintLast
abbrev Sy5 := Int × List Int × List Int × List Bool × Bool
def valB : Option (Nat × Nat) → Sy5
  | some c => ((val c.1 c.2).1, (val c.1 c.2).2.1, (val c.1 c.2).2.2.1, (val c.1 c.2).2.2.2, true)
  | none => (0, [], [], [], false)
theorem rdN_at (pre : List Nmd) (e : Nmd) (r : List Nmd) : rdN (pre ++ e :: r) (pre.length : Int) = e := by
  show (pre ++ e :: r).getD ((pre.length : Int)).toNat _ = e
  rw [Int.toNat_natCast, List.getD_eq_getElem?_getD, List.getElem?_append_right (Nat.le_refl _)]; simp
theorem implNamed (x : ByteArray) : Ev (fun k => impl_simpleNamed.f k x) (valB (look x.data.toList implC)) := by
  have lp : ∀ (rest pre : List (Nat × Nat)), pre.length + rest.length ≤ 1000 → Ev (fun k => impl_simpleNamed.l0 k x ((pre ++ rest).map ent) (((pre ++ rest).map ent).length : Int) (pre.length : Int)) (valB (look x.data.toList rest)) := by
    intro rest
    induction rest with
    | nil =>
      intro pre hl
      refine Ev.step (f := fun _ => some (0, [], [], [], false)) (fun k => ?_) (Ev.now _)
      simp only [impl_simpleNamed.l0]; rw [if_neg (by simp)]
    | cons c rest ih =>
      intro pre hl
      have hd : rdN ((pre ++ c :: rest).map ent) (pre.length : Int) = ent c := by
        rw [List.map_append, List.map_cons]
        have := rdN_at (pre.map ent) (ent c) (rest.map ent)
        rwa [List.length_map] at this
      have ln : (pre.length : Int) < (((pre ++ c :: rest).map ent).length : Int) := by simp; omega
      have cond : (rdN ((pre ++ c :: rest).map ent) (pre.length : Int)).f0.toList = x.toList ↔ nmL c = x.data.toList := by rw [hd]; exact nm_eq c.1 c.2 x
      by_cases q : nmL c = x.data.toList
      · refine Ev.step (f := fun _ => some (valB (some c))) (fun k => ?_) ?_
        · simp only [impl_simpleNamed.l0]; rw [if_pos ln, if_pos (by omega), if_pos ln, if_pos (cond.mpr q)]
          have hd' : rd_T48 ((pre ++ c :: rest).map ent) (pre.length : Int) = ent c := hd
          rw [hd']; rfl
        · unfold look; rw [if_pos q]; exact Ev.now _
      · refine Ev.step (f := fun k => impl_simpleNamed.l0 k x ((pre ++ c :: rest).map ent) (((pre ++ c :: rest).map ent).length : Int) ((pre.length : Int) + 1)) (fun k => ?_) ?_
        · simp only [impl_simpleNamed.l0]; rw [if_pos ln, if_pos (by omega), if_pos ln, if_neg (fun h => q (cond.mp h)), w64 (by omega) (by omega)]
        · unfold look; rw [if_neg q]
          have := ih (pre ++ [c]) (by simp at hl ⊢; omega)
          rw [List.append_assoc, List.length_append] at this
          exact this
  unfold impl_simpleNamed.f
  refine Ev.bind simpleE ?_
  have := lp implC [] (by decide +kernel)
  exact this
theorem sys_z0 : sysV 0 [] [] [] = false := by decide +kernel
theorem prod_none {n : Int} {p t : List Int} {b : List Bool} {n' : Int} {p' t' : List Int} {b' : List Bool} (h : prodV n p t b n' p' t' b' = false) : Ev (fun k => spec_ProductSystem.f k n p t b n' p' t' b') (0, [], [], [], false) := by
  unfold spec_ProductSystem.f
  refine Ev.bind specProd ?_
  simp only [h, Bool.false_eq_true, if_false]
  exact Ev.now _
theorem val_some {T : List UInt8} {c : Nat × Nat} (h : look T implC = some c) : 0 < (val c.1 c.2).1 ∧ (val c.1 c.2).2.1.length ≤ 1048576 ∧ (val c.1 c.2).2.2.1.length ≤ 1048576 ∧ (val c.1 c.2).2.2.2.length ≤ 1048576 := by
  obtain ⟨h1, h2⟩ := implC_in (look_some h).1
  obtain ⟨m, m1, m2, e1, e2, e3, e4⟩ := val_size c.1 c.2 h1 h2
  have : m * m ≤ 16 * 16 := Nat.mul_le_mul m2 m2
  rw [e1, e2, e3, e4]
  refine ⟨by omega, by omega, by omega, by omega⟩
theorem cut_ok (x : ByteArray) (hx : x.size ≤ 1048576) : strings_Cut.f x ⟨#[42]⟩ = some ((⟨(Go.Lib.cut x.data.toList [42]).1.toArray⟩ : ByteArray), (⟨(Go.Lib.cut x.data.toList [42]).2.1.toArray⟩ : ByteArray), (Go.Lib.cut x.data.toList [42]).2.2) := by
  unfold strings_Cut.f; rw [if_pos (by omega)]
/-- What is told once the text is cut. -/
theorem implCut {x a b : ByteArray} {f : Bool} (h : strings_Cut.f x ⟨#[42]⟩ = some (a, b, f)) {r : Sy5}
    (hr : look a.data.toList implC = none → r = (0, [], [], [], false)) (hn : ∀ c, look a.data.toList implC = some c → f = false → r = valB (some c))
    (hp : ∀ c, look a.data.toList implC = some c → f = true → look b.data.toList implC = none → r = (0, [], [], [], false))
    (hq : ∀ c d, look a.data.toList implC = some c → f = true → look b.data.toList implC = some d → Ev (fun k => impl_ProductSystem.f k (val c.1 c.2).1 (val c.1 c.2).2.1 (val c.1 c.2).2.2.1 (val c.1 c.2).2.2.2 (val d.1 d.2).1 (val d.1 d.2).2.1 (val d.1 d.2).2.2.1 (val d.1 d.2).2.2.2) r) : Ev (fun k => impl_ParseSystem.f k x) r := by
  unfold impl_ParseSystem.f
  simp only [h, Option.bind_some]
  refine Ev.bind (implNamed a) ?_
  cases e : look a.data.toList implC with
  | none =>
    rw [hr e]
    simp only [valB, Bool.false_eq_true, if_false]
    refine Ev.step (f := fun _ => some (0, [], [], [], false)) (fun k => ?_) (Ev.now _)
    simp only [impl_ParseSystem.j0, if_true]
  | some c =>
    simp only [valB, if_true]
    cases f with
    | false =>
      rw [hn c e rfl]
      refine Ev.step (f := fun _ => some (valB (some c))) (fun k => ?_) (Ev.now _)
      simp only [impl_ParseSystem.j0, Bool.not_false, if_true]; rfl
    | true =>
      refine Ev.step (f := fun k => (impl_simpleNamed.f k b).bind fun bt => if bt.2.2.2.2 = true then (impl_ProductSystem.f k (val c.1 c.2).1 (val c.1 c.2).2.1 (val c.1 c.2).2.2.1 (val c.1 c.2).2.2.2 bt.1 bt.2.1 bt.2.2.1 bt.2.2.2.1).bind fun w => some (w.1, w.2.1, w.2.2.1, w.2.2.2.1, w.2.2.2.2) else some (0, [], [], [], false)) (fun k => ?_) (Ev.bind (implNamed b) ?_)
      · simp only [impl_ParseSystem.j0, Bool.not_true, Bool.false_eq_true, if_false]
      · cases e2 : look b.data.toList implC with
        | none =>
          rw [hp c e rfl e2]
          simp only [valB, Bool.false_eq_true, if_false]
          exact Ev.now _
        | some d =>
          simp only [valB, if_true]
          exact Ev.bind (hq c d e rfl e2) (Ev.now _)
theorem bt_get (x : ByteArray) (i : Nat) (h : i < x.size) : bt x (i : Int) = 42 ↔ x.data.toList[i]? = some 42 := by
  have hl : i < x.data.toList.length := by rw [← Go.Lib.size_eq]; exact h
  have hi : (i : Int).toNat < x.size := by omega
  unfold bt
  rw [dif_pos hi, List.getElem?_eq_getElem hl]
  have e : x[(i : Int).toNat]'hi = x.data.toList[i] := by
    show x.data[(i : Int).toNat] = _
    simp
  rw [e, Option.some.injEq]
  constructor
  · intro h
    have : (x.data.toList[i]).toNat = 42 := by omega
    exact UInt8.toNat_inj.mp this
  · intro h; rw [h]; rfl
/-- The reference's way to the mark. -/
theorem specParse (x : ByteArray) (hx : x.size ≤ 1048576) {r : Sy5}
    (miss : Go.Lib.indexByte x.data.toList 42 = -1 → r = ((valO (look x.data.toList specC)).1, (valO (look x.data.toList specC)).2.1, (valO (look x.data.toList specC)).2.2.1, (valO (look x.data.toList specC)).2.2.2, decide ((valO (look x.data.toList specC)).1 > 0)))
    (hit : ∀ i : Nat, i < x.size → Go.Lib.indexByte x.data.toList 42 = (i : Int) → Ev (fun k => spec_ProductSystem.f k (valO (look (x.extract 0 i).data.toList specC)).1 (valO (look (x.extract 0 i).data.toList specC)).2.1 (valO (look (x.extract 0 i).data.toList specC)).2.2.1 (valO (look (x.extract 0 i).data.toList specC)).2.2.2 (valO (look (x.extract (i + 1) x.size).data.toList specC)).1 (valO (look (x.extract (i + 1) x.size).data.toList specC)).2.1 (valO (look (x.extract (i + 1) x.size).data.toList specC)).2.2.1 (valO (look (x.extract (i + 1) x.size).data.toList specC)).2.2.2) r) :
    Ev (fun k => spec_ParseSystem.f k x) r := by
  have hl : x.data.toList.length = x.size := (Go.Lib.size_eq x).symm
  have lp : ∀ (m i : Nat), i + m = x.size → (Go.Lib.indexByte (x.data.toList.drop i) 42 = -1 ∧ Go.Lib.indexByte x.data.toList 42 = -1 ∨ ∃ q : Nat, Go.Lib.indexByte (x.data.toList.drop i) 42 = (q : Int) ∧ Go.Lib.indexByte x.data.toList 42 = ((i + q : Nat) : Int)) → Ev (fun k => spec_ParseSystem.l0 k x (i : Int)) r := by
    intro m
    induction m with
    | zero =>
      intro i hi hd
      have e : x.data.toList.drop i = [] := List.drop_eq_nil_of_le (by omega)
      rw [e] at hd
      have hm : Go.Lib.indexByte x.data.toList 42 = -1 := by
        rcases hd with ⟨_, h⟩ | ⟨q, h, _⟩
        · exact h
        · simp only [Go.Lib.indexByte] at h; omega
      rw [miss hm]
      refine Ev.step (f := fun k => (spec_l1Named.f k x).bind fun s => some (s.1, s.2.1, s.2.2.1, s.2.2.2, decide (s.1 > 0))) (fun k => ?_) (Ev.bind (specNamed x) (Ev.now _))
      simp only [spec_ParseSystem.l0]; rw [if_neg (by omega)]
    | succ m ih =>
      intro i hi hd
      have hlt : i < x.data.toList.length := by omega
      have e : x.data.toList.drop i = x.data.toList[i] :: x.data.toList.drop (i + 1) := List.drop_eq_getElem_cons hlt
      have hb := bt_get x i (by omega)
      rw [List.getElem?_eq_getElem hlt, Option.some.injEq] at hb
      rw [e] at hd
      simp only [Go.Lib.indexByte] at hd
      by_cases c : x.data.toList[i] = 42
      · have hq : Go.Lib.indexByte x.data.toList 42 = (i : Int) := by
          rw [c] at hd
          simp only [beq_self_eq_true, if_true] at hd
          rcases hd with ⟨h, _⟩ | ⟨q, h1, h2⟩
          · omega
          · rw [h2]; omega
        have up : wrap64 ((i : Int) + 1) = ((i + 1 : Nat) : Int) := by rw [w64 (by omega) (by omega)]; omega
        refine Ev.step (f := fun k => (spec_l1Named.f k (x.extract 0 i)).bind fun s => (spec_l1Named.f k (x.extract (i + 1) x.size)).bind fun s' => (spec_ProductSystem.f k s.1 s.2.1 s.2.2.1 s.2.2.2 s'.1 s'.2.1 s'.2.2.1 s'.2.2.2).bind fun w => some (w.1, w.2.1, w.2.2.1, w.2.2.2.1, w.2.2.2.2)) (fun k => ?_) (Ev.bind (specNamed _) (Ev.bind (specNamed _) (Ev.bind (hit i (by omega) hq) (Ev.now _))))
        simp only [spec_ParseSystem.l0, up]
        rw [if_pos (by omega), if_pos (by omega), if_pos (hb.mpr c), if_pos (by omega)]
        have z1 : (0 : Int) ≤ ((i + 1 : Nat) : Int) := by omega
        have z2 : ((i + 1 : Nat) : Int) ≤ (x.size : Int) := by omega
        simp only [if_pos z1, if_pos z2, Int.toNat_natCast]
      · have nb : (x.data.toList[i] == 42) = false := beq_eq_false_iff_ne.mpr c
        simp only [nb, Bool.false_eq_true, if_false] at hd
        refine Ev.step (f := fun k => spec_ParseSystem.l0 k x ((i + 1 : Nat) : Int)) (fun k => ?_) (ih (i + 1) (by omega) ?_)
        · simp only [spec_ParseSystem.l0]; rw [if_pos (by omega), if_pos (by omega), if_neg (fun h => c (hb.mp h)), w64 (by omega) (by omega)]; rfl
        · by_cases c2 : Go.Lib.indexByte (x.data.toList.drop (i + 1)) 42 = -1
          · rw [show (Go.Lib.indexByte (x.data.toList.drop (i + 1)) 42 == -1) = true from beq_iff_eq.mpr c2] at hd
            simp only [if_true] at hd
            rcases hd with ⟨_, h⟩ | ⟨q, h, _⟩
            · exact Or.inl ⟨c2, h⟩
            · omega
          · rw [show (Go.Lib.indexByte (x.data.toList.drop (i + 1)) 42 == -1) = false from beq_eq_false_iff_ne.mpr c2] at hd
            simp only [Bool.false_eq_true, if_false] at hd
            have ge := Go.Lib.index_ge (x.data.toList.drop (i + 1)) [42]
            rw [Go.Lib.index_one] at ge
            rcases hd with ⟨h, _⟩ | ⟨q, h1, h2⟩
            · omega
            · refine Or.inr ⟨q - 1, by omega, by rw [h2]; omega⟩
  unfold spec_ParseSystem.f
  refine lp x.size 0 (by omega) ?_
  have ge := Go.Lib.index_ge x.data.toList [42]
  rw [Go.Lib.index_one] at ge
  rw [List.drop_zero]
  by_cases c : Go.Lib.indexByte x.data.toList 42 = -1
  · exact Or.inl ⟨c, c⟩
  · exact Or.inr ⟨(Go.Lib.indexByte x.data.toList 42).toNat, by omega, by omega⟩
theorem parseBoth (x : ByteArray) (hx : x.size ≤ 1048576) : ∃ (r1 : Int) (r2 r3 : List Int) (r4 : List Bool) (r5 : Bool), (r2.length ≤ 1048576 ∧ r3.length ≤ 1048576 ∧ r4.length ≤ 1048576) ∧ Ev (fun k => spec_ParseSystem.f k x) (r1, r2, r3, r4, r5) ∧ Ev (fun k => impl_ParseSystem.f k x) (r1, r2, r3, r4, r5) := by
  have hc := cut_ok x hx
  have ge := Go.Lib.index_ge x.data.toList [42]
  have one := Go.Lib.index_one x.data.toList 42
  by_cases c : Go.Lib.indexByte x.data.toList 42 = -1
  · obtain ⟨e1, e2, e3⟩ := Go.Lib.cutB_miss x ⟨#[42]⟩ (one.trans c)
    have hc' : strings_Cut.f x ⟨#[42]⟩ = some (x, ByteArray.empty, false) := by rw [hc]; congr 1; exact Prod.ext e1 (Prod.ext e2 e3)
    have fd := found x.data.toList
    cases h : look x.data.toList implC with
    | none =>
      rw [h] at fd
      refine ⟨0, [], [], [], false, ⟨by simp, by simp, by simp⟩, specParse x hx (fun _ => by rw [fd]; rfl) (fun i hi hq => absurd (hq.symm.trans c) (by omega)), implCut hc' (fun _ => rfl) (fun c' e => by rw [h] at e; cases e) (fun c' e => by rw [h] at e; cases e) (fun c' d e => by rw [h] at e; cases e)⟩
    | some v =>
      rw [h] at fd
      obtain ⟨v1, v2, v3, v4⟩ := val_some h
      refine ⟨(val v.1 v.2).1, (val v.1 v.2).2.1, (val v.1 v.2).2.2.1, (val v.1 v.2).2.2.2, true, ⟨v2, v3, v4⟩, specParse x hx (fun _ => by rw [fd]; exact congrArg (fun z => ((val v.1 v.2).1, (val v.1 v.2).2.1, (val v.1 v.2).2.2.1, (val v.1 v.2).2.2.2, z)) (decide_eq_true v1).symm) (fun i hi hq => absurd (hq.symm.trans c) (by omega)), implCut hc' (fun e => by rw [h] at e; cases e) (fun c' e _ => by rw [h] at e; obtain rfl := Option.some.inj e; rfl) (fun c' e f => by cases f) (fun c' d e f => by cases f)⟩
  · rw [one] at ge
    obtain ⟨i, hi⟩ := Int.eq_ofNat_of_zero_le (show 0 ≤ Go.Lib.indexByte x.data.toList 42 by omega)
    obtain ⟨e1, e2, e3⟩ := Go.Lib.cutB_hit x ⟨#[42]⟩ i (one.trans hi)
    have hc' : strings_Cut.f x ⟨#[42]⟩ = some (x.extract 0 i, x.extract (i + 1) x.size, true) := by rw [hc]; congr 1; exact Prod.ext e1 (Prod.ext e2 e3)
    have fa := found (x.extract 0 i).data.toList
    have fb := found (x.extract (i + 1) x.size).data.toList
    have other : ∀ j : Nat, Go.Lib.indexByte x.data.toList 42 = (j : Int) → j = i := fun j hj => by omega
    cases ha : look (x.extract 0 i).data.toList implC with
    | none =>
      rw [ha] at fa
      refine ⟨0, [], [], [], false, ⟨by simp, by simp, by simp⟩, specParse x hx (fun h => absurd h c) (fun j hj hq => ?_), implCut hc' (fun _ => rfl) (fun c' e => by rw [ha] at e; cases e) (fun c' e => by rw [ha] at e; cases e) (fun c' d e => by rw [ha] at e; cases e)⟩
      obtain rfl := other j hq
      rw [fa]
      refine prod_none ?_
      show (sysV 0 [] [] [] && _) = false
      rw [sys_z0]; rfl
    | some v =>
      rw [ha] at fa
      cases hb : look (x.extract (i + 1) x.size).data.toList implC with
      | none =>
        rw [hb] at fb
        refine ⟨0, [], [], [], false, ⟨by simp, by simp, by simp⟩, specParse x hx (fun h => absurd h c) (fun j hj hq => ?_), implCut hc' (fun e => by cases ha.symm.trans e) (fun c' e f => by cases f) (fun c' e _ _ => rfl) (fun c' d e _ e2 => by rw [hb] at e2; cases e2)⟩
        obtain rfl := other j hq
        rw [fa, fb]
        refine prod_none ?_
        show (sysV _ _ _ _ && (sysV 0 [] [] [] && _)) = false
        rw [sys_z0]; simp
      | some v' =>
        rw [hb] at fb
        obtain ⟨r1, r2, r3, r4, r5, hl, s1, s2⟩ := prodBoth (val v.1 v.2).1 (val v.1 v.2).2.1 (val v.1 v.2).2.2.1 (val v.1 v.2).2.2.2 (val v'.1 v'.2).1 (val v'.1 v'.2).2.1 (val v'.1 v'.2).2.2.1 (val v'.1 v'.2).2.2.2
        refine ⟨r1, r2, r3, r4, r5, hl, specParse x hx (fun h => absurd h c) (fun j hj hq => ?_), implCut hc' (fun e => by rw [ha] at e; cases e) (fun c' e f => by cases f) (fun c' e _ e2 => by rw [hb] at e2; cases e2) (fun c' d e _ e2 => ?_)⟩
        · obtain rfl := other j hq
          rw [fa, fb]; exact s1
        · rw [ha] at e; rw [hb] at e2
          obtain rfl := Option.some.inj e
          obtain rfl := Option.some.inj e2
          exact s2
end Go.Proofs.YtmcepfimcedocaaDoor.Pure
