/- The views of a system: the reference's list and the program's, one list in order. -/
import Derived.Test.YtjjkagnbdfofbaaPf50
import Derived.Test.YtjjkagnbdfofbaaPf9
import Derived.Test.YtjjkagnbdfofbaaM14
import Derived.Test.YtjjkagnbdfofbaaM3
set_option linter.unusedSimpArgs false
set_option linter.unusedVariables false
namespace Go.Proofs.Ytjjkagnbdfofbaa.Pure
open Go.RowKit Go.Proofs.Ytjjkagnbdfofbaa.P Go.Proofs.YtjjkagnbdfofbaaW.PrintWords Go.Proofs.YtjjkagnbdfofbaaW.PrintLast
theorem rd_at (p r : List Int) (x : Int) : rd (p ++ x :: r) (p.length : Int) = x := by rw [rd_get (by simp)]; simp
theorem lessE (hi : Int) (hh : hi ≤ 1048576) : ∀ (ra rb pa pb : List Int), pa.length = pb.length → (pa.length : Int) + ra.length ≤ hi → Ev (fun k => spec_l1Less.l0 k (pa ++ ra) (pb ++ rb) (pa.length : Int)) (decide (cmpL ra rb < 0))
  | [], rb, pa, pb, h, hl => by
    refine Ev.step (f := fun k => spec_l1Less.j1 k (pa ++ []) (pb ++ rb) (pa.length : Int) false) (fun k => ?_) ?_
    · simp only [spec_l1Less.l0]; rw [if_neg (by simp)]
    · refine Ev.step (f := fun _ => some (decide (cmpL [] rb < 0))) (fun k => ?_) (Ev.now _)
      simp only [spec_l1Less.j1]
      rw [if_neg (by decide)]
      congr 1
      cases rb with
      | nil => simp [cmpL, h]
      | cons y rb => rw [decide_eq_true (by simp; omega), decide_eq_true (by simp [cmpL])]
  | x :: ra, [], pa, pb, h, hl => by
    refine Ev.step (f := fun k => spec_l1Less.j1 k (pa ++ x :: ra) (pb ++ []) (pa.length : Int) false) (fun k => ?_) ?_
    · simp only [spec_l1Less.l0]; rw [if_pos (by simp; omega), decide_eq_false (by simp; omega)]
    · refine Ev.step (f := fun _ => some (decide (cmpL (x :: ra) [] < 0))) (fun k => ?_) (Ev.now _)
      simp only [spec_l1Less.j1]
      rw [if_neg (by decide), decide_eq_false (by simp; omega), decide_eq_false (by simp [cmpL])]
  | x :: ra, y :: rb, pa, pb, h, hl => by
    have hl' : (pa.length : Int) + (ra.length + 1) ≤ hi := by simpa using hl
    have ih := lessE hi hh ra rb (pa ++ [x]) (pb ++ [y]) (by simp [h]) (by simp; omega)
    refine Ev.step (f := fun k => spec_l1Less.j1 k (pa ++ x :: ra) (pb ++ y :: rb) (pa.length : Int) true) (fun k => ?_) ?_
    · simp only [spec_l1Less.l0]; rw [if_pos (by simp; omega), decide_eq_true (by simp; omega)]
    · refine Ev.step (f := fun k => if x = y then spec_l1Less.l0 k (pa ++ x :: ra) (pb ++ y :: rb) ((pa.length : Int) + 1) else some (decide (x < y))) (fun k => ?_) ?_
      · simp only [spec_l1Less.j1]
        rw [if_pos trivial, if_pos (by omega), if_pos (by simp; omega), if_pos (by simp; omega), rd_at, show (pa.length : Int) = (pb.length : Int) by omega, rd_at, w64 (by omega) (by omega)]
      · unfold cmpL
        by_cases c : x < y
        · simp only [if_neg (show ¬ x = y by omega), if_pos c, decide_eq_true c]; exact Ev.now _
        · by_cases d : y < x
          · simp only [if_neg (show ¬ x = y by omega), if_neg c, if_pos d, decide_eq_false c]; exact Ev.now _
          · simp only [if_pos (show x = y by omega), if_neg c, if_neg d]
            rw [show (pa ++ [x]) ++ ra = pa ++ x :: ra by simp, show (pb ++ [y]) ++ rb = pb ++ y :: rb by simp, show ((pa ++ [x]).length : Int) = (pa.length : Int) + 1 by simp] at ih
            exact ih
theorem less (a b : List Int) (h : a.length ≤ 1048576) : Ev (fun k => spec_l1Less.f k a b) (decide (cmpL a b < 0)) := lessE 1048576 (Int.le_refl _) a b [] [] rfl (by simp; omega)
theorem cmp_int (a b : Int) : cmp_Compare_int.f a b = some (if a < b then -1 else if b < a then 1 else 0) := by
  unfold cmp_Compare_int.f cmp_isNaN_int.f
  simp only [bne_self_eq_false, Option.bind_some, Bool.false_eq_true, if_false]
  by_cases c : a < b
  · simp [c]
  · by_cases d : b < a
    · simp [c, d]
    · simp [c, d]
theorem compE (hi : Int) (hh : hi ≤ 1048576) : ∀ (ra rb pa pb : List Int) (k : Nat), pa.length = pb.length → (pa.length : Int) + ra.length ≤ hi → ra.length + 1 ≤ k → slices_Compare_int_int.l0 k (pa ++ ra) (pb ++ rb) (pa ++ ra) ((pa ++ ra).length : Int) (pa.length : Int) = some (cmpL ra rb)
  | [], rb, pa, pb, 0, h, hl, hk => absurd hk (by simp)
  | x :: ra, rb, pa, pb, 0, h, hl, hk => absurd hk (by simp)
  | [], rb, pa, pb, k + 1, h, hl, hk => by
    simp only [slices_Compare_int_int.l0]
    rw [if_neg (by simp)]
    cases rb with
    | nil => rw [if_neg (by simp; omega)]; rfl
    | cons y rb => rw [if_pos (by simp; omega)]; rfl
  | x :: ra, [], pa, pb, k + 1, h, hl, hk => by
    simp only [slices_Compare_int_int.l0]
    rw [if_pos (by simp; omega), if_pos (by omega), if_pos (by simp; omega), if_pos (by simp; omega)]
    rfl
  | x :: ra, y :: rb, pa, pb, k + 1, h, hl, hk => by
    have hl' : (pa.length : Int) + (ra.length + 1) ≤ hi := by simpa using hl
    have hk' : ra.length + 1 ≤ k := by simp at hk; omega
    have ih := compE hi hh ra rb (pa ++ [x]) (pb ++ [y]) k (by simp [h]) (by simp; omega) hk'
    simp only [slices_Compare_int_int.l0]
    rw [if_pos (by simp; omega), if_pos (by omega), if_pos (by simp; omega), if_neg (by simp; omega), if_pos (by simp; omega), rd_at, show (pa.length : Int) = (pb.length : Int) by omega, rd_at, cmp_int, w64 (by omega) (by omega)]
    unfold cmpL
    by_cases c : x < y
    · simp [c]
    · by_cases d : y < x
      · simp [c, d]
      · simp only [if_neg c, if_neg d, Option.bind_some, if_pos]
        rw [show (pa ++ [x]) ++ ra = pa ++ x :: ra by simp, show (pb ++ [y]) ++ rb = pb ++ y :: rb by simp, show ((pa ++ [x]).length : Int) = (pb.length : Int) + 1 by simp; omega] at ih
        exact ih
theorem comp (a b : List Int) (k : Nat) (h : a.length ≤ 1048576) (hk : a.length + 1 ≤ k) : impl_ViewsOf_1.f k a b = some (cmpL a b) := by
  unfold impl_ViewsOf_1.f slices_Compare_int_int.f
  rw [show slices_Compare_int_int.l0 k a b a (a.length : Int) 0 = some (cmpL a b) from compE 1048576 (Int.le_refl _) a b [] [] k rfl (by simp; omega) hk]
  rfl
theorem sorted (l : List (List Int)) (h1 : l.length ≤ 1048576) (h2 : ∀ a ∈ l, a.length ≤ 16) : Ev (fun k => (slices_SortFunc_int_int.f l (fun a b => impl_ViewsOf_1.f k a b)).bind fun t => some t) (sortL l) := by
  refine ⟨20, fun k hk => ?_⟩
  have e : slices_SortFunc_int_int.f l (fun a b => impl_ViewsOf_1.f k a b) = some (sortL l) := by
    unfold slices_SortFunc_int_int.f
    refine if_pos ⟨by omega, fun a ha b hb => ?_⟩
    have : a.length ≤ 16 := by
      rcases List.mem_cons.1 ha with rfl | ha
      · simp
      · exact h2 a ha
    exact comp a b k (by omega) (by omega)
  show Option.bind (slices_SortFunc_int_int.f l (fun a b => impl_ViewsOf_1.f k a b)) (fun t => some t) = _
  rw [e]
  rfl
section
variable {n : Int} {p t : List Int} {b : List Bool}
theorem rdB_at (p r : List Bool) (x : Bool) : rdOf false (p ++ x :: r) (p.length : Int) = x := by rw [rdB_get (by simp)]; simp
theorem memE : ∀ (rest pre : List Bool) (acc : List Int), ((pre ++ rest).length : Int) = n → n ≤ 16 → acc.length ≤ pre.length → Ev (fun k => spec_l1Views.l0 k (pre ++ rest) acc (pre.length : Int) n p t b) [acc ++ memL rest (pre.length : Int)]
  | [], pre, acc, h, hn, ha => by
    refine Ev.step (f := fun _ => some [acc ++ memL [] (pre.length : Int)]) (fun k => ?_) (Ev.now _)
    simp only [spec_l1Views.l0]
    rw [if_neg (by simp at h; omega)]
    simp [memL]
  | x :: rest, pre, acc, h, hn, ha => by
    have h' : (pre.length : Int) + (rest.length + 1) = n := by simpa using h
    have e : (pre ++ [x]) ++ rest = pre ++ x :: rest := by simp
    have el : ((pre ++ [x]).length : Int) = (pre.length : Int) + 1 := by simp
    cases x with
    | true =>
      have ih := memE rest (pre ++ [true]) (acc ++ [(pre.length : Int)]) (by rw [e]; exact h) hn (by simp; omega)
      rw [e, el, List.append_assoc] at ih
      refine Ev.step (fun k => ?_) ih
      simp only [spec_l1Views.l0]
      rw [if_pos (by omega), if_pos (by omega), if_pos (by simp; omega), rdB_at, if_pos rfl, if_pos (by omega), w64 (by omega) (by omega)]
    | false =>
      have ih := memE rest (pre ++ [false]) acc (by rw [e]; exact h) hn (by simp; omega)
      rw [e, el] at ih
      refine Ev.step (fun k => ?_) ih
      simp only [spec_l1Views.l0]
      rw [if_pos (by omega), if_pos (by omega), if_pos (by simp; omega), rdB_at, if_neg (by decide), w64 (by omega) (by omega)]
theorem viewsE (h : OK n p t b) : ∀ (m : Nat) (pre : List Bool), (pre.length : Int) + m = n → Ev (fun k => spec_l1Views.f k n p t b (pre ++ List.replicate m false) (pre.length : Int)) (viewsL (markV n p t b) m pre)
  | 0, pre, hm => by
    have hn := h.hi
    have hs : ((pre ++ List.replicate 0 false).length : Int) = n := by simpa using hm
    rw [viewsL_zero]
    refine Ev.step (f := fun k => (spec_l1View.f k n p t b (pre ++ List.replicate 0 false)).bind fun t233 => if t233 = true then spec_l1Views.l0 k (pre ++ List.replicate 0 false) [] 0 n p t b else some []) (fun k => ?_) (Ev.bind (specMark h hs) ?_)
    · simp only [spec_l1Views.f]; rw [if_pos (by omega)]
    · have e : pre ++ List.replicate 0 false = pre := by simp
      rw [e]
      split
      · have := memE (n := n) (p := p) (t := t) (b := b) pre [] [] (by simpa using hm) hn (Nat.le_refl _)
        simpa using this
      · exact Ev.now _
  | m + 1, pre, hm => by
    have hn := h.hi
    have n0 := h.lo
    have es : ∀ v, (pre ++ List.replicate (m + 1) false).set pre.length v = (pre ++ [v]) ++ List.replicate m false := fun v => by simp [List.replicate_succ]
    have el : ∀ v : Bool, ((pre ++ [v]).length : Int) = (pre.length : Int) + 1 := fun v => by simp
    have ih1 := viewsE h m (pre ++ [true]) (by simp; omega)
    have ih2 := viewsE h m (pre ++ [false]) (by simp; omega)
    rw [el] at ih1 ih2
    have g1 := viewsL_len (markV n p t b) m (pre ++ [true])
    have g2 := viewsL_len (markV n p t b) m (pre ++ [false])
    have g3 : 2 ^ m ≤ 2 ^ 16 := Nat.pow_le_pow_right (by decide) (by omega)
    have hL : (pre ++ List.replicate (m + 1) false).length = pre.length + (m + 1) := by simp
    have i1 : wrap64 ((pre.length : Int) + 1) = (pre.length : Int) + 1 := w64 (by omega) (by omega)
    rw [viewsL_succ]
    refine Ev.step (f := fun k => spec_l1Views.l1 k (pre ++ List.replicate (m + 1) false) (pre.length : Int) [] 0 n p t b) (fun k => ?_) ?_
    · simp only [spec_l1Views.f]; rw [if_neg (by omega)]
    refine Ev.step (f := fun k => (spec_l1Views.f k n p t b ((pre ++ [true]) ++ List.replicate m false) ((pre.length : Int) + 1)).bind fun t254 => if ([] : List (List Int)).length + t254.length < 5864062014805 then spec_l1Views.l1 k (pre ++ List.replicate (m + 1) false) (pre.length : Int) ([] ++ t254) 1 n p t b else none) (fun k => ?_) (Ev.bind ih1 ?_)
    · simp only [spec_l1Views.l1]
      rw [if_pos (by decide), Option.bind_some, if_pos (by rw [hL]; simp; omega), Option.bind_some, List.nil_append, if_pos (by omega), if_pos (by rw [hL]; omega), Int.toNat_natCast, show ((0 : Int) == 0) = true from rfl, es, i1, show wrap64 (0 + 1) = 1 by rw [w64 (by omega) (by omega)]; rfl]
    simp only [List.nil_append]
    rw [show (fun n_1 => if ([] : List (List Int)).length + (viewsL (markV n p t b) m (pre ++ [true])).length < 5864062014805 then spec_l1Views.l1 n_1 (pre ++ List.replicate (m + 1) false) (pre.length : Int) (viewsL (markV n p t b) m (pre ++ [true])) 1 n p t b else none) = (fun k => spec_l1Views.l1 k (pre ++ List.replicate (m + 1) false) (pre.length : Int) (viewsL (markV n p t b) m (pre ++ [true])) 1 n p t b) from funext fun k => if_pos (by simp; omega)]
    refine Ev.step (f := fun k => (spec_l1Views.f k n p t b ((pre ++ [false]) ++ List.replicate m false) ((pre.length : Int) + 1)).bind fun t254 => if (viewsL (markV n p t b) m (pre ++ [true])).length + t254.length < 5864062014805 then spec_l1Views.l1 k (pre ++ List.replicate (m + 1) false) (pre.length : Int) (viewsL (markV n p t b) m (pre ++ [true]) ++ t254) 2 n p t b else none) (fun k => ?_) (Ev.bind ih2 ?_)
    · simp only [spec_l1Views.l1]
      rw [if_pos (by decide), Option.bind_some, if_pos (by rw [hL]; simp; omega), Option.bind_some, List.nil_append, if_pos (by omega), if_pos (by rw [hL]; omega), Int.toNat_natCast, show ((1 : Int) == 0) = false from rfl, es, i1, show wrap64 (1 + 1) = 2 by rw [w64 (by omega) (by omega)]; rfl]
    refine evCongr (fun k => if_pos (by omega)) ?_
    refine Ev.step (f := fun _ => some _) (fun k => ?_) (Ev.now _)
    simp only [spec_l1Views.l1]; rw [if_neg (by decide)]
theorem findE (x : List Int) (hx : x.length ≤ 1048576) (out : List (List Int)) (ho : out.length ≤ 1048576) : ∀ j : Nat, j ≤ out.length → Ev (fun k => spec_ViewsOf.l1 k x out (j : Int)) ((findK x out j : Nat) : Int)
  | 0, _ => by
    refine Ev.step (f := fun _ => some 0) (fun k => ?_) (Ev.now _)
    simp only [spec_ViewsOf.l1]; rw [if_neg (by decide)]; rfl
  | j + 1, hj => by
    have ih := findE x hx out ho j (by omega)
    have i1 : wrap64 (((j + 1 : Nat) : Int) - 1) = (j : Int) := by rw [w64 (by omega) (by omega)]; omega
    refine Ev.step (f := fun k => (spec_l1Less.f k x (out.getD j [])).bind fun t => if t = true then spec_ViewsOf.l1 k x out (j : Int) else some ((j + 1 : Nat) : Int)) (fun k => ?_) (Ev.bind (less x _ hx) ?_)
    · simp only [spec_ViewsOf.l1]
      rw [i1, if_pos (by omega), if_pos (by omega), if_pos (by omega)]
      rfl
    · unfold findK
      by_cases c : cmpL x (out.getD j []) < 0
      · simp only [decide_eq_true c, if_pos, if_pos c]; exact ih
      · simp only [decide_eq_false c, if_neg c]; exact Ev.now _
theorem putE (hi : Nat) (hh : hi ≤ 65536) : ∀ (rest pre out : List (List Int)), (∀ a ∈ rest, a.length ≤ 16) → pre.length + rest.length ≤ hi → out.length = pre.length → Ev (fun k => spec_ViewsOf.l0 k (pre ++ rest) out (pre.length : Int)) (rest.foldl insL out)
  | [], pre, out, hr, hl, ho => by
    refine Ev.step (f := fun _ => some out) (fun k => ?_) (Ev.now _)
    simp only [spec_ViewsOf.l0]; rw [if_neg (by simp)]
  | x :: rest, pre, out, hr, hl, ho => by
    have hl' : pre.length + (rest.length + 1) ≤ hi := by simpa using hl
    have hx := hr x (List.mem_cons_self ..)
    have hk := findK_le x out out.length
    have ih := putE hi hh rest (pre ++ [x]) (insL out x) (fun a ha => hr a (List.mem_cons_of_mem _ ha)) (by simp; omega) (by rw [insL_len]; simp; omega)
    rw [show (pre ++ [x]) ++ rest = pre ++ x :: rest by simp, show ((pre ++ [x]).length : Int) = (pre.length : Int) + 1 by simp] at ih
    have er : rd_L3 (pre ++ x :: rest) (pre.length : Int) = x := by unfold rd_L3; rw [Int.toNat_natCast, List.getD_eq_getElem?_getD, List.getElem?_append_right (Nat.le_refl _)]; simp
    refine Ev.step (f := fun k => (spec_ViewsOf.l1 k x out (out.length : Int)).bind fun q => if 0 ≤ q ∧ q ≤ (out.length : Int) then spec_ViewsOf.l0 k (pre ++ x :: rest) (out.take q.toNat ++ x :: out.drop q.toNat) ((pre.length : Int) + 1) else none) (fun k => ?_) (Ev.bind (findE x (by omega) out (by omega) out.length (Nat.le_refl _)) ?_)
    · simp only [spec_ViewsOf.l0]
      rw [if_pos (by simp; omega), if_pos (by omega), if_pos (by omega), er, w64 (by omega) (by omega)]
    · refine evCongr (fun k => if_pos ⟨by omega, by omega⟩) ?_
      exact ih
theorem viewsL_mem {M : List Bool → Bool} {m : Nat} {pre : List Bool} {x : List Int} (h : x ∈ viewsL M m pre) : x.length ≤ pre.length + m := by
  unfold viewsL at h
  obtain ⟨v, hv, e⟩ := List.mem_filterMap.1 h
  have hl : ∀ (m : Nat) (v : List Bool), v ∈ allM m → v.length = m := by
    intro m
    induction m with
    | zero => intro v hv; simp [allM] at hv; simp [hv]
    | succ m ih =>
      intro v hv
      rw [allM, List.mem_append, List.mem_map, List.mem_map] at hv
      rcases hv with ⟨u, hu, rfl⟩ | ⟨u, hu, rfl⟩ <;> simp [ih u hu]
  split at e
  · obtain rfl := Option.some.inj e
    have := memL_len (pre ++ v) 0
    rw [List.length_append, hl m v hv] at this
    exact this
  · cases e
theorem specViews (n : Int) (p t : List Int) (b : List Bool) : Ev (fun k => spec_ViewsOf.f k n p t b) (if sysV n p t b = true then sortL (viewsL (markV n p t b) (n - 2).toNat [false, true]) else []) := by
  unfold spec_ViewsOf.f
  refine Ev.bind (specSystem n p t b) ?_
  by_cases c : sysV n p t b = true
  · have h := sysV_ok c
    have n0 := h.lo
    have n1 := h.hi
    simp only [if_pos c]
    refine evCongr (fun k => if_pos ⟨by omega, by omega⟩) ?_
    have e : (List.replicate n.toNat false).set 1 true = [false, true] ++ List.replicate (n - 2).toNat false := by
      rw [show n.toNat = (n - 2).toNat + 1 + 1 by omega, List.replicate_succ, List.replicate_succ]; rfl
    rw [e]
    have v := viewsE h (n - 2).toNat [false, true] (by simp; omega)
    have hl := viewsL_len (markV n p t b) (n - 2).toNat [false, true]
    have g3 : 2 ^ (n - 2).toNat ≤ 2 ^ 16 := Nat.pow_le_pow_right (by decide) (by omega)
    refine Ev.bind v ?_
    rw [← insAll_sort]
    refine putE 65536 (Nat.le_refl _) (viewsL (markV n p t b) (n - 2).toNat [false, true]) [] [] (fun a ha => ?_) (by rw [List.length_nil]; omega) rfl
    have := viewsL_mem ha
    simp at this
    omega
  · simp only [if_neg c]
    exact Ev.now _
/-- What a set's number tells. -/
def setV (n : Int) (p t : List Int) (b : List Bool) (N x : Nat) : Option (List Int) := if x % 4 = 2 then (if markV n p t b (bitsm N x) = true then some (memL (bitsm N x) 0) else none) else none
theorem fillE (h : OK n p t b) (out : List (List Int)) (ho : out.length ≤ 65536) (x N : Nat) (hN : (N : Int) = n) (hx : x < 65536) {r : List (List Int)} :
    ∀ (m g : Nat) (pre : List Bool) (acc : List Int), g + m = N → pre.length = g → acc.length ≤ g →
    (Ev (fun k => if markV n p t b (pre ++ bitsm m (x / 2 ^ g)) = true then impl_ViewsOf.l0 k (out ++ [acc ++ memL (bitsm m (x / 2 ^ g)) (g : Int)]) ((x : Int) + 1) n p t b else impl_ViewsOf.l0 k out ((x : Int) + 1) n p t b) r) →
    Ev (fun k => impl_ViewsOf.l1 k out (x : Int) (pre ++ List.replicate m false) acc (N : Int) (g : Int) n p t b) r
  | 0, g, pre, acc, h1, h2, h3, hr => by
    have hn := h.hi
    have hs : ((pre ++ List.replicate 0 false).length : Int) = n := by simp; omega
    refine Ev.step (f := fun k => (impl_isView.f k n p t b (pre ++ List.replicate 0 false)).bind fun q => if q = true then (if out.length < 5864062014805 then impl_ViewsOf.l0 k (out ++ [acc]) ((x : Int) + 1) n p t b else none) else impl_ViewsOf.l0 k out ((x : Int) + 1) n p t b) (fun k => ?_) (Ev.bind (implMark h hs) ?_)
    · simp only [impl_ViewsOf.l1]
      rw [if_neg (by omega), w64 (x := (x : Int) + 1) (by omega) (by omega)]
    · simp only [bitsm, memL, List.append_nil, List.replicate_zero] at hr ⊢
      simp only [if_pos (show out.length < 5864062014805 by omega)]
      exact hr
  | m + 1, g, pre, acc, h1, h2, h3, hr => by
    have hn := h.hi
    have hg : g ≤ 64 := by omega
    have w1 : wrap64 ((g : Int) + 1) = ((g + 1 : Nat) : Int) := by rw [w64 (by omega) (by omega)]; omega
    have hL : (g : Int) < ((pre ++ List.replicate (m + 1) false).length : Int) := by simp; omega
    have c1 : (g : Int) < (N : Int) := by omega
    have c2 : 0 ≤ (g : Int) := Int.natCast_nonneg g
    have c3 : acc.length < 17592186044416 := by omega
    have d1 : g + 1 + m = N := by omega
    have d2 : ∀ v : Bool, (pre ++ [v]).length = g + 1 := fun v => by simp; omega
    have d3 : (acc ++ [(g : Int)]).length ≤ g + 1 := by simp; omega
    have d4 : acc.length ≤ g + 1 := by omega
    have hx' : x < 4611686018427387904 := by omega
    have hq : x / 2 ^ g < 4611686018427387904 := Nat.lt_of_le_of_lt (Nat.div_le_self _ _) hx'
    have e1 : Go.bits .and .i64 (shr .i64 (x : Int) (g : Int)) 1 = ((x / 2 ^ g % 2 : Nat) : Int) := by rw [shr_nat x g hg, and1 (x / 2 ^ g) hq]
    have e2 : x / 2 ^ g / 2 = x / 2 ^ (g + 1) := by rw [Nat.div_div_eq_div_mul, Nat.pow_succ]
    rw [bitsm, e2] at hr
    clear hq e2
    by_cases c : x / 2 ^ g % 2 = 1
    · rw [decide_eq_true c] at hr
      have ih := fillE h out ho x N hN hx m (g + 1) (pre ++ [true]) (acc ++ [(g : Int)]) d1 (d2 _) d3 (r := r) (by
        refine evCongr (fun k => ?_) hr
        simp [memL])
      refine Ev.step (fun k => ?_) ih
      simp only [impl_ViewsOf.l1]
      rw [if_pos c1, if_pos c2, e1, if_pos (by rw [c]; rfl), if_pos hL, if_pos c3, w1, Int.toNat_natCast, show (pre ++ List.replicate (m + 1) false).set g true = (pre ++ [true]) ++ List.replicate m false by subst h2; simp [List.replicate_succ]]
    · rw [decide_eq_false c] at hr
      have ih := fillE h out ho x N hN hx m (g + 1) (pre ++ [false]) acc d1 (d2 _) d4 (r := r) (by
        refine evCongr (fun k => ?_) hr
        simp [memL])
      refine Ev.step (fun k => ?_) ih
      simp only [impl_ViewsOf.l1]
      rw [if_pos c1, if_pos c2, e1, if_neg (fun q => c (by exact_mod_cast q)), w1, show pre ++ List.replicate (m + 1) false = (pre ++ [false]) ++ List.replicate m false by simp [List.replicate_succ]]
theorem setsE (h : OK n p t b) (N : Nat) (hN : (N : Int) = n) : ∀ (c x : Nat) (out : List (List Int)), x + c = 2 ^ N → out.length ≤ x → (∀ a ∈ out, a.length ≤ 16) →
    Ev (fun k => impl_ViewsOf.l0 k out (x : Int) n p t b) (sortL (out ++ (List.range' x c).filterMap (setV n p t b N)))
  | 0, x, out, hx, ho, hm => by
    have hn := h.hi
    have g3 : 2 ^ N ≤ 2 ^ 16 := Nat.pow_le_pow_right (by decide) (by omega)
    have e := shl_nat N (by omega)
    rw [hN] at e
    refine Ev.step (f := fun k => (slices_SortFunc_int_int.f out (fun a b => impl_ViewsOf_1.f k a b)).bind fun t => some t) (fun k => ?_) ?_
    · simp only [impl_ViewsOf.l0]
      rw [if_pos (by omega), e, if_neg (by omega)]
    · have := sorted out (by omega) hm
      simpa using this
  | c + 1, x, out, hx, ho, hm => by
    have hn := h.hi
    have g3 : 2 ^ N ≤ 2 ^ 16 := Nat.pow_le_pow_right (by decide) (by omega)
    have e := shl_nat N (by omega)
    rw [hN] at e
    rw [List.range'_succ, List.filterMap_cons]
    have w1 : wrap64 ((x : Int) + 1) = (x : Int) + 1 := w64 (by omega) (by omega)
    have up : ∀ o : List (List Int), o.length ≤ x + 1 → (∀ a ∈ o, a.length ≤ 16) → Ev (fun k => impl_ViewsOf.l0 k o ((x : Int) + 1) n p t b) (sortL (o ++ (List.range' (x + 1) c).filterMap (setV n p t b N))) := fun o h1 h2 => setsE h N hN c (x + 1) o (by omega) h1 h2
    by_cases q : x % 4 = 2
    · refine Ev.step (f := fun k => impl_ViewsOf.l1 k out (x : Int) ([] ++ List.replicate N false) [] (N : Int) ((0 : Nat) : Int) n p t b) (fun k => ?_) ?_
      · simp only [impl_ViewsOf.l0]
        rw [if_pos (by omega), e, if_pos (by omega), and3 x (by omega), if_pos (by omega), if_pos (by omega), Option.bind_some, List.length_replicate, List.nil_append, show n.toNat = N by omega]
        rfl
      · refine fillE h out (by omega) x N hN (by omega) N 0 [] [] (by omega) rfl (Nat.le_refl _) ?_
        simp only [List.nil_append, Nat.pow_zero, Nat.div_one]
        unfold setV
        simp only [if_pos q]
        split
        · next cm =>
          have hml := memL_len (bitsm N x) 0
          rw [bitsm_len] at hml
          have := up (out ++ [memL (bitsm N x) 0]) (by simp; omega) (fun a ha => by
            rcases List.mem_append.1 ha with ha | ha
            · exact hm a ha
            · rw [List.mem_singleton.1 ha]; omega)
          rw [List.append_assoc] at this
          exact this
        · exact up out (by omega) hm
    · refine Ev.step (f := fun k => impl_ViewsOf.l0 k out ((x : Int) + 1) n p t b) (fun k => ?_) ?_
      · simp only [impl_ViewsOf.l0]
        rw [if_pos (by omega), e, if_pos (by omega), and3 x (by omega), if_neg (by omega), w1]
      · have : setV n p t b N x = none := by unfold setV; rw [if_neg q]
        rw [this]
        exact up out (by omega) hm
theorem implViews (n : Int) (p t : List Int) (b : List Bool) : Ev (fun k => impl_ViewsOf.f k n p t b) (if sysV n p t b = true then sortL (viewsL (markV n p t b) (n - 2).toNat [false, true]) else []) := by
  unfold impl_ViewsOf.f
  refine Ev.bind (implSystem n p t b) ?_
  by_cases c : sysV n p t b = true
  · have h := sysV_ok c
    have n0 := h.lo
    have n1 := h.hi
    simp only [if_pos c]
    have s := setsE h n.toNat (by omega) (2 ^ n.toNat) 0 [] (by omega) (by simp) (by simp)
    rw [List.nil_append, ← List.range_eq_range'] at s
    have e := sortL_perm (viewsL_sets (markV n p t b) (n - 2).toNat)
    rw [show (n - 2).toNat + 2 = n.toNat by omega] at e
    rw [← e]
    exact s
  · simp only [if_neg c]
    exact Ev.now _
end
end Go.Proofs.Ytjjkagnbdfofbaa.Pure
