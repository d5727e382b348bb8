-- Several texts in one (wip/tools/merge.py).
import Derived.Test.YtjjkagnbdfofbaaM2
import Derived.ProofKit
import Derived.ChangeArms
import Derived.Deep.Slices
import Derived.Lib.SmallJoins
import Derived.Laws.EntriesVeiled
section
/- How what a law is handed reads as a value of the printed kinds: whole numbers, bools, strings, slices, structs. -/
namespace Go.Proofs.Ytjjkagnbdfofbaa.P
open Go.RowKit Go.Proofs.YtjjkagnbdfofbaaW.PrintWords Go.Proofs.YtjjkagnbdfofbaaW.PrintLast Go.Proofs.YtjjkagnbdfofbaaW.PrintMore

/-- What reads as data of type t holds a value of the kind d. -/
def Opens {α : Type} (t : TypeId) (d : Kd α) (wf : α → Prop) : Prop :=
  ∀ (H : Type) (enc : TypeId × Value → H) (w : World) (fuel : Nat) (cs : List Value) (x : DataW H × List MemPlace),
    DataW.trod enc Try.prog w 0 (fun _ => true) true fuel t cs = some x → ∃ y : α, d.K w y cs ∧ wf y

theorem opens_int {t : TypeId} {k : IntKind} (hu : Try.prog.underlying t = some (.int k)) : Opens t (Kd.int k) (fun n => (Lit.int k n).wf = true) := by
  intro H enc w fuel cs x h
  obtain ⟨n, rfl, _, hw⟩ := DataW.trod_int hu h
  exact ⟨n, rfl, hw⟩
theorem list_of {α : Type} (n : Nat) {p : Nat → α → Prop} (h : ∀ i, i < n → ∃ a, p i a) : ∃ l : List α, l.length = n ∧ ∀ i a, l[i]? = some a → p i a := by
  induction n with
  | zero => exact ⟨[], rfl, fun i a h => by simp at h⟩
  | succ n ih =>
    obtain ⟨l, hl, hp⟩ := ih (fun i hi => h i (by omega))
    obtain ⟨a, ha⟩ := h n (by omega)
    refine ⟨l ++ [a], by simp [hl], fun i b hb => ?_⟩
    rcases Nat.lt_or_ge i l.length with hi | hi
    · rw [List.getElem?_append_left hi] at hb
      exact hp i b hb
    · rw [List.getElem?_append_right hi] at hb
      have hi2 : i - l.length = 0 := by
        have := (List.getElem?_eq_some_iff.1 hb).1
        simp at this
        omega
      rw [hi2] at hb
      simp at hb
      subst hb
      rw [show i = n by omega]
      exact ha

/-- A slice's elements, each read with less fuel. -/
theorem slice_opens {α : Type} {t e : TypeId} {d : Kd α} {wf : α → Prop} (hu : Try.prog.underlying t = some (.slice e)) (hc : Try.prog.cellsOf e = d.sz) {H : Type} {enc : TypeId × Value → H} {w : World} {fuel : Nat} {cs : List Value} {x : DataW H × List MemPlace}
    (h : DataW.trod enc Try.prog w 0 (fun _ => true) true fuel t cs = some x)
    (he : ∀ n cs y, n < fuel → DataW.trod enc Try.prog w 0 (fun _ => true) true n e cs = some y → ∃ z : α, d.K w z cs ∧ wf z) :
    ∃ l : List α, (Kd.slice e d).K w l cs ∧ (∀ z ∈ l, wf z) ∧ l.length ≤ maxLen := by
  rcases DataW.trod_slice hu h with ⟨rfl, _⟩ | ⟨a, len, cap, elems, rest, n, rfl, rfl, _, _, hl, hm, hlen, hel, _⟩
  · exact ⟨[], ⟨none, 0, rfl, Nat.le_refl _, by exact Kd.C_nil _ _⟩, by simp, by simp⟩
  · obtain ⟨l, hll, hp⟩ := list_of (α := α) len (p := fun i z => wf z ∧ ∃ c, c.length = d.sz ∧ d.K w z c ∧ ∀ j u, c[j]? = some u → w.cell? (a.add (i * d.sz + j)) = some u) (fun i hi => by
      have h1 := hel i hi
      rw [List.getElem?_eq_getElem (by omega)] at h1
      obtain ⟨c, hc1, hc2⟩ := Option.bind_eq_some_iff.1 h1
      obtain ⟨z, hz, hwz⟩ := he n c _ (by omega) hc2
      obtain ⟨_, hlc, hcell⟩ := World.cells?_some hc1
      rw [hc] at hlc hcell
      refine ⟨z, hwz, c, hlc, hz, fun j u hu2 => ?_⟩
      have hj : j < d.sz := by have := (List.getElem?_eq_some_iff.1 hu2).1; omega
      have h2 := hcell j hj
      rw [hu2, Addr.add_add] at h2
      exact h2)
    refine ⟨l, ⟨some a, cap, by rw [hll], by omega, ?_⟩, fun z hz => ?_, by omega⟩
    · refine ⟨rfl, by rw [hll]; unfold maxLen at hm; omega, fun _ => ⟨a, rfl, fun j p hj => (hp j p hj).2⟩⟩
    · obtain ⟨i, hi⟩ := List.getElem?_of_mem hz
      exact (hp i z hi).1
theorem opens_slice {α : Type} {t e : TypeId} {d : Kd α} {wf : α → Prop} (hu : Try.prog.underlying t = some (.slice e)) (hc : Try.prog.cellsOf e = d.sz) (he : Opens e d wf) :
    Opens t (Kd.slice e d) (fun l => (∀ z ∈ l, wf z) ∧ l.length ≤ maxLen) :=
  fun H enc w _ _ _ h => slice_opens hu hc h (fun n cs y _ hy => he H enc w n cs y hy)
end Go.Proofs.Ytjjkagnbdfofbaa.P
end

section
namespace Go.Proofs.Ytjjkagnbdfofbaa.P
open Go.RowKit Go.Proofs.YtjjkagnbdfofbaaW.PrintWords Go.Proofs.YtjjkagnbdfofbaaW.PrintLast Go.Proofs.YtjjkagnbdfofbaaW.PrintMore
attribute [local go_sem] max2_int min2_int max_two min_two max_three min_three max_four min_four   -- for this text's walks alone
set_option linter.unusedVariables false
set_option linter.unusedSimpArgs false

def laws_big.f (l0 : List Int) : Option (Bool) := some (decide ((l0.length : Int) > 1048576))
set_option maxHeartbeats 8000000 in
set_option maxRecDepth 100000 in
theorem laws_big.calls (A0 : Option Addr) (c0 : Nat) (l0 : List Int) (r : Bool) (w : World) (hr0 : Kd.C (Kd.int .u8) w A0 l0.length l0) (hc0 : l0.length ≤ c0) (h : laws_big.f l0 = some r) :
  Calls Try.prog 5 #[.slice A0 l0.length c0] w fun e w' => e = .returned (.bool r) ∧ Drawn0 w w' := by
 have HR0 := sd_ hr0; have HC0 := sd_ hc0; clear hr0 hc0; have H : (some (decide ((l0.length : Int) > 1048576))) = some r := h; clear h; obtain rfl := Option.some.inj H; go_enter Try.func5, Try.ntmps5; go_wp2; go_ret; exact ⟨by first | rfl | (simp; done) | (simp [*]; done), by repeat (first | exact Drawn0.refl _ | apply Drawn0.step)⟩


def laws_ints.l0 : Nat → List Int → List Int → Int → Option (Bool)
 | 0, _, _, _ => none
 | k + 1, x0, x1, x5 => if x5 < (x0.length : Int) then (if 0 ≤ x5 then (if x5 < (x1.length : Int) then (if (rd x0 x5) = (rd x1 x5) then (laws_ints.l0 k x0 x1 (wrap64 (x5 + 1))) else (some false)) else (none)) else (none)) else (some true)
def laws_ints.f (k : Nat) (l0 : List Int) (l1 : List Int) : Option (Bool) := if (l0.length : Int) = (l1.length : Int) then (laws_ints.l0 k l0 l1 0) else (some false)
set_option maxHeartbeats 8000000 in
set_option maxRecDepth 100000 in
theorem laws_ints.calls (k : Nat) (A0 : Option Addr) (c0 : Nat) (l0 : List Int) (A1 : Option Addr) (c1 : Nat) (l1 : List Int) (r : Bool) (w : World) (hr0 : Kd.C (Kd.int .i64) w A0 l0.length l0) (hc0 : l0.length ≤ c0) (hr1 : Kd.C (Kd.int .i64) w A1 l1.length l1) (hc1 : l1.length ≤ c1) (h : laws_ints.f k l0 l1 = some r) :
  Calls Try.prog 10 #[.slice A0 l0.length c0, .slice A1 l1.length c1] w fun e w' => e = .returned (.bool r) ∧ Drawn0 w w' := by
 have HR0 := sd_ hr0; have HC0 := sd_ hc0; clear hr0 hc0; have HR1 := sd_ hr1; have HC1 := sd_ hc1; clear hr1 hc1; have H : (if (l0.length : Int) = (l1.length : Int) then (laws_ints.l0 k l0 l1 0) else (some false)) = some r := h; clear h; by_cases c3 : (l0.length : Int) = (l1.length : Int)
 ·rw [if_pos c3] at H; have c3b0 : ((l0.length : Int) == (l1.length : Int)) = true := beq_iff_eq.mpr c3; have c3b1 : ((l0.length : Int) != (l1.length : Int)) = false := bne_eq_false_iff_eq.mpr c3
  have c3b2 : (l0.length == l1.length) = true := by first | simpa using c3 | (simp at c3 ⊢; omega)
  clear c3; have H' := sd_ H; clear H; go_enter Try.func10, Try.ntmps10; go_wp2
  repeat (go_quiet (fail); try go_wp2)
  go_loopg [5] k (fun kq v5 w' => ∃ (x5_1 : Int), v5 = .int .i64 x5_1 ∧ Aside0 (laws_ints.l0 kq l0 l1 x5_1 = some r) ∧ Aside0 (kq ≤ k) ∧ Drawn0 w w')
  case atStart => exact ⟨(0), sm_, H', ⟨Nat.le_refl _⟩, by repeat (first | exact Drawn0.refl _ | apply Drawn0.step)⟩
  case round =>
   clear H'; (try clear c1); (try clear p2); (try clear c3); (try clear c3b0); (try clear c3b1); (try clear c3b2); obtain ⟨x5_1, rfl, HA, HK1, ⟨m1, rfl⟩⟩ := hrel
   cases gk with
   | zero => exact absurd HA.out (by simp [laws_ints.l0])
   | succ k1 =>
    have H := HA.out; clear HA; simp only [laws_ints.l0] at H; revert H; refine ic_ (fun c4b0 H => ?_) (fun c4b0 H => ?_)
    ·revert H; refine ih_ fun c5b0 H => ?_
     revert H; refine ih_ fun c6b0 H => ?_
     by_cases c7 : (rd l0 x5_1) = (rd l1 x5_1)
     ·rw [if_pos c7] at H; have c7b0 : ((rd l0 x5_1) == (rd l1 x5_1)) = true := beq_iff_eq.mpr c7; have c7b1 : ((rd l0 x5_1) != (rd l1 x5_1)) = false := bne_eq_false_iff_eq.mpr c7; clear c7; have H' := sd_ H; clear H; have p673 : 0 ≤ (x5_1 : Int) := dt_; have q673 : x5_1 < (l0.length : Int) := dt_; obtain ⟨ad673, e673, hx673_0⟩ := Kd.at_int HR0.out x5_1 p673 q673
      cases e673
      replace p673 := eq_true p673; replace q673 := eq_true q673; have p674 : 0 ≤ (x5_1 : Int) := dt_; have q674 : x5_1 < (l1.length : Int) := dt_; obtain ⟨ad674, e674, hx674_0⟩ := Kd.at_int HR1.out x5_1 p674 q674
      cases e674
      replace p674 := eq_true p674; replace q674 := eq_true q674; go_wp2
      repeat (go_quiet (fail); try go_wp2)
      go_roundg k1
      case measure => have := HK1.out; omega
      case rel => exact ⟨(wrap64 (x5_1 + 1)), sm_, H', ⟨by have := HK1.out; omega⟩, by repeat (first | exact Drawn0.refl _ | apply Drawn0.step)⟩
     rw [if_neg c7] at H; have c7b0 : ((rd l0 x5_1) == (rd l1 x5_1)) = false := beq_eq_false_iff_ne.mpr c7; have c7b1 : ((rd l0 x5_1) != (rd l1 x5_1)) = true := bne_iff_ne.mpr c7; obtain rfl := Option.some.inj H; have p673 : 0 ≤ (x5_1 : Int) := dt_; have q673 : x5_1 < (l0.length : Int) := dt_; obtain ⟨ad673, e673, hx673_0⟩ := Kd.at_int HR0.out x5_1 p673 q673
     cases e673
     replace p673 := eq_true p673; replace q673 := eq_true q673; have p674 : 0 ≤ (x5_1 : Int) := dt_; have q674 : x5_1 < (l1.length : Int) := dt_; obtain ⟨ad674, e674, hx674_0⟩ := Kd.at_int HR1.out x5_1 p674 q674
     cases e674
     replace p674 := eq_true p674; replace q674 := eq_true q674; go_wp2
     repeat (go_quiet (fail); try go_wp2)
     go_ret; exact ⟨by first | rfl | (simp; done) | (simp [*]; done), by repeat (first | exact Drawn0.refl _ | apply Drawn0.step)⟩
    obtain rfl := Option.some.inj H; go_wp2
    repeat (go_quiet (fail); try go_wp2)
    go_ret; exact ⟨by first | rfl | (simp; done) | (simp [*]; done), by repeat (first | exact Drawn0.refl _ | apply Drawn0.step)⟩
 rw [if_neg c3] at H; have c3b0 : ((l0.length : Int) == (l1.length : Int)) = false := beq_eq_false_iff_ne.mpr c3; have c3b1 : ((l0.length : Int) != (l1.length : Int)) = true := bne_iff_ne.mpr c3
 have c3b2 : (l0.length == l1.length) = false := by first | simpa using c3 | (simp at c3 ⊢; omega)
 obtain rfl := Option.some.inj H; go_enter Try.func10, Try.ntmps10; go_wp2
 repeat (go_quiet (fail); try go_wp2)
 go_ret; exact ⟨by first | rfl | (simp; done) | (simp [*]; done), by repeat (first | exact Drawn0.refl _ | apply Drawn0.step)⟩


/-- A state of type 61 at block g of W; what its slices lead to came in by w0. -/
def IsS61 (w0 W : World) (g : Nat) (f0 : List Int) (f1 : Int) (f2 : Int) : Prop := ∃ A0 c0, W.heap[g]? = some (.cells #[.slice A0 f0.length c0, .int .i64 f1, .int .i64 f2] 61 (0, 0)) ∧ w0.heap.size ≤ g ∧ Kd.C (Kd.int .u8) w0 A0 f0.length f0
theorem IsS61.grown {w0 W : World} {g : Nat} {f0 : List Int} {f1 : Int} {f2 : Int} {W1 : World} {row : Option Nat} (h : IsS61 w0 W g f0 f1 f2) (hw : W.grownBy W1 row) (hne : some g ≠ row) : IsS61 w0 W1 g f0 f1 f2 := by
 obtain ⟨A0, c0, hb, hg, hr0⟩ := h; exact ⟨A0, c0, blk_grown hb hw hne, hg, hr0⟩
theorem IsS61.kept {w0 W : World} {g : Nat} {f0 : List Int} {f1 : Int} {f2 : Int} {W1 : World} {S : Nat → Prop} (h : IsS61 w0 W g f0 f1 f2) (hk : Kept W W1 S) (hne : ¬ S g) : IsS61 w0 W1 g f0 f1 f2 := by
 obtain ⟨A0, c0, hb, hg, hr0⟩ := h; exact ⟨A0, c0, blk_kept hb hk hne, hg, hr0⟩
theorem IsS61.below {w0 W : World} {g : Nat} {f0 : List Int} {f1 : Int} {f2 : Int} {W1 : World} (h : IsS61 w0 W g f0 f1 f2) (hw : Below W.heap.size W W1) : IsS61 w0 W1 g f0 f1 f2 := h.grown (grown_of_below hw none) (by simp)
theorem IsS61.alloc {w0 W : World} {g : Nat} {f0 : List Int} {f1 : Int} {f2 : Int} (h : IsS61 w0 W g f0 f1 f2) (o : Obj) : IsS61 w0 (W.alloc o) g f0 f1 f2 := h.below (below_alloc (Below.refl _ _) o)
theorem IsS61.drewN {w0 W : World} {g : Nat} {f0 : List Int} {f1 : Int} {f2 : Int} (h : IsS61 w0 W g f0 f1 f2) (m : Nat) : IsS61 w0 (W.drewN m) g f0 f1 f2 := h
theorem IsS61.drew {w0 W : World} {g : Nat} {f0 : List Int} {f1 : Int} {f2 : Int} (h : IsS61 w0 W g f0 f1 f2) : IsS61 w0 W.drew g f0 f1 f2 := h
theorem IsS61.apart {w0 W : World} {g : Nat} {f0 : List Int} {f1 : Int} {f2 : Int} {α : Type} {d : Kd α} {e : Nat} {base : Nat} {ok : Nat → Prop} {v : Value} {xs : List α} (h : IsS61 w0 W g f0 f1 f2) (ho : d.R e W base ok v xs) (ht : ∀ q, q ∈ e :: d.E → q ≠ 61) : d.R e W base (fun k => ok k ∧ k ≠ g) v xs := by
 obtain ⟨A0, c0, hb, hg, hr0⟩ := h; exact Kd.R_types ho hb ht
theorem IsS61.own_ne {w0 W : World} {g : Nat} {f0 : List Int} {f1 : Int} {f2 : Int} {α : Type} {d : Kd α} {e : Nat} {base : Nat} {ok : Nat → Prop} {v : Value} {xs : List α} (h : IsS61 w0 W g f0 f1 f2) (ho : d.R e W base ok v xs) (ht : e ≠ 61) : some g ≠ v.ownBlock := by
 obtain ⟨A0, c0, hb, hg, hr0⟩ := h; exact Kd.R_ne ho hb ht
theorem IsS61.lt {w0 W : World} {g : Nat} {f0 : List Int} {f1 : Int} {f2 : Int} (h : IsS61 w0 W g f0 f1 f2) : g < W.heap.size := by
 obtain ⟨A0, c0, hb, hg, hr0⟩ := h; exact blk_lt hb
theorem IsS61.ge {w0 W : World} {g : Nat} {f0 : List Int} {f1 : Int} {f2 : Int} (h : IsS61 w0 W g f0 f1 f2) : w0.heap.size ≤ g := by
 obtain ⟨A0, c0, hb, hg, hr0⟩ := h; exact hg
theorem IsS61.ne_blk {w0 W : World} {g : Nat} {f0 : List Int} {f1 : Int} {f2 : Int} {a : Nat} {cs : Array Value} {t : TypeId} {fr : Nat × Nat} (h : IsS61 w0 W g f0 f1 f2) (hb2 : W.heap[a]? = some (.cells cs t fr)) (ht : t ≠ 61) : g ≠ a := by
 obtain ⟨A0, c0, hb, hg, hr0⟩ := h; rintro rfl; rw [hb] at hb2; injection hb2 with hb2; injection hb2 with _ ht2; exact ht ht2.symm
theorem IsS61.far {w0 W : World} {g : Nat} {f0 : List Int} {f1 : Int} {f2 : Int} {p : Addr} (h : IsS61 w0 W g f0 f1 f2) (hne : g ≠ p.block) (u : Value) : IsS61 w0 (W.setCell p u) g f0 f1 f2 := by
 obtain ⟨A0, c0, hb, hg, hr0⟩ := h; exact ⟨A0, c0, blk_far hb hne u, hg, hr0⟩
theorem cellS61_0 {W : World} {g : Nat} {A0 : Option Addr} {c0 : Nat} {f0 : List Int} {f1 : Int} {f2 : Int} (h : W.heap[g]? = some (.cells #[.slice A0 f0.length c0, .int .i64 f1, .int .i64 f2] 61 (0, 0))) : W.cell? ⟨g, 0, none⟩ = some (.slice A0 f0.length c0) := (blk_cell h 0).trans rfl
theorem cellS61_1 {W : World} {g : Nat} {A0 : Option Addr} {c0 : Nat} {f0 : List Int} {f1 : Int} {f2 : Int} (h : W.heap[g]? = some (.cells #[.slice A0 f0.length c0, .int .i64 f1, .int .i64 f2] 61 (0, 0))) : W.cell? ⟨g, 1, none⟩ = some (.int .i64 f1) := (blk_cell h 1).trans rfl
theorem IsS61.set_1 {w0 W : World} {g : Nat} {f0 : List Int} {f1 : Int} {f2 : Int} (h : IsS61 w0 W g f0 f1 f2) (x : Int) : IsS61 w0 (W.setCell ⟨g, 1, none⟩ (.int .i64 x)) g f0 x f2 := by
 obtain ⟨A0, c0, hb, hg, hr0⟩ := h; exact ⟨A0, c0, by simpa using blk_set hb 1 (.int .i64 x), hg, hr0⟩
theorem cellS61_2 {W : World} {g : Nat} {A0 : Option Addr} {c0 : Nat} {f0 : List Int} {f1 : Int} {f2 : Int} (h : W.heap[g]? = some (.cells #[.slice A0 f0.length c0, .int .i64 f1, .int .i64 f2] 61 (0, 0))) : W.cell? ⟨g, 2, none⟩ = some (.int .i64 f2) := (blk_cell h 2).trans rfl
theorem IsS61.set_2 {w0 W : World} {g : Nat} {f0 : List Int} {f1 : Int} {f2 : Int} (h : IsS61 w0 W g f0 f1 f2) (x : Int) : IsS61 w0 (W.setCell ⟨g, 2, none⟩ (.int .i64 x)) g f0 f1 x := by
 obtain ⟨A0, c0, hb, hg, hr0⟩ := h; exact ⟨A0, c0, by simpa using blk_set hb 2 (.int .i64 x), hg, hr0⟩
theorem IsS61.new (w0 W : World) (A0 : Option Addr) (c0 : Nat) (f0 : List Int) (f1 : Int) (f2 : Int) (hB : Below w0.heap.size w0 W) (hr0 : Kd.C (Kd.int .u8) w0 A0 f0.length f0) : IsS61 w0 (W.alloc (.cells #[.slice A0 f0.length c0, .int .i64 f1, .int .i64 f2] 61)) W.heap.size f0 f1 f2 := ⟨A0, c0, by simpa using heap_alloc_new W _, hB.size, hr0⟩

def spec_l1New.l0 : Nat → List Int → Int → Int → Option (List Int × Int × Int)
 | 0, _, _, _ => none
 | k + 1, x0, x3, x4 => if x4 < (x0.length : Int) then (if x4 < 4000 then (if 0 ≤ x4 then (spec_l1New.l0 k x0 (Go.bits .and .i64 (wrap64 ((wrap64 ((wrap64 (x3 * 151)) + (wrap64 (rd x0 x4)))) + 7)) 1073741823) (wrap64 (x4 + 1))) else (none)) else (some (x0, 0, x3))) else (some (x0, 0, x3))
def spec_l1New.f (k : Nat) (l0 : List Int) : Option (List Int × Int × Int) := spec_l1New.l0 k l0 (wrap64 (242117 + (l0.length : Int))) 0
set_option maxHeartbeats 8000000 in
set_option maxRecDepth 100000 in
theorem spec_l1New.calls (k : Nat) (A0 : Option Addr) (c0 : Nat) (l0 : List Int) (r1 : List Int) (r2 : Int) (r3 : Int) (w0 w : World) (hB : Below w0.heap.size w0 w) (hr0 : Kd.C (Kd.int .u8) w0 A0 l0.length l0) (hc0 : l0.length ≤ c0) (h : spec_l1New.f k l0 = some (r1, r2, r3)) :
  Calls Try.prog 15 #[.slice A0 l0.length c0] w fun e w' => ∃ g_ : Nat, e = .returned (.pointer (some ⟨g_, 0, none⟩)) ∧ IsS61 w0 w' g_ r1 r2 r3 ∧ Below w0.heap.size w0 w' ∧ Below w.heap.size w w' := by
 have hu61 := Try.underlying61; have HR0 := sd_ hr0; have HC0 := sd_ hc0; clear hr0 hc0; have HBW := sd_ (Below.refl w.heap.size w); have HW0 := sd_ hB.size; have HB := sd_ hB; clear hB; have H : (spec_l1New.l0 k l0 (wrap64 (242117 + (l0.length : Int))) 0) = some (r1, r2, r3) := h; clear h; have H' := sd_ H; clear H; go_enter Try.func15, Try.ntmps15; go_wp2
 go_loopg [3, 4] k (fun kq v3 v4 w' => ∃ (x3_1 : Int) (x4_1 : Int), v3 = .int .i64 x3_1 ∧ v4 = .int .i64 x4_1 ∧ Aside0 (spec_l1New.l0 kq l0 x3_1 x4_1 = some (r1, r2, r3)) ∧ Aside0 (kq ≤ k) ∧ Aside0 (Below w0.heap.size w0 w') ∧ Aside0 (Below w.heap.size w w'))
 case atStart => exact ⟨(wrap64 (242117 + (l0.length : Int))), (0), sm_, sm_, H', ⟨Nat.le_refl _⟩, ⟨bw0_ HB.out⟩, ⟨bw0_ HBW.out⟩⟩
 case round =>
  clear H'; (try clear c1); obtain ⟨x3_1, x4_1, rfl, rfl, HA, HK1, HB, HBW⟩ := hrel
  cases gk with
  | zero => exact absurd HA.out (by simp [spec_l1New.l0])
  | succ k1 =>
   have H := HA.out; clear HA; simp only [spec_l1New.l0] at H; revert H; refine ic_ (fun c2b0 H => ?_) (fun c2b0 H => ?_)
   ·revert H; refine ic_ (fun c3b0 H => ?_) (fun c3b0 H => ?_)
    ·revert H; refine ih_ fun c4b0 H => ?_
     have H' := sd_ H; clear H; have p101 : 0 ≤ (x4_1 : Int) := dt_; have q101 : x4_1 < (l0.length : Int) := dt_; obtain ⟨ad101, e101, hx101_0⟩ := Kd.at_int HR0.out x4_1 p101 q101
     cases e101
     replace hx101_0 := pw_cell_below HB.out hx101_0; replace p101 := eq_true p101; replace q101 := eq_true q101; go_wp2; go_roundg k1
     case measure => have := HK1.out; omega
     case rel => exact ⟨(Go.bits .and .i64 (wrap64 ((wrap64 ((wrap64 (x3_1 * 151)) + (wrap64 (rd l0 x4_1)))) + 7)) 1073741823), (wrap64 (x4_1 + 1)), sm_, sm_, H', ⟨by have := HK1.out; omega⟩, ⟨bw0_ HB.out⟩, ⟨bw0_ HBW.out⟩⟩
    simp only [Option.some.injEq, Prod.mk.injEq] at H; obtain ⟨rfl, rfl, rfl⟩ := H; go_wp2_with (first | ((with_reducible refine gate_dst (N := 31) rfl ?_); refine bx_ (N := 31) (cs := #[.slice A0 l0.length c0, .int .i64 0, .int .i64 x3_1]) (t := 61) ?_; intro gb102 hg w5 hbox hb; replace HB := sd_ (below_step (bw0_ HB.out) hb); have BK102 := sd_ (hbox); have GW102 := sd_ (gs_ hg (bw0_ HBW.out)); have GE102 := sd_ ((Nat.le_trans HW0.out (by rw [hg]; exact (below_size (bw0_ HBW.out)) : w.heap.size ≤ gb102) : w0.heap.size ≤ gb102)); replace HBW := sd_ (below_step HBW.out hb); clear hb hbox hg)); go_ret; exact ⟨_, rfl, (show IsS61 w0 _ gb102 l0 0 x3_1 from ⟨_, _, by exact bz_ BK102.out, GE102.out, HR0.out⟩), bw1_ HB.out GE102.out, bw1_ HBW.out GW102.out⟩
   simp only [Option.some.injEq, Prod.mk.injEq] at H; obtain ⟨rfl, rfl, rfl⟩ := H; go_wp2_with (first | ((with_reducible refine gate_dst (N := 31) rfl ?_); refine bx_ (N := 31) (cs := #[.slice A0 l0.length c0, .int .i64 0, .int .i64 x3_1]) (t := 61) ?_; intro gb103 hg w6 hbox hb; replace HB := sd_ (below_step (bw0_ HB.out) hb); have BK103 := sd_ (hbox); have GW103 := sd_ (gs_ hg (bw0_ HBW.out)); have GE103 := sd_ ((Nat.le_trans HW0.out (by rw [hg]; exact (below_size (bw0_ HBW.out)) : w.heap.size ≤ gb103) : w0.heap.size ≤ gb103)); replace HBW := sd_ (below_step HBW.out hb); clear hb hbox hg)); go_ret; exact ⟨_, rfl, (show IsS61 w0 _ gb103 l0 0 x3_1 from ⟨_, _, by exact bz_ BK103.out, GE103.out, HR0.out⟩), bw1_ HB.out GE103.out, bw1_ HBW.out GW103.out⟩


def impl_within.f (a0 : Int) (a1 : Int) (a2 : Int) : Option (Bool) := if a0 ≥ a1 then (some (decide (a0 ≤ a2))) else (some false)
set_option maxHeartbeats 8000000 in
set_option maxRecDepth 100000 in
theorem impl_within.calls (a0 : Int) (a1 : Int) (a2 : Int) (r : Bool) (w : World) (h : impl_within.f a0 a1 a2 = some r) :
  Calls Try.prog 22 #[.int .i64 a0, .int .i64 a1, .int .i64 a2] w fun e w' => e = .returned (.bool r) ∧ Drawn0 w w' := by
 have H : (if a0 ≥ a1 then (some (decide (a0 ≤ a2))) else (some false)) = some r := h; clear h; by_cases c4 : a0 ≥ a1
 ·rw [if_pos c4] at H; have c4b0 : decide (a1 ≤ a0) = true := decide_eq_true c4; clear c4; obtain rfl := Option.some.inj H; go_enter Try.func22, Try.ntmps22; go_wp2; go_ret; exact ⟨by first | rfl | (simp; done) | (simp [*]; done), by repeat (first | exact Drawn0.refl _ | apply Drawn0.step)⟩
 rw [if_neg c4] at H; have c4b0 : decide (a1 ≤ a0) = false := decide_eq_false c4; clear c4; obtain rfl := Option.some.inj H; go_enter Try.func22, Try.ntmps22; go_wp2; go_ret; exact ⟨by first | rfl | (simp; done) | (simp [*]; done), by repeat (first | exact Drawn0.refl _ | apply Drawn0.step)⟩


def impl_System_has.f (a0_0 : Int) (l0_1 : List Int) (l0_2 : List Int) (l0_3 : List Bool) (a1 : Int) : Option (Bool) := (impl_within.f a1 0 (wrap64 (a0_0 - 1))).bind fun t494 => (some t494)
set_option maxHeartbeats 8000000 in
set_option maxRecDepth 100000 in
theorem impl_System_has.calls (a0_0 : Int) (A0_1 : Option Addr) (c0_1 : Nat) (l0_1 : List Int) (A0_2 : Option Addr) (c0_2 : Nat) (l0_2 : List Int) (A0_3 : Option Addr) (c0_3 : Nat) (l0_3 : List Bool) (a1 : Int) (r : Bool) (w : World) (hr0_1 : Kd.C (Kd.int .i64) w A0_1 l0_1.length l0_1) (hc0_1 : l0_1.length ≤ c0_1) (hr0_2 : Kd.C (Kd.int .i64) w A0_2 l0_2.length l0_2) (hc0_2 : l0_2.length ≤ c0_2) (hr0_3 : Kd.C Kd.bool w A0_3 l0_3.length l0_3) (hc0_3 : l0_3.length ≤ c0_3) (h : impl_System_has.f a0_0 l0_1 l0_2 l0_3 a1 = some r) :
  Calls Try.prog 20 #[.agg #[.int .i64 a0_0, .slice A0_1 l0_1.length c0_1, .slice A0_2 l0_2.length c0_2, .slice A0_3 l0_3.length c0_3], .int .i64 a1] w fun e w' => e = .returned (.bool r) ∧ Below w.heap.size w w' := by
 have hu27 := Try.underlying27; have HR0_1 := sd_ hr0_1; have HC0_1 := sd_ hc0_1; clear hr0_1 hc0_1; have HR0_2 := sd_ hr0_2; have HC0_2 := sd_ hc0_2; clear hr0_2 hc0_2; have HR0_3 := sd_ hr0_3; have HC0_3 := sd_ hc0_3; clear hr0_3 hc0_3; have HB := sd_ (Below.refl w.heap.size w); have H : ((impl_within.f a1 0 (wrap64 (a0_0 - 1))).bind fun t494 => (some t494)) = some r := h; clear h
 revert H; refine ob_ fun t494 A3 H => ?_
 obtain rfl := Option.some.inj H; go_enter Try.func20, Try.ntmps20; go_wp2_with (first | ((with_reducible refine gate_dst (N := 2) rfl ?_); refine bx_ (N := 2) (cs := #[.int .i64 a0_0, .slice A0_1 l0_1.length c0_1, .slice A0_2 l0_2.length c0_2, .slice A0_3 l0_3.length c0_3]) (t := 27) ?_; intro gb493 hg w4 hbox hb; have BK493 := sd_ (hbox); have GW493 := sd_ (gs_ hg (bw0_ HB.out)); have GE493 := sd_ (gs_ hg (bw0_ HB.out)); replace HB := sd_ (below_step (bw0_ HB.out) hb); clear hb hbox hg; obtain ⟨z5_0, z5_1, z5_2, z5_3, f5_0, f5_1, f5_2, f5_3⟩ := bf4_ BK493.out) | ((with_reducible refine gate_callee (f := 22) rfl ?_); refine goesL_ (some 9) rfl rfl Try.func22 (by kernel_rfl) rfl #[.int .i64 a1, .int .i64 0, .int .i64 (wrap64 (a0_0 - 1))] rfl la_ ?_; (with_reducible refine (impl_within.calls a1 0 (wrap64 (a0_0 - 1)) t494 _ A3.out).mono ?_); rintro e w' ⟨rfl, ⟨nd, rfl⟩⟩; refine ⟨_, rfl, ?_⟩)); go_ret; exact ⟨an_, bw1_ HB.out GE493.out⟩


def impl_LevelSystem_1.f (a0 : Int) (a1_0 : Int) : Option (Int) := if a0 = 0 then (some 0) else (some (wrap64 ((wrap64 (a1_0 + 1)) - a0)))
set_option maxHeartbeats 8000000 in
set_option maxRecDepth 100000 in
theorem impl_LevelSystem_1.calls (a0 : Int) (g1 : Nat) (a1_0 : Int) (r : Int) (w : World) (hb1 : w.heap[g1]? = some (.cells #[.int .i64 a1_0] 3 (0, 0))) (h : impl_LevelSystem_1.f a0 a1_0 = some r) :
  Calls Try.prog 23 #[.int .i64 a0, .pointer (some ⟨g1, 0, none⟩)] w fun e w' => e = .returned (.int .i64 r) ∧ Drawn0 w w' := by
 have BK1 := sd_ hb1; clear hb1; have H : (if a0 = 0 then (some 0) else (some (wrap64 ((wrap64 (a1_0 + 1)) - a0)))) = some r := h; clear h; by_cases c3 : a0 = 0
 ·rw [if_pos c3] at H; have c3b0 : (a0 == 0) = true := beq_iff_eq.mpr c3; have c3b1 : (a0 != 0) = false := bne_eq_false_iff_eq.mpr c3; clear c3; obtain rfl := Option.some.inj H; go_enter Try.func23, Try.ntmps23; go_wp2; go_ret; exact ⟨by first | rfl | (simp; done) | (simp [*]; done), by repeat (first | exact Drawn0.refl _ | apply Drawn0.step)⟩
 rw [if_neg c3] at H; have c3b0 : (a0 == 0) = false := beq_eq_false_iff_ne.mpr c3; have c3b1 : (a0 != 0) = true := bne_iff_ne.mpr c3; obtain rfl := Option.some.inj H; have z4_0 : w.cell? ⟨g1, 0, none⟩ = some (.int .i64 a1_0) := bk_ BK1 0; have f4_0 := blk_frozen BK1.out 0; go_enter Try.func23, Try.ntmps23; go_wp2; go_ret; exact ⟨by first | rfl | (simp; done) | (simp [*]; done), by repeat (first | exact Drawn0.refl _ | apply Drawn0.step)⟩


def impl_LevelSystem_2.f (a0 : Int) (a1 : Int) (x2_0 : (Int → Option (Int))) : Option (Int) := (x2_0 a0).bind fun t602 => ((x2_0 a1).bind fun t603 => ((x2_0 (mx t602 t603)).bind fun t604 => (some t604)))
def impl_LevelSystem_2.T1 : Bool × List (List Nat × List Nat) := (true, [([], []), ([], []), ([], []), ([1, 2], [1, 2]), ([], []), ([], []), ([4, 5, 3], [4, 5]), ([3, 6], [3, 6]), ([0, 7, 6], [0, 7]), ([8, 8, 0, 1, 2, 3, 4, 5, 6, 7, 8], [8])])
def impl_LevelSystem_2.B1 : List Nat := [0, 0, 0, 6, 0, 0, 62, 126, 255, 511]
theorem impl_LevelSystem_2.tab1 : rtab .any (opsOf Try.f25 1) = impl_LevelSystem_2.T1 := by kernel_rfl
theorem impl_LevelSystem_2.bits1 : waitsOk impl_LevelSystem_2.T1.2 impl_LevelSystem_2.B1 = true := by kernel_rfl
set_option maxHeartbeats 8000000 in
set_option maxRecDepth 100000 in
theorem impl_LevelSystem_2.calls (a0 : Int) (a1 : Int) (g2 : Nat) (x2_0 : (Int → Option (Int))) (K2_0_ : Nat) (F2_0_ C2_0_ : Array Value) (r : Int) (w : World) (hG2_0 : OFn K2_0_) (hF2_0 : OC48 w x2_0 K2_0_ F2_0_ C2_0_) (hb2 : w.heap[g2]? = some (.cells #[.func (.func K2_0_) F2_0_ C2_0_] 48 (0, 0))) (h : impl_LevelSystem_2.f a0 a1 x2_0 = some r) :
  Calls Try.prog 25 #[.int .i64 a0, .int .i64 a1, .pointer (some ⟨g2, 0, none⟩)] w fun e w' => e = .returned (.int .i64 r) ∧ Below w.heap.size w w' := by
 have HG2_0 := sd_ hG2_0; have HF2_0 := sd_ hF2_0; clear hG2_0 hF2_0; have BK2 := sd_ hb2; clear hb2; have HB := sd_ (Below.refl w.heap.size w); have H : ((x2_0 a0).bind fun t602 => ((x2_0 a1).bind fun t603 => ((x2_0 (mx t602 t603)).bind fun t604 => (some t604)))) = some r := h; clear h
 revert H; refine ob_ fun t602 A4 H => ?_
 revert H; refine ob_ fun t603 A5 H => ?_
 obtain ⟨ji6, hji6⟩ : ∃ j_ : Int, (mx t602 t603) = j_ := ⟨_, rfl⟩
 replace H : ((x2_0 (ji6)).bind fun t604 => (some t604)) = some r := by first | (rw [hji6] at H; exact H) | (simp only [hji6] at H ⊢; exact H)
 (try rw [hji6] at A4); (try rw [hji6] at A5); have hji6_ : (if t602 < t603 then t603 else t602) = ji6 := hji6
 revert H; refine ob_ fun t604 A7 H => ?_
 obtain rfl := Option.some.inj H; go_enter Try.func25, Try.ntmps25
 try go_wp2
 replace BK2 := sd_ (blk_drew BK2.out); replace HB := sd_ (below_drew1 HB.out); refine start_ (n := 10) (S := fun w' => w'.cell? ⟨g2, 0, none⟩ = some (.func (.func K2_0_) F2_0_ C2_0_)) (ds := []) #[false, false, false, false, false, false, false, false, false, false] (by kernel_rfl) rfl rfl (bk_ BK2 0) (fun hHeld => ?_); refine with_tabW impl_LevelSystem_2.tab1 impl_LevelSystem_2.bits1 (fun HT_ HW_ => ?_); generalize w.drew = w8 at BK2 HB hHeld ⊢; refine pv_ 2 rfl rfl (any_of HT_.out (by kernel_rfl)) ?_; refine pv_ 5 rfl rfl (any_of HT_.out (by kernel_rfl)) ?_; refine take_ (i := 0) (N := some 6) (v := ?_) (a' := ?_) #[true, false, true, false, false, true, false, false, false, false] rfl rfl (take_ofW HT_.out HW_.out (by kernel_rfl)) (fun _ _ _ h => h) (Or.inl ⟨by rfl, ?_⟩) hHeld ?_ ?_; rotate_left
 ·intro w' s0; go_simp
  with_reducible rfl
 rotate_left
 ·simp only [Act.put, List.setIfInBounds_toArray, List.set_cons_zero, List.set_cons_succ, i64_w, i32_w]; rfl
 refine take_ (i := 1) (N := some 7) (v := ?_) (a' := ?_) #[true, true, true, false, false, true, false, false, false, false] rfl rfl (take_ofW HT_.out HW_.out (by kernel_rfl)) (fun _ _ _ h => h) (Or.inl ⟨by rfl, ?_⟩) hHeld ?_ ?_; rotate_left
 ·intro w' s0; go_simp
  with_reducible rfl
 rotate_left
 ·simp only [Act.put, List.setIfInBounds_toArray, List.set_cons_zero, List.set_cons_succ, i64_w, i32_w]; rfl
 refine take_ (i := 4) (N := some 10) (v := ?_) (a' := ?_) #[true, true, true, false, true, true, false, false, false, false] rfl rfl (take_ofW HT_.out HW_.out (by kernel_rfl)) (fun _ _ _ h => h) (Or.inl ⟨by rfl, ?_⟩) hHeld ?_ ?_; rotate_left
 ·intro w' s0; go_simp
  with_reducible rfl
 rotate_left
 ·simp only [Act.put, List.setIfInBounds_toArray, List.set_cons_zero, List.set_cons_succ, i64_w, i32_w]; rfl
 refine on_ 3 rfl rfl (one_of HT_.out (by kernel_rfl)) fun K hK => ?_
 refine goesO_ HG2_0.out #[.int .i64 a0] (by rfl) rfl rfl la_ rfl ?_
 with_reducible refine (HF2_0.out a0 t602 _ ?side1 A4.out).mono ?_
 (case side1 => exact (bw0_ HB.out)); rintro e w9 ⟨rfl, hb⟩; refine ⟨_, rfl, ?_⟩; replace BK2 := sd_ (bb_ BK2.out hb); replace HB := sd_ (below_step (bw0_ HB.out) hb); (try clear hb); (try clear hb2); (try clear hk); (try clear hi); refine hK.out _ _ (bk_ BK2 0) (fun hHeld => ?_); clear hK K; refine nm_ ?_
 refine on_ 6 rfl rfl (one_of HT_.out (by kernel_rfl)) fun K hK => ?_
 refine goesO_ HG2_0.out #[.int .i64 a1] (by rfl) rfl rfl la_ rfl ?_
 with_reducible refine (HF2_0.out a1 t603 _ ?side1 A5.out).mono ?_
 (case side1 => exact (bw0_ HB.out)); rintro e w10 ⟨rfl, hb⟩; refine ⟨_, rfl, ?_⟩; replace BK2 := sd_ (bb_ BK2.out hb); replace HB := sd_ (below_step (bw0_ HB.out) hb); (try clear hb); (try clear hb2); (try clear hk); (try clear hi); refine hK.out _ _ (bk_ BK2 0) (fun hHeld => ?_); clear hK K; refine nm_ ?_; refine pv_ 7 rfl rfl (any_of HT_.out (by kernel_rfl)) ?_
 refine on_ 8 rfl rfl (one_of HT_.out (by kernel_rfl)) fun K hK => ?_
 refine goesO_ HG2_0.out #[.int .i64 ji6] (by rfl) rfl rfl (by (try simp only [List.map_toArray, List.map_cons, List.map_nil]); first | done | (simp only [hji6]; rfl) | rfl | (simp only [List.length_drop, List.length_take]; rfl)) rfl ?_
 with_reducible refine (HF2_0.out ji6 t604 _ ?side1 A7.out).mono ?_
 (case side1 => exact (bw0_ HB.out)); rintro e w11 ⟨rfl, hb⟩; refine ⟨_, rfl, ?_⟩; replace BK2 := sd_ (bb_ BK2.out hb); replace HB := sd_ (below_step (bw0_ HB.out) hb); (try clear hb); (try clear hb2); (try clear hk); (try clear hi); refine hK.out _ _ (bk_ BK2 0) (fun hHeld => ?_); clear hK K; refine nm_ ?_; refine pv_ 9 rfl rfl (any_of HT_.out (by kernel_rfl)) ?_; refine done_ (done_of HT_.out (by kernel_rfl)) ?_
 try go_wp2
 go_ret; exact ⟨by first | rfl | (simp [errW_none, errW_some] <;> rfl) | (simp only [← hji6]; first | rfl | (simp [errW_none, errW_some] <;> rfl)) | (simp [*, errW_none, errW_some] <;> rfl), bw0_ HB.out⟩


def impl_LevelSystem_4.f (a0 : Int) (a1 : Int) (x2_0 : (Int → Option (Int))) : Option (Bool) := (x2_0 a0).bind fun t608 => ((x2_0 a1).bind fun t609 => (some (decide (t608 ≤ t609))))
def impl_LevelSystem_4.T1 : Bool × List (List Nat × List Nat) := (true, [([], []), ([], []), ([0, 1], [0, 1]), ([], []), ([], []), ([3, 4, 2], [3, 4]), ([2, 5], [2, 5]), ([6, 5, 0, 1, 2, 3, 4, 5, 6], [6])])
def impl_LevelSystem_4.B1 : List Nat := [0, 0, 3, 0, 0, 31, 63, 127]
theorem impl_LevelSystem_4.tab1 : rtab .any (opsOf Try.f27 1) = impl_LevelSystem_4.T1 := by kernel_rfl
theorem impl_LevelSystem_4.bits1 : waitsOk impl_LevelSystem_4.T1.2 impl_LevelSystem_4.B1 = true := by kernel_rfl
set_option maxHeartbeats 8000000 in
set_option maxRecDepth 100000 in
theorem impl_LevelSystem_4.calls (a0 : Int) (a1 : Int) (g2 : Nat) (x2_0 : (Int → Option (Int))) (K2_0_ : Nat) (F2_0_ C2_0_ : Array Value) (r : Bool) (w : World) (hG2_0 : OFn K2_0_) (hF2_0 : OC48 w x2_0 K2_0_ F2_0_ C2_0_) (hb2 : w.heap[g2]? = some (.cells #[.func (.func K2_0_) F2_0_ C2_0_] 48 (0, 0))) (h : impl_LevelSystem_4.f a0 a1 x2_0 = some r) :
  Calls Try.prog 27 #[.int .i64 a0, .int .i64 a1, .pointer (some ⟨g2, 0, none⟩)] w fun e w' => e = .returned (.bool r) ∧ Below w.heap.size w w' := by
 have HG2_0 := sd_ hG2_0; have HF2_0 := sd_ hF2_0; clear hG2_0 hF2_0; have BK2 := sd_ hb2; clear hb2; have HB := sd_ (Below.refl w.heap.size w); have H : ((x2_0 a0).bind fun t608 => ((x2_0 a1).bind fun t609 => (some (decide (t608 ≤ t609))))) = some r := h; clear h
 revert H; refine ob_ fun t608 A4 H => ?_
 revert H; refine ob_ fun t609 A5 H => ?_
 obtain rfl := Option.some.inj H; go_enter Try.func27, Try.ntmps27
 try go_wp2
 replace BK2 := sd_ (blk_drew BK2.out); replace HB := sd_ (below_drew1 HB.out); refine start_ (n := 8) (S := fun w' => w'.cell? ⟨g2, 0, none⟩ = some (.func (.func K2_0_) F2_0_ C2_0_)) (ds := []) #[false, false, false, false, false, false, false, false] (by kernel_rfl) rfl rfl (bk_ BK2 0) (fun hHeld => ?_); refine with_tabW impl_LevelSystem_4.tab1 impl_LevelSystem_4.bits1 (fun HT_ HW_ => ?_); generalize w.drew = w6 at BK2 HB hHeld ⊢; refine pv_ 1 rfl rfl (any_of HT_.out (by kernel_rfl)) ?_; refine pv_ 4 rfl rfl (any_of HT_.out (by kernel_rfl)) ?_; refine take_ (i := 0) (N := some 6) (v := ?_) (a' := ?_) #[true, true, false, false, true, false, false, false] rfl rfl (take_ofW HT_.out HW_.out (by kernel_rfl)) (fun _ _ _ h => h) (Or.inl ⟨by rfl, ?_⟩) hHeld ?_ ?_; rotate_left
 ·intro w' s0; go_simp
  with_reducible rfl
 rotate_left
 ·simp only [Act.put, List.setIfInBounds_toArray, List.set_cons_zero, List.set_cons_succ, i64_w, i32_w]; rfl
 refine take_ (i := 3) (N := some 9) (v := ?_) (a' := ?_) #[true, true, false, true, true, false, false, false] rfl rfl (take_ofW HT_.out HW_.out (by kernel_rfl)) (fun _ _ _ h => h) (Or.inl ⟨by rfl, ?_⟩) hHeld ?_ ?_; rotate_left
 ·intro w' s0; go_simp
  with_reducible rfl
 rotate_left
 ·simp only [Act.put, List.setIfInBounds_toArray, List.set_cons_zero, List.set_cons_succ, i64_w, i32_w]; rfl
 refine on_ 2 rfl rfl (one_of HT_.out (by kernel_rfl)) fun K hK => ?_
 refine goesO_ HG2_0.out #[.int .i64 a0] (by rfl) rfl rfl la_ rfl ?_
 with_reducible refine (HF2_0.out a0 t608 _ ?side1 A4.out).mono ?_
 (case side1 => exact (bw0_ HB.out)); rintro e w7 ⟨rfl, hb⟩; refine ⟨_, rfl, ?_⟩; replace BK2 := sd_ (bb_ BK2.out hb); replace HB := sd_ (below_step (bw0_ HB.out) hb); (try clear hb); (try clear hb2); (try clear hk); (try clear hi); refine hK.out _ _ (bk_ BK2 0) (fun hHeld => ?_); clear hK K; refine nm_ ?_
 refine on_ 5 rfl rfl (one_of HT_.out (by kernel_rfl)) fun K hK => ?_
 refine goesO_ HG2_0.out #[.int .i64 a1] (by rfl) rfl rfl la_ rfl ?_
 with_reducible refine (HF2_0.out a1 t609 _ ?side1 A5.out).mono ?_
 (case side1 => exact (bw0_ HB.out)); rintro e w8 ⟨rfl, hb⟩; refine ⟨_, rfl, ?_⟩; replace BK2 := sd_ (bb_ BK2.out hb); replace HB := sd_ (below_step (bw0_ HB.out) hb); (try clear hb); (try clear hb2); (try clear hk); (try clear hi); refine hK.out _ _ (bk_ BK2 0) (fun hHeld => ?_); clear hK K; refine nm_ ?_; refine pv_ 6 rfl rfl (any_of HT_.out (by kernel_rfl)) ?_; refine pv_ 7 rfl rfl (any_of HT_.out (by kernel_rfl)) ?_; refine done_ (done_of HT_.out (by kernel_rfl)) ?_
 try go_wp2
 go_ret; exact ⟨an_, bw0_ HB.out⟩

end Go.Proofs.Ytjjkagnbdfofbaa.P
end
