-- Several texts in one (wip/tools/merge.py).
import Derived.Test.YtipfkicndjddgaaP0
import Derived.ProofKit
import Derived.ChangeArms
import Derived.Deep.Slices
import Derived.Lib.SmallJoins
section
namespace Go.Proofs.Ytipfkicndjddgaa.P
open Go.RowKit Go.Proofs.YtipfkicndjddgaaW.PrintWords Go.Proofs.YtipfkicndjddgaaW.PrintLast Go.Proofs.YtipfkicndjddgaaW.PrintMore
set_option linter.unusedVariables false
set_option linter.unusedSimpArgs false
/-- One node: the type's row and the kids' lie apart, and the kids' inner rows from each other. -/
def MT (d : Kd S40) (w : World) (base : Nat) (ok : Nat → Prop) (x : S40) (cs : List Value) : Prop :=
  ∃ (v2 v3 : Value) (f : Nat → Bool), cs = [.int .i64 x.f0, .int .i64 x.f1, v2, v3] ∧ (Kd.int .i64).R 3 w base (fun k => ok k ∧ f k = true) v2 x.f2 ∧ Kd.S d 40 w base (fun k => ok k ∧ f k = false) v3 x.f3
/-- A kind of terms that is read as terms are. -/
structure Like (d : Kd S40) : Prop where
  K : d.K = k40.K
  sz : d.sz = 4
  E : d.E = k40.E
theorem like_C {d : Kd S40} (h : Like d) {w : World} {A : Option Addr} {n : Nat} {xs : List S40} (hc : d.C w A n xs) : k40.C w A n xs := Kd.C_imp (d := d) (d' := k40) h.sz (fun w x cs hk => by rw [← h.K]; exact hk) hc
theorem k40_E : k40.E = [3, 40] := rfl
def stepK (d : Kd S40) (h : Like d) : Kd S40 where
  sz := 4
  E := k40.E
  K := k40.K
  M := MT d
  K_len := fun hk => k40.K_len hk
  K_one := fun hk => k40.K_one hk
  K_below := fun hb hk => k40.K_below hb hk
  K_of_M := by
    rintro w base ok x cs ⟨v2, v3, f, rfl, g2, g3⟩
    obtain ⟨A2, c2, rfl, l2, h2⟩ := Kd.R_reads g2
    obtain ⟨A3, c3, rfl, l3, h3⟩ := Kd.S_reads g3
    exact k40_mk w x l2 h2 l3 (like_C h h3)
  M_mono := by
    rintro w base ok ok' x cs hok ⟨v2, v3, f, rfl, g2, g3⟩
    exact ⟨v2, v3, f, rfl, Kd.R_mono g2 fun k hk => ⟨hok k hk.1, hk.2⟩, Kd.S_mono g3 fun k hk => ⟨hok k hk.1, hk.2⟩⟩
  M_bound := by
    rintro w base ok x cs ⟨v2, v3, f, rfl, g2, g3⟩
    refine ⟨v2, v3, f, rfl, Kd.R_mono (Kd.R_bound g2) fun k hk => ⟨⟨hk.1.1, hk.2.1, hk.2.2.1, ?_⟩, hk.1.2⟩, Kd.S_mono (Kd.S_bound g3) fun k hk => ⟨⟨hk.1.1, hk.2.1, hk.2.2.1, ?_⟩, hk.1.2⟩⟩
    · obtain ⟨q, hq, hc⟩ := hk.2.2.2
      refine ⟨q, ?_, hc⟩
      rw [k40_E]
      rcases List.mem_cons.mp hq with rfl | hq
      · exact List.mem_cons_self
      · cases hq
    · obtain ⟨q, hq, hc⟩ := hk.2.2.2
      refine ⟨q, ?_, hc⟩
      rcases List.mem_cons.mp hq with rfl | hq
      · rw [k40_E]; exact List.mem_cons_of_mem _ List.mem_cons_self
      · rw [h.E] at hq; exact hq
  M_move := by
    rintro w w1 base ok x cs hm ⟨v2, v3, f, rfl, g2, g3⟩
    exact ⟨v2, v3, f, rfl, Kd.R_move g2 fun k hk => hm k hk.1, Kd.S_move g3 fun k hk => hm k hk.1⟩
  M_lower := by
    rintro w base base' ok x cs hb ⟨v2, v3, f, rfl, g2, g3⟩
    exact ⟨v2, v3, f, rfl, Kd.R_lower g2 hb, Kd.S_lower g3 hb⟩
def zeroK : Kd S40 where
  sz := 4
  E := k40.E
  K := k40.K
  M := fun _ _ _ _ _ => False
  K_len := fun hk => k40.K_len hk
  K_one := fun hk => k40.K_one hk
  K_below := fun hb hk => k40.K_below hb hk
  K_of_M := fun h => h.elim
  M_mono := fun _ h => h
  M_bound := fun h => h.elim
  M_move := fun _ h => h
  M_lower := fun _ h => h
/-- Terms of so many levels. -/
def kTn : Nat → {d : Kd S40 // Like d}
  | 0 => ⟨zeroK, rfl, rfl, rfl⟩
  | n + 1 => ⟨stepK (kTn n).1 (kTn n).2, rfl, rfl, rfl⟩
theorem S_imp {α : Type} {d d' : Kd α} (hs : d.sz = d'.sz) (h : ∀ w base ok x cs, d.M w base ok x cs → d'.M w base ok x cs) {e : Nat} {w : World} {base : Nat} {ok : Nat → Prop} {v : Value} {xs : List α} (hr : Kd.S d e w base ok v xs) : Kd.S d' e w base ok v xs := by
  obtain ⟨f, hr⟩ := hr
  exact ⟨f, Kd.R_imp (d := Kd.tag f d) (d' := Kd.tag f d') hs (fun w base ok x cs hp => h _ _ _ _ _ hp) hr⟩
theorem kTn_sz (n : Nat) : (kTn n).1.sz = 4 := (kTn n).2.sz
theorem kTn_up : ∀ n {w base ok x cs}, (kTn n).1.M w base ok x cs → (kTn (n + 1)).1.M w base ok x cs
  | 0, _, _, _, _, _, h => h.elim
  | n + 1, _, _, _, _, _, ⟨v2, v3, f, e, g2, g3⟩ => ⟨v2, v3, f, e, g2, S_imp (by rw [kTn_sz, kTn_sz]) (fun _ _ _ _ _ hp => kTn_up n hp) g3⟩
theorem kTn_le {n m : Nat} (hnm : n ≤ m) {w base ok x cs} (h : (kTn n).1.M w base ok x cs) : (kTn m).1.M w base ok x cs := by
  obtain ⟨d, rfl⟩ : ∃ d, m = n + d := ⟨m - n, by omega⟩
  clear hnm
  induction d with
  | zero => exact h
  | succ d ih => exact kTn_up _ ih
/-- Terms. -/
def kT : Kd S40 where
  sz := 4
  E := k40.E
  K := k40.K
  M := fun w base ok x cs => ∃ n, (kTn n).1.M w base ok x cs
  K_len := fun hk => k40.K_len hk
  K_one := fun hk => k40.K_one hk
  K_below := fun hb hk => k40.K_below hb hk
  K_of_M := fun ⟨n, h⟩ => by have := (kTn n).1.K_of_M h; rw [(kTn n).2.K] at this; exact this
  M_mono := fun hok ⟨n, h⟩ => ⟨n, (kTn n).1.M_mono hok h⟩
  M_bound := fun ⟨n, h⟩ => ⟨n, by have := (kTn n).1.M_bound h; rw [(kTn n).2.E] at this; exact this⟩
  M_move := fun hm ⟨n, h⟩ => ⟨n, (kTn n).1.M_move hm h⟩
  M_lower := fun hb ⟨n, h⟩ => ⟨n, (kTn n).1.M_lower hb h⟩
theorem kT_like : Like kT := ⟨rfl, rfl, rfl⟩
theorem kT_C {w : World} {A : Option Addr} {n : Nat} {xs : List S40} (hc : kT.C w A n xs) : k40.C w A n xs := like_C kT_like hc
theorem kT_open {w : World} {base : Nat} {ok : Nat → Prop} {x : S40} {cs : List Value} (h : kT.M w base ok x cs) : MT kT w base ok x cs := by
  obtain ⟨n, h⟩ := h
  cases n with
  | zero => exact h.elim
  | succ n =>
    obtain ⟨v2, v3, f, e, g2, g3⟩ := h
    exact ⟨v2, v3, f, e, g2, S_imp (d' := kT) (kTn_sz n) (fun _ _ _ _ _ hp => ⟨n, hp⟩) g3⟩
theorem kT_back {e : Nat} {w : World} {base : Nat} {ok : Nat → Prop} {v : Value} {xs : List S40} (h : Kd.S kT e w base ok v xs) : ∃ n, Kd.S (kTn n).1 e w base ok v xs := by
  obtain ⟨f, h0, inner, ho, hr⟩ := h
  obtain ⟨N, hN⟩ := Kd.reps_bounded (R := fun n p c => (Kd.tag f (kTn n).1).M w base (fun k => ok k ∧ some k ≠ v.ownBlock) p c) (fun n m p c hnm hp => kTn_le hnm hp) hr
  refine ⟨N, f, h0, inner, ?_, ?_⟩
  · rw [show (Kd.tag f (kTn N).1).sz = 4 from kTn_sz N]; exact ho
  · rw [show (Kd.tag f (kTn N).1).sz = 4 from kTn_sz N]; exact hN
theorem kT_close {w : World} {base : Nat} {ok : Nat → Prop} {x : S40} {cs : List Value} (h : MT kT w base ok x cs) : kT.M w base ok x cs := by
  obtain ⟨v2, v3, f, e, g2, g3⟩ := h
  obtain ⟨n, g3⟩ := kT_back g3
  exact ⟨n + 1, v2, v3, f, e, g2, g3⟩
theorem kT_zero (w : World) (base : Nat) (ok : Nat → Prop) : kT.M w base ok z40 [.int .i64 0, .int .i64 0, .slice none 0 0, .slice none 0 0] := kT_close ⟨_, _, fun _ => true, rfl, Kd.R_nil _ _ _ _ _, Kd.S_nil _ _ _ _ _⟩
/-- Something in memory, within blocks lo to hi. -/
structure Ob where
  lo : Nat
  hi : Nat
  P : World → Prop
  mv : ∀ W W' : World, P W → (∀ k, lo ≤ k → k < hi → W'.heap[k]? = W.heap[k]?) → P W'
/-- The newest first: each lies above those that were made ahead of it; what stood at w stands. -/
def All (w : World) : List Ob → World → Prop
  | [], W => Below w.heap.size w W
  | o :: l, W => (o.P W ∧ o.hi ≤ W.heap.size ∧ w.heap.size ≤ o.lo ∧ ∀ o' ∈ l, o'.hi ≤ o.lo ∨ o.hi ≤ o'.lo) ∧ All w l W
theorem All.base {w W : World} : ∀ {l : List Ob}, All w l W → Below w.heap.size w W
  | [], h => h
  | _ :: _, h => h.2.base
theorem All.top {w W : World} : ∀ {l : List Ob}, All w l W → ∀ o ∈ l, o.hi ≤ W.heap.size
  | [], _, _, h => by cases h
  | o :: l, h, o', ho => by
    rcases List.mem_cons.mp ho with rfl | ho
    · exact h.1.2.1
    · exact h.2.top o' ho
theorem All.below {w W W' : World} : ∀ {l : List Ob}, All w l W → Below W.heap.size W W' → All w l W'
  | [], h, hb => below_step h hb
  | o :: l, h, hb => ⟨⟨o.mv _ _ h.1.1 fun k _ hk => hb.block k (Nat.lt_of_lt_of_le hk h.1.2.1), Nat.le_trans h.1.2.1 hb.size, h.1.2.2⟩, h.2.below hb⟩
theorem All.drewN {w W : World} {l : List Ob} (h : All w l W) (n : Nat) : All w l (W.drewN n) := h.below (pw_below_drewN (Below.refl _ _) n)
theorem All.drew {w W : World} {l : List Ob} (h : All w l W) : All w l W.drew := h.below (below_drew1 (Below.refl _ _))
theorem All.push {w W0 W : World} {l : List Ob} (h : All w l W0) (hb : Below W0.heap.size W0 W) (o : Ob) (hP : o.P W) (hlo : W0.heap.size ≤ o.lo) (hhi : o.hi ≤ W.heap.size) : All w (o :: l) W :=
  ⟨⟨hP, hhi, Nat.le_trans h.base.size hlo, fun o' ho => Or.inl (Nat.le_trans (h.top o' ho) hlo)⟩, h.below hb⟩
/-- One of them is written: the others stand. -/
theorem All.mark {w W W' : World} {S : Nat → Prop} {o o' : Ob} {l2 : List Ob} (hk : Kept W W' S) (hb : Below w.heap.size w W → Below w.heap.size w W') (hS : ∀ k, S k → o.lo ≤ k ∧ k < o.hi) (e1 : o'.lo = o.lo) (e2 : o'.hi = o.hi) (hP : o'.P W') :
    ∀ {l1 : List Ob}, All w (l1 ++ o :: l2) W → All w (l1 ++ o' :: l2) W'
  | [], h => by
    refine ⟨⟨hP, by rw [e2]; exact Nat.le_trans h.1.2.1 hk.1, by rw [e1]; exact h.1.2.2.1, fun x hx => by rw [e1, e2]; exact h.1.2.2.2 x hx⟩, ?_⟩
    have older : ∀ x ∈ l2, x.hi ≤ o.lo ∨ o.hi ≤ x.lo := h.1.2.2.2
    have h2 := h.2
    clear h
    have go : ∀ l : List Ob, (∀ x ∈ l, x.hi ≤ o.lo ∨ o.hi ≤ x.lo) → All w l W → All w l W' := by
      intro l
      induction l with
      | nil => intro _ h; exact hb h
      | cons x l ih =>
        intro hl h
        refine ⟨⟨x.mv _ _ h.1.1 fun k hk1 hk2 => hk.2 k (Nat.lt_of_lt_of_le hk2 h.1.2.1) fun hs => ?_, Nat.le_trans h.1.2.1 hk.1, h.1.2.2⟩, ih (fun y hy => hl y (List.mem_cons_of_mem _ hy)) h.2⟩
        have := hl x List.mem_cons_self
        have := hS k hs
        omega
    exact go l2 older h2
  | x :: l1, h => by
    have hx : o.hi ≤ x.lo ∨ x.hi ≤ o.lo := h.1.2.2.2 o (List.mem_append_right _ List.mem_cons_self)
    refine ⟨⟨x.mv _ _ h.1.1 fun k hk1 hk2 => hk.2 k (Nat.lt_of_lt_of_le hk2 h.1.2.1) fun hs => ?_, Nat.le_trans h.1.2.1 hk.1, h.1.2.2.1, fun y hy => ?_⟩, All.mark hk hb hS e1 e2 hP h.2⟩
    · have := hS k hs
      omega
    · rcases List.mem_append.mp hy with hy | hy
      · exact h.1.2.2.2 y (List.mem_append_left _ hy)
      · rcases List.mem_cons.mp hy with rfl | hy
        · rw [e1, e2]; exact hx
        · exact h.1.2.2.2 y (List.mem_append_right _ (List.mem_cons_of_mem _ hy))
/-- A variable in memory. -/
def Ob.box (g : Nat) (cs : Array Value) (t : TypeId) : Ob := ⟨g, g + 1, fun W => W.heap[g]? = some (.cells cs t (0, 0)), fun W W' h hm => (hm g (Nat.le_refl g) (Nat.lt_succ_self g)).trans h⟩
theorem All.box {w W W1 : World} {l : List Ob} (h : All w l W) {g : Nat} {cs : Array Value} {t : TypeId} (hg : g = W.heap.size) (hbox : W1.heap[g]? = some (.cells cs t (0, 0))) (hb : Below W.heap.size W W1) : All w (Ob.box g cs t :: l) W1 :=
  h.push hb (Ob.box g cs t) hbox (by rw [hg]; exact Nat.le_refl _) (blk_lt hbox)
theorem All.set {w W : World} {l1 l2 : List Ob} {g : Nat} {cs : Array Value} {t : TypeId} (h : All w (l1 ++ Ob.box g cs t :: l2) W) (hw : w.heap.size ≤ g) (hg : W.heap[g]? = some (.cells cs t (0, 0))) (j : Nat) (u : Value) (cs' : Array Value) (e : cs.setIfInBounds j u = cs') : All w (l1 ++ Ob.box g cs' t :: l2) (W.setCell ⟨g, j, none⟩ u) :=
  All.mark (S := fun k => k = g) (o := Ob.box g cs t) (o' := Ob.box g cs' t) ⟨by simp [World.setCell], fun k hk hn => Below.heap_setCell W _ u k hn⟩ (fun b => below_set b hw) (fun k hk => by subst hk; exact ⟨Nat.le_refl _, Nat.lt_succ_self _⟩) rfl rfl (blk_put hg j u e) h
theorem All.at_ {w W : World} {o : Ob} {l2 : List Ob} : ∀ {l1 : List Ob}, All w (l1 ++ o :: l2) W → o.P W ∧ o.hi ≤ W.heap.size ∧ w.heap.size ≤ o.lo
  | [], h => ⟨h.1.1, h.1.2.1, h.1.2.2.1⟩
  | _ :: _, h => All.at_ h.2
theorem All.set4 {w W : World} {l1 l2 : List Ob} {g : Nat} {v0 v1 v2 v3 : Value} {t : TypeId} (h : All w (l1 ++ Ob.box g #[v0, v1, v2, v3] t :: l2) W) (u0 u1 u2 u3 : Value) :
    All w (l1 ++ Ob.box g #[u0, u1, u2, u3] t :: l2) ((((W.setCell ⟨g, 0, none⟩ u0).setCell ⟨g, 1, none⟩ u1).setCell ⟨g, 2, none⟩ u2).setCell ⟨g, 3, none⟩ u3) := by
  have hw : w.heap.size ≤ g := h.at_.2.2
  have g0 : W.heap[g]? = some (.cells #[v0, v1, v2, v3] t (0, 0)) := h.at_.1
  have g1 := blk_put (cs' := #[u0, v1, v2, v3]) g0 0 u0 rfl
  have g2 := blk_put (cs' := #[u0, u1, v2, v3]) g1 1 u1 rfl
  have g3 := blk_put (cs' := #[u0, u1, u2, v3]) g2 2 u2 rfl
  exact All.set (All.set (All.set (All.set h hw g0 0 u0 _ rfl) hw g1 1 u1 _ rfl) hw g2 2 u2 _ rfl) hw g3 3 u3 _ rfl
theorem All.swap {w W : World} {a b : Ob} {l : List Ob} (h : All w (a :: b :: l) W) : All w (b :: a :: l) W :=
  ⟨⟨h.2.1.1, h.2.1.2.1, h.2.1.2.2.1, fun o ho => by
    rcases List.mem_cons.mp ho with rfl | ho
    · exact (h.1.2.2.2 b List.mem_cons_self).symm
    · exact h.2.1.2.2.2 o ho⟩, ⟨h.1.1, h.1.2.1, h.1.2.2.1, fun o ho => h.1.2.2.2 o (List.mem_cons_of_mem _ ho)⟩, h.2.2⟩
theorem All.drop2 {w W : World} {a b : Ob} {l : List Ob} (h : All w (a :: b :: l) W) : All w (a :: l) W := ⟨⟨h.1.1, h.1.2.1, h.1.2.2.1, fun o ho => h.1.2.2.2 o (List.mem_cons_of_mem _ ho)⟩, h.2.2⟩
theorem All.drop3 {w W : World} {a b c : Ob} {l : List Ob} (h : All w (a :: b :: c :: l) W) : All w (a :: b :: l) W := ⟨⟨h.1.1, h.1.2.1, h.1.2.2.1, fun o ho => h.1.2.2.2 o (by rcases List.mem_cons.mp ho with rfl | ho; exact List.mem_cons_self; exact List.mem_cons_of_mem _ (List.mem_cons_of_mem _ ho))⟩, h.2.drop2⟩
theorem gen_any {P : Program} {md : Region.Mode} {ops : Array Oper} {Q : Exit → Act → World → Prop} {S : World → Prop} {ds : List Nat} {fuel : Nat} {l : Array Bool} {a : Act} {W : World} (R : World → Prop) (hR : R W) (h : ∀ w', R w' → wpAnyLast P md ops Q S ds fuel l a w') : wpAnyLast P md ops Q S ds fuel l a W := h W hR
theorem gen_wp {P : Program} {c : Code} {Q : Exit → Act → World → Prop} {a : Act} {W : World} (R : World → Prop) (hR : R W) (h : ∀ w', R w' → Code.wp P c Q a w') : Code.wp P c Q a W := h W hR
/-- One cell of a variable is written. -/
theorem All.put {w W : World} {l1 l2 : List Ob} {g : Nat} {cs : Array Value} {t : TypeId} (h : All w (l1 ++ Ob.box g cs t :: l2) W) (j : Nat) (u : Value) {cs' : Array Value} (e : cs.setIfInBounds j u = cs') : All w (l1 ++ Ob.box g cs' t :: l2) (W.setCell ⟨g, j, none⟩ u) :=
  All.set h h.at_.2.2 h.at_.1 j u cs' e
end Go.Proofs.Ytipfkicndjddgaa.P
end

section
/- How what a law is handed reads as a value of the printed kinds: whole numbers, bools, strings, slices, structs. -/
namespace Go.Proofs.Ytipfkicndjddgaa.P
open Go.RowKit Go.Proofs.YtipfkicndjddgaaW.PrintWords Go.Proofs.YtipfkicndjddgaaW.PrintLast Go.Proofs.YtipfkicndjddgaaW.PrintMore

/-- What reads as data of type t holds a value of the kind d. -/
def Opens {α : Type} (t : TypeId) (d : Kd α) (wf : α → Prop) : Prop :=
  ∀ (H : Type) (enc : TypeId × Value → H) (w : World) (fuel : Nat) (cs : List Value) (x : DataW H × List MemPlace),
    DataW.trod enc Try.prog w 0 (fun _ => true) true fuel t cs = some x → ∃ y : α, d.K w y cs ∧ wf y

theorem opens_int {t : TypeId} {k : IntKind} (hu : Try.prog.underlying t = some (.int k)) : Opens t (Kd.int k) (fun n => (Lit.int k n).wf = true) := by
  intro H enc w fuel cs x h
  obtain ⟨n, rfl, _, hw⟩ := DataW.trod_int hu h
  exact ⟨n, rfl, hw⟩
theorem opens_bool {t : TypeId} (hu : Try.prog.underlying t = some .bool) : Opens t Kd.bool (fun _ => True) := by
  intro H enc w fuel cs x h
  obtain ⟨n, rfl, _⟩ := DataW.trod_bool hu h
  exact ⟨n, rfl, trivial⟩
theorem opens_string {t : TypeId} (hu : Try.prog.underlying t = some .string) : Opens t Kd.string (fun s => s.size ≤ maxLen) := by
  intro H enc w fuel cs x h
  obtain ⟨n, rfl, _, hw⟩ := DataW.trod_string hu h
  exact ⟨n, rfl, hw⟩

theorem list_of {α : Type} (n : Nat) {p : Nat → α → Prop} (h : ∀ i, i < n → ∃ a, p i a) : ∃ l : List α, l.length = n ∧ ∀ i a, l[i]? = some a → p i a := by
  induction n with
  | zero => exact ⟨[], rfl, fun i a h => by simp at h⟩
  | succ n ih =>
    obtain ⟨l, hl, hp⟩ := ih (fun i hi => h i (by omega))
    obtain ⟨a, ha⟩ := h n (by omega)
    refine ⟨l ++ [a], by simp [hl], fun i b hb => ?_⟩
    rcases Nat.lt_or_ge i l.length with hi | hi
    · rw [List.getElem?_append_left hi] at hb
      exact hp i b hb
    · rw [List.getElem?_append_right hi] at hb
      have hi2 : i - l.length = 0 := by
        have := (List.getElem?_eq_some_iff.1 hb).1
        simp at this
        omega
      rw [hi2] at hb
      simp at hb
      subst hb
      rw [show i = n by omega]
      exact ha

/-- A slice's elements, each read with less fuel. -/
theorem slice_opens {α : Type} {t e : TypeId} {d : Kd α} {wf : α → Prop} (hu : Try.prog.underlying t = some (.slice e)) (hc : Try.prog.cellsOf e = d.sz) {H : Type} {enc : TypeId × Value → H} {w : World} {fuel : Nat} {cs : List Value} {x : DataW H × List MemPlace}
    (h : DataW.trod enc Try.prog w 0 (fun _ => true) true fuel t cs = some x)
    (he : ∀ n cs y, n < fuel → DataW.trod enc Try.prog w 0 (fun _ => true) true n e cs = some y → ∃ z : α, d.K w z cs ∧ wf z) :
    ∃ l : List α, (Kd.slice e d).K w l cs ∧ (∀ z ∈ l, wf z) ∧ l.length ≤ maxLen := by
  rcases DataW.trod_slice hu h with ⟨rfl, _⟩ | ⟨a, len, cap, elems, rest, n, rfl, rfl, _, _, hl, hm, hlen, hel, _⟩
  · exact ⟨[], ⟨none, 0, rfl, Nat.le_refl _, by exact Kd.C_nil _ _⟩, by simp, by simp⟩
  · obtain ⟨l, hll, hp⟩ := list_of (α := α) len (p := fun i z => wf z ∧ ∃ c, c.length = d.sz ∧ d.K w z c ∧ ∀ j u, c[j]? = some u → w.cell? (a.add (i * d.sz + j)) = some u) (fun i hi => by
      have h1 := hel i hi
      rw [List.getElem?_eq_getElem (by omega)] at h1
      obtain ⟨c, hc1, hc2⟩ := Option.bind_eq_some_iff.1 h1
      obtain ⟨z, hz, hwz⟩ := he n c _ (by omega) hc2
      obtain ⟨_, hlc, hcell⟩ := World.cells?_some hc1
      rw [hc] at hlc hcell
      refine ⟨z, hwz, c, hlc, hz, fun j u hu2 => ?_⟩
      have hj : j < d.sz := by have := (List.getElem?_eq_some_iff.1 hu2).1; omega
      have h2 := hcell j hj
      rw [hu2, Addr.add_add] at h2
      exact h2)
    refine ⟨l, ⟨some a, cap, by rw [hll], by omega, ?_⟩, fun z hz => ?_, by omega⟩
    · refine ⟨rfl, by rw [hll]; unfold maxLen at hm; omega, fun _ => ⟨a, rfl, fun j p hj => (hp j p hj).2⟩⟩
    · obtain ⟨i, hi⟩ := List.getElem?_of_mem hz
      exact (hp i z hi).1
theorem opens_slice {α : Type} {t e : TypeId} {d : Kd α} {wf : α → Prop} (hu : Try.prog.underlying t = some (.slice e)) (hc : Try.prog.cellsOf e = d.sz) (he : Opens e d wf) :
    Opens t (Kd.slice e d) (fun l => (∀ z ∈ l, wf z) ∧ l.length ≤ maxLen) :=
  fun H enc w _ _ _ h => slice_opens hu hc h (fun n cs y _ hy => he H enc w n cs y hy)
theorem struct1_parts {t : TypeId} {f0 : Field} {H : Type} {enc : TypeId × Value → H} {w : World} {fuel : Nat} {cs : List Value} {x : DataW H × List MemPlace} (ht : Try.prog.underlying t = some (.struct #[f0])) (h : DataW.trod enc Try.prog w 0 (fun _ => true) true fuel t cs = some x) :
    ∃ y0 n, n < fuel ∧ cs.length = Try.prog.cellsOf t ∧ DataW.trod enc Try.prog w 0 (fun _ => true) true n f0.type ((cs.drop f0.offset).take (Try.prog.cellsOf f0.type)) = some y0 := by
  obtain ⟨xs, n, hn, rfl, hl, hlen, hf⟩ := DataW.trod_struct ht h
  match xs, hlen with
  | [y0], _ => exact ⟨y0, n, by omega, hl, by simpa using hf 0 f0 rfl⟩
theorem list1_of {α : Type} {l : List α} (h : l.length = 1) : ∃ c0, l = [c0] := by
  match l, h with
  | [c0], _ => exact ⟨c0, rfl⟩
theorem struct2_parts {t : TypeId} {f0 f1 : Field} {H : Type} {enc : TypeId × Value → H} {w : World} {fuel : Nat} {cs : List Value} {x : DataW H × List MemPlace} (ht : Try.prog.underlying t = some (.struct #[f0, f1])) (h : DataW.trod enc Try.prog w 0 (fun _ => true) true fuel t cs = some x) :
    ∃ y0 y1 n, n < fuel ∧ cs.length = Try.prog.cellsOf t ∧ DataW.trod enc Try.prog w 0 (fun _ => true) true n f0.type ((cs.drop f0.offset).take (Try.prog.cellsOf f0.type)) = some y0 ∧ DataW.trod enc Try.prog w 0 (fun _ => true) true n f1.type ((cs.drop f1.offset).take (Try.prog.cellsOf f1.type)) = some y1 := by
  obtain ⟨xs, n, hn, rfl, hl, hlen, hf⟩ := DataW.trod_struct ht h
  match xs, hlen with
  | [y0, y1], _ => exact ⟨y0, y1, n, by omega, hl, by simpa using hf 0 f0 rfl, by simpa using hf 1 f1 rfl⟩
theorem list2_of {α : Type} {l : List α} (h : l.length = 2) : ∃ c0 c1, l = [c0, c1] := by
  match l, h with
  | [c0, c1], _ => exact ⟨c0, c1, rfl⟩
theorem struct3_parts {t : TypeId} {f0 f1 f2 : Field} {H : Type} {enc : TypeId × Value → H} {w : World} {fuel : Nat} {cs : List Value} {x : DataW H × List MemPlace} (ht : Try.prog.underlying t = some (.struct #[f0, f1, f2])) (h : DataW.trod enc Try.prog w 0 (fun _ => true) true fuel t cs = some x) :
    ∃ y0 y1 y2 n, n < fuel ∧ cs.length = Try.prog.cellsOf t ∧ DataW.trod enc Try.prog w 0 (fun _ => true) true n f0.type ((cs.drop f0.offset).take (Try.prog.cellsOf f0.type)) = some y0 ∧ DataW.trod enc Try.prog w 0 (fun _ => true) true n f1.type ((cs.drop f1.offset).take (Try.prog.cellsOf f1.type)) = some y1 ∧ DataW.trod enc Try.prog w 0 (fun _ => true) true n f2.type ((cs.drop f2.offset).take (Try.prog.cellsOf f2.type)) = some y2 := by
  obtain ⟨xs, n, hn, rfl, hl, hlen, hf⟩ := DataW.trod_struct ht h
  match xs, hlen with
  | [y0, y1, y2], _ => exact ⟨y0, y1, y2, n, by omega, hl, by simpa using hf 0 f0 rfl, by simpa using hf 1 f1 rfl, by simpa using hf 2 f2 rfl⟩
theorem list3_of {α : Type} {l : List α} (h : l.length = 3) : ∃ c0 c1 c2, l = [c0, c1, c2] := by
  match l, h with
  | [c0, c1, c2], _ => exact ⟨c0, c1, c2, rfl⟩
theorem struct4_parts {t : TypeId} {f0 f1 f2 f3 : Field} {H : Type} {enc : TypeId × Value → H} {w : World} {fuel : Nat} {cs : List Value} {x : DataW H × List MemPlace} (ht : Try.prog.underlying t = some (.struct #[f0, f1, f2, f3])) (h : DataW.trod enc Try.prog w 0 (fun _ => true) true fuel t cs = some x) :
    ∃ y0 y1 y2 y3 n, n < fuel ∧ cs.length = Try.prog.cellsOf t ∧ DataW.trod enc Try.prog w 0 (fun _ => true) true n f0.type ((cs.drop f0.offset).take (Try.prog.cellsOf f0.type)) = some y0 ∧ DataW.trod enc Try.prog w 0 (fun _ => true) true n f1.type ((cs.drop f1.offset).take (Try.prog.cellsOf f1.type)) = some y1 ∧ DataW.trod enc Try.prog w 0 (fun _ => true) true n f2.type ((cs.drop f2.offset).take (Try.prog.cellsOf f2.type)) = some y2 ∧ DataW.trod enc Try.prog w 0 (fun _ => true) true n f3.type ((cs.drop f3.offset).take (Try.prog.cellsOf f3.type)) = some y3 := by
  obtain ⟨xs, n, hn, rfl, hl, hlen, hf⟩ := DataW.trod_struct ht h
  match xs, hlen with
  | [y0, y1, y2, y3], _ => exact ⟨y0, y1, y2, y3, n, by omega, hl, by simpa using hf 0 f0 rfl, by simpa using hf 1 f1 rfl, by simpa using hf 2 f2 rfl, by simpa using hf 3 f3 rfl⟩
theorem list4_of {α : Type} {l : List α} (h : l.length = 4) : ∃ c0 c1 c2 c3, l = [c0, c1, c2, c3] := by
  match l, h with
  | [c0, c1, c2, c3], _ => exact ⟨c0, c1, c2, c3, rfl⟩
theorem opens_36 : Opens 36 k36 Wf36 := by
  intro H enc w fuel
  induction fuel using Nat.strongRecOn with
  | _ fuel ih =>
  intro cs x h
  obtain ⟨y0, y1, y2, y3, n, hn, hlen, h0, h1, h2, h3⟩ := struct4_parts Try.underlying36 h
  rw [show Try.prog.cellsOf 36 = 4 from by kernel_rfl] at hlen
  obtain ⟨c0, c1, c2, c3, rfl⟩ := list4_of hlen
  have g0 : DataW.trod enc Try.prog w 0 (fun _ => true) true n 3 [c0] = some y0 := by
    have e0 : Try.prog.cellsOf 3 = 1 := by kernel_rfl
    have z0 := h0
    simp only [e0] at z0
    exact z0
  have g1 : DataW.trod enc Try.prog w 0 (fun _ => true) true n 3 [c1] = some y1 := by
    have e1 : Try.prog.cellsOf 3 = 1 := by kernel_rfl
    have z1 := h1
    simp only [e1] at z1
    exact z1
  have g2 : DataW.trod enc Try.prog w 0 (fun _ => true) true n 22 [c2] = some y2 := by
    have e2 : Try.prog.cellsOf 22 = 1 := by kernel_rfl
    have z2 := h2
    simp only [e2] at z2
    exact z2
  have g3 : DataW.trod enc Try.prog w 0 (fun _ => true) true n 34 [c3] = some y3 := by
    have e3 : Try.prog.cellsOf 34 = 1 := by kernel_rfl
    have z3 := h3
    simp only [e3] at z3
    exact z3
  obtain ⟨z0, e0, hw0⟩ := (opens_int Try.underlying3) H enc w n _ _ g0
  replace e0 : [c0] = [.int .i64 z0] := e0
  obtain ⟨z1, e1, hw1⟩ := (opens_int Try.underlying3) H enc w n _ _ g1
  replace e1 : [c1] = [.int .i64 z1] := e1
  obtain ⟨z2, ⟨A2, d2, e2, hl2, hC2⟩, hw2⟩ := (opens_slice Try.underlying22 (by kernel_rfl) (opens_int Try.underlying3)) H enc w n _ _ g2
  obtain ⟨z3, hz3, hw3, hm3⟩ := slice_opens Try.underlying34 (d := k36) (wf := Wf36) (by kernel_rfl) g3 (fun m cs y hm hy => ih m (by omega) cs y hy)
  obtain ⟨A3, d3, e3, hl3, hC3⟩ := hz3
  obtain rfl := (List.cons.inj e0).1
  obtain rfl := (List.cons.inj e1).1
  obtain rfl := (List.cons.inj e2).1
  obtain rfl := (List.cons.inj e3).1
  exact ⟨⟨z0, z1, z2, z3⟩, k36_mk w ⟨z0, z1, z2, z3⟩ hl2 hC2 hl3 hC3, .mk _ _ _ _ hw0 hw1 hw2 hw3 hm3⟩
end Go.Proofs.Ytipfkicndjddgaa.P
end

section
namespace Go.Proofs.Ytipfkicndjddgaa.P
open Go.RowKit Go.Proofs.YtipfkicndjddgaaW.PrintWords Go.Proofs.YtipfkicndjddgaaW.PrintLast Go.Proofs.YtipfkicndjddgaaW.PrintMore
attribute [local go_sem] max2_int min2_int max_two min_two max_three min_three max_four min_four   -- for this text's walks alone
set_option linter.unusedVariables false
set_option linter.unusedSimpArgs false

/-! ### laws_toIntS: function 17 -/
def laws_toIntS.l0 : Nat → List Int → List Int → Int → Option (List Int)
 | 0, _, _, _ => none
 | k + 1, x0, x3, x4 => if x4 < (x0.length : Int) then (if 0 ≤ x4 then (if x4 < (x3.length : Int) then (laws_toIntS.l0 k x0 (x3.set (x4 : Int).toNat (rd x0 x4)) (wrap64 (x4 + 1))) else (none)) else (none)) else (some x3)
def laws_toIntS.f (k : Nat) (l0 : List Int) : Option (List Int) := if 0 ≤ (l0.length : Int) then (if ((l0.length : Int) : Int).toNat ≤ 35184372088832 then (laws_toIntS.l0 k l0 (List.replicate ((l0.length : Int) : Int).toNat 0) 0) else (none)) else (none)
set_option maxHeartbeats 8000000 in
set_option maxRecDepth 100000 in
theorem laws_toIntS.calls (k : Nat) (A0 : Option Addr) (c0 : Nat) (l0 : List Int) (r : List Int) (w : World) (hr0 : Kd.C (Kd.int .i64) w A0 l0.length l0) (hc0 : l0.length ≤ c0) (h : laws_toIntS.f k l0 = some r) :
  Calls Try.prog 17 #[.slice A0 l0.length c0] w fun e w' => ∃ v0_ : Value, e = .returned (v0_) ∧ Kd.R (Kd.int .i64) 3 w' w.heap.size (fun _ => True) v0_ r ∧ Below w.heap.size w w' := by
 have HR0 := sd_ hr0
 have HC0 := sd_ hc0
 clear hr0 hc0
 have HB := sd_ (Below.refl w.heap.size w)
 have H : (if 0 ≤ (l0.length : Int) then (if ((l0.length : Int) : Int).toNat ≤ 35184372088832 then (laws_toIntS.l0 k l0 (List.replicate ((l0.length : Int) : Int).toNat 0) 0) else (none)) else (none)) = some r := h
 clear h
 by_cases c2 : 0 ≤ (l0.length : Int)
 ·rw [if_pos c2] at H
  have c2b0 := eq_true c2
  have c2b1 : decide (0 ≤ (l0.length : Int)) = true := decide_eq_true c2
  clear c2
  by_cases c3 : ((l0.length : Int) : Int).toNat ≤ 35184372088832
  ·rw [if_pos c3] at H
   have c3b0 := eq_true c3
   have c3b1 : decide (((l0.length : Int) : Int).toNat ≤ 35184372088832) = true := decide_eq_true c3
   clear c3
   obtain ⟨y106, hy106⟩ : ∃ y_ : List Int, y_ = (List.replicate ((l0.length : Int) : Int).toNat 0) := ⟨_, rfl⟩
   replace H : (laws_toIntS.l0 k l0 y106 0) = some r := by first | (rw [hy106]; with_reducible exact H) | (have H2_ := (Option.bind_some _ _).symm.trans H; rw [hy106]; with_reducible exact H2_) | (have H2_ := (Option.bind_some _ _).symm.trans H; with_reducible exact H2_) | with_reducible exact H | (rw [hy106]; exact H) | exact H
   have Ny106 := sd_ hy106
   clear hy106
   have H' := sd_ H
   clear H
   go_enter Try.func17, Try.ntmps17
   go_wp2_with (first | ((with_reducible refine gate_dst (N := 7) rfl ?_); refine Kd.R_make (Kd.int .i64) _ 3 rfl (N := 7) rfl 22 _ _ rfl (l0.length : Int) rfl rfl Try.underlying22 (.int .i64 0) 8 info3 rfl (by decide) (by omega) 0 (ok := fun _ => True) (okp := fun _ => True) rfl (fun _ hk => hk) trivial (dt_) (Nat.le_trans (Nat.mul_le_mul_right _ (dt_ : (l0.length : Int).toNat ≤ 35184372088832)) (by omega)) (Below.refl _ _) (Nat.le_refl _) ?_; intro v107 w4 ho5 hb hg_ hnew_; clear hg_ hnew_; (first | rw [← Ny106.out] at ho5 | (simp only [Int.reduceToNat] at ho5; rw [← Ny106.out] at ho5)); have HO108 := sd_ (Kd.R_lower ho5 (below_size (bw0_ HB.out))); replace HB := sd_ (below_step (bw0_ HB.out) hb); clear hb ho5))
   go_loopg [4] k (fun kq v4 w' => ∃ (x3_1 : List Int) (x4_1 : Int), v4 = .int .i64 x4_1 ∧ Aside0 (laws_toIntS.l0 kq l0 x3_1 x4_1 = some r) ∧ Aside0 (kq ≤ k) ∧ Aside0 (Kd.R (Kd.int .i64) 3 w' w.heap.size (fun _ => True) v107 x3_1) ∧ Aside0 (Below w.heap.size w w'))
   case atStart => exact ⟨(y106), (0), sm_, H', ⟨Nat.le_refl _⟩, ⟨by (with_reducible repeat (first | apply Kd.R_alloc | apply Kd.R_drewN | apply Kd.R_drew)); exact HO108.out⟩, ⟨bw0_ HB.out⟩⟩
   case round =>
    clear H'
    try clear c1
    try clear c2
    try clear c2b0
    try clear c2b1
    try clear p2
    try clear c3
    try clear c3b0
    try clear c3b1
    obtain ⟨x3_1, x4_1, rfl, HA, HK1, HO_3, HB⟩ := hrel
    cases gk with
    | zero => exact absurd HA.out (by simp [laws_toIntS.l0])
    | succ k1 =>
     have H := HA.out
     clear HA
     simp only [laws_toIntS.l0] at H
     by_cases c6 : x4_1 < (l0.length : Int)
     ·rw [if_pos c6] at H
      have c6b0 : decide (x4_1 < (l0.length : Int)) = true := decide_eq_true c6
      clear c6
      by_cases c7 : 0 ≤ x4_1
      ·rw [if_pos c7] at H
       have c7b0 : decide (0 ≤ x4_1) = true := decide_eq_true c7
       clear c7
       by_cases c8 : x4_1 < (x3_1.length : Int)
       ·rw [if_pos c8] at H
        have c8b0 : decide (x4_1 < (x3_1.length : Int)) = true := decide_eq_true c8
        clear c8
        obtain ⟨y110, hy110⟩ : ∃ y_ : List Int, y_ = (x3_1.set (x4_1 : Int).toNat (rd l0 x4_1)) := ⟨_, rfl⟩
        replace H : (laws_toIntS.l0 k1 l0 y110 (wrap64 (x4_1 + 1))) = some r := by first | (rw [hy110]; with_reducible exact H) | (have H2_ := (Option.bind_some _ _).symm.trans H; rw [hy110]; with_reducible exact H2_) | (have H2_ := (Option.bind_some _ _).symm.trans H; with_reducible exact H2_) | with_reducible exact H | (rw [hy110]; exact H) | exact H
        have Ny110 := sd_ hy110
        clear hy110
        have H' := sd_ H
        clear H
        have p109 : 0 ≤ (x4_1 : Int) := dt_
        have q109 : x4_1 < (l0.length : Int) := dt_
        obtain ⟨ad109, e109, hx109_0⟩ := Kd.at_int HR0.out x4_1 p109 q109
        cases e109
        replace hx109_0 := (HB.out.cell (World.block_lt_of_cell? w _ hx109_0)).trans hx109_0
        replace p109 := eq_true p109
        replace q109 := eq_true q109
        have p9 : 0 ≤ (x4_1 : Int) := dt_
        have q9 : (x4_1 : Int) < ((x3_1.length : Int) : Int) := dt_
        obtain ⟨go9, co9, eo9, gb9, gl9, cl9, HG9⟩ := Kd.R_form HO_3.out (by omega)
        (first | cases eo9 | (injection eo9 with ea_ en_ ec_; (first | subst ea_ | (injection ea_ with ea_; subst ea_)); subst ec_; clear en_))
        have GB9 := sd_ gb9
        have GG9 := sd_ HG9
        clear gb9 gl9 HG9
        obtain ⟨hx9_0, hf9_0⟩ := Kd.R_celln 0 HO_3.out (x4_1 : Int) p9 q9
        replace p9 := eq_true p9
        replace q9 := eq_true q9
        have HP10 := Kd.R_putg HO_3.out (x4_1 : Int) (rd l0 x4_1)
        go_wp2_with (first | ((with_reducible refine gate_store (t := 3) (p := 20) rfl ?_); refine store_event (t := 3) (p := 20) (v := ?vo_w11) (w1 := (wr.setCell ⟨go9, (x4_1 : Int).toNat, none⟩ (.int .i64 (rd l0 x4_1)))) ?hg ?ho ?hn ?hr ?_; (case ho => rfl); (case hg => rfl); (case hn => rfl); (case hr => first | (go_simp; done) | (go_simp; rfl)); intro w11 hw; have hg : wr.grownBy w11 (some go9) := (by rw [hw]; exact HP10.2); have hp_ : Kd.R (Kd.int .i64) 3 w11 w.heap.size (fun _ => True) (.slice (some ⟨go9, 0, none⟩) x3_1.length co9) y110 := (by rw [hw, Ny110.out]; exact HP10.1); clear HP10; replace HO_3 := sd_ (hp_); replace HB := sd_ ((by rw [hw]; exact below_set (HB.out) GB9.out : Below w.heap.size w w11)); clear hg hw hp_))
        go_roundg k1
        case measure => have := HK1.out; omega
        case rel => exact ⟨(y110), (wrap64 (x4_1 + 1)), sm_, H', ⟨by have := HK1.out; omega⟩, ⟨by (with_reducible repeat (first | apply Kd.R_alloc | apply Kd.R_drewN | apply Kd.R_drew)); exact HO_3.out⟩, ⟨bw0_ HB.out⟩⟩
       rw [if_neg c8] at H
       exact absurd H (by simp)
      rw [if_neg c7] at H
      exact absurd H (by simp)
     rw [if_neg c6] at H
     have c6b0 : decide (x4_1 < (l0.length : Int)) = false := decide_eq_false c6
     clear c6
     obtain rfl := Option.some.inj H
     go_wp2
     go_ret
     exact ⟨_, an_, by (with_reducible repeat (first | apply Kd.R_alloc | apply Kd.R_drewN | apply Kd.R_drew)); exact HO_3.out, bw0_ HB.out⟩
  rw [if_neg c3] at H
  exact absurd H (by simp)
 rw [if_neg c2] at H
 exact absurd H (by simp)


/-! ### laws_szIntS: function 34 -/
def laws_szIntS.f (l0 : List Int) (a1 : Int) : Option (Int) := if (wrap64 (a1 - (l0.length : Int))) < 0 then (some (-1)) else (some (wrap64 (a1 - (l0.length : Int))))
set_option maxHeartbeats 8000000 in
set_option maxRecDepth 100000 in
theorem laws_szIntS.calls (A0 : Option Addr) (c0 : Nat) (l0 : List Int) (a1 : Int) (r : Int) (w : World) (hr0 : Kd.C (Kd.int .i64) w A0 l0.length l0) (hc0 : l0.length ≤ c0) (h : laws_szIntS.f l0 a1 = some r) :
  Calls Try.prog 34 #[.slice A0 l0.length c0, .int .i64 a1] w fun e w' => e = .returned (.int .i64 r) ∧ Drawn0 w w' := by
 have HR0 := sd_ hr0
 have HC0 := sd_ hc0
 clear hr0 hc0
 have H : (if (wrap64 (a1 - (l0.length : Int))) < 0 then (some (-1)) else (some (wrap64 (a1 - (l0.length : Int))))) = some r := h
 clear h
 by_cases c3 : (wrap64 (a1 - (l0.length : Int))) < 0
 ·rw [if_pos c3] at H
  have c3b0 : decide ((wrap64 (a1 - (l0.length : Int))) < 0) = true := decide_eq_true c3
  clear c3
  obtain rfl := Option.some.inj H
  go_enter Try.func34, Try.ntmps34
  go_wp2
  go_ret
  exact ⟨by first | rfl | (simp; done) | (simp [*]; done), by repeat (first | exact Drawn0.refl _ | apply Drawn0.step)⟩
 rw [if_neg c3] at H
 have c3b0 : decide ((wrap64 (a1 - (l0.length : Int))) < 0) = false := decide_eq_false c3
 clear c3
 obtain rfl := Option.some.inj H
 go_enter Try.func34, Try.ntmps34
 go_wp2
 go_ret
 exact ⟨by first | rfl | (simp; done) | (simp [*]; done), by repeat (first | exact Drawn0.refl _ | apply Drawn0.step)⟩


/-! ### spec_l1Min: function 69 -/
def spec_l1Min.f (a0 : Int) (a1 : Int) : Option (Int) := if a0 < a1 then (some a0) else (some a1)
set_option maxHeartbeats 8000000 in
set_option maxRecDepth 100000 in
theorem spec_l1Min.calls (a0 : Int) (a1 : Int) (r : Int) (w : World) (h : spec_l1Min.f a0 a1 = some r) :
  Calls Try.prog 69 #[.int .i64 a0, .int .i64 a1] w fun e w' => e = .returned (.int .i64 r) ∧ Drawn0 w w' := by
 have H : (if a0 < a1 then (some a0) else (some a1)) = some r := h
 clear h
 by_cases c3 : a0 < a1
 ·rw [if_pos c3] at H
  have c3b0 : decide (a0 < a1) = true := decide_eq_true c3
  clear c3
  obtain rfl := Option.some.inj H
  go_enter Try.func69, Try.ntmps69
  go_wp2
  go_ret
  exact ⟨by first | rfl | (simp; done) | (simp [*]; done), by repeat (first | exact Drawn0.refl _ | apply Drawn0.step)⟩
 rw [if_neg c3] at H
 have c3b0 : decide (a0 < a1) = false := decide_eq_false c3
 clear c3
 obtain rfl := Option.some.inj H
 go_enter Try.func69, Try.ntmps69
 go_wp2
 go_ret
 exact ⟨by first | rfl | (simp; done) | (simp [*]; done), by repeat (first | exact Drawn0.refl _ | apply Drawn0.step)⟩


/-! ### spec_l2Typed: function 86 -/
def spec_l2Typed.f (a0 : Int) : Option (Bool) := if a0 = 6 then (some true) else (if a0 = 7 then (some true) else (some (a0 == 9)))
set_option maxHeartbeats 8000000 in
set_option maxRecDepth 100000 in
theorem spec_l2Typed.calls (a0 : Int) (r : Bool) (w : World) (h : spec_l2Typed.f a0 = some r) :
  Calls Try.prog 86 #[.int .i64 a0] w fun e w' => e = .returned (.bool r) ∧ Drawn0 w w' := by
 have H : (if a0 = 6 then (some true) else (if a0 = 7 then (some true) else (some (a0 == 9)))) = some r := h
 clear h
 by_cases c2 : a0 = 6
 ·rw [if_pos c2] at H
  have c2b0 : (a0 == 6) = true := beq_iff_eq.mpr c2
  have c2b1 : (a0 != 6) = false := bne_eq_false_iff_eq.mpr c2
  clear c2
  obtain rfl := Option.some.inj H
  go_enter Try.func86, Try.ntmps86
  go_wp2
  go_ret
  exact ⟨by first | rfl | (simp; done) | (simp [*]; done), by repeat (first | exact Drawn0.refl _ | apply Drawn0.step)⟩
 rw [if_neg c2] at H
 have c2b0 : (a0 == 6) = false := beq_eq_false_iff_ne.mpr c2
 have c2b1 : (a0 != 6) = true := bne_iff_ne.mpr c2
 by_cases c3 : a0 = 7
 ·rw [if_pos c3] at H
  have c3b0 : (a0 == 7) = true := beq_iff_eq.mpr c3
  have c3b1 : (a0 != 7) = false := bne_eq_false_iff_eq.mpr c3
  clear c3
  obtain rfl := Option.some.inj H
  go_enter Try.func86, Try.ntmps86
  go_wp2
  go_ret
  exact ⟨by first | rfl | (simp; done) | (simp [*]; done), by repeat (first | exact Drawn0.refl _ | apply Drawn0.step)⟩
 rw [if_neg c3] at H
 have c3b0 : (a0 == 7) = false := beq_eq_false_iff_ne.mpr c3
 have c3b1 : (a0 != 7) = true := bne_iff_ne.mpr c3
 obtain rfl := Option.some.inj H
 go_enter Try.func86, Try.ntmps86
 go_wp2
 go_ret
 exact ⟨by first | rfl | (simp; done) | (simp [*]; done), by repeat (first | exact Drawn0.refl _ | apply Drawn0.step)⟩

end Go.Proofs.Ytipfkicndjddgaa.P
end
