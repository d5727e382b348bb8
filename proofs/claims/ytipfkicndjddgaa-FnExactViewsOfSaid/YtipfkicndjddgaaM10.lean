-- Several texts in one (wip/tools/merge.py).
import Derived.Test.YtipfkicndjddgaaP0
import Derived.Test.YtipfkicndjddgaaM4
import Derived.Test.YtipfkicndjddgaaM6
import Derived.Test.YtipfkicndjddgaaM3
import Derived.Test.YtipfkicndjddgaaPf29
import Derived.Test.YtipfkicndjddgaaPf30
section
namespace Go.Proofs.Ytipfkicndjddgaa.P
open Go.RowKit Go.Proofs.YtipfkicndjddgaaW.PrintWords Go.Proofs.YtipfkicndjddgaaW.PrintLast Go.Proofs.YtipfkicndjddgaaW.PrintMore
set_option linter.unusedVariables false
set_option linter.unusedSimpArgs false
/-- Something in memory, within blocks lo to hi. -/
structure Ob where
  lo : Nat
  hi : Nat
  P : World → Prop
  le : lo ≤ hi
  mv : ∀ W W' : World, P W → (∀ k, lo ≤ k → k < hi → W'.heap[k]? = W.heap[k]?) → P W'
/-- The newest first: each lies above those that were made ahead of it; what stood at w stands. -/
def All (w : World) : List Ob → World → Prop
  | [], W => Below w.heap.size w W
  | o :: l, W => (o.P W ∧ o.hi ≤ W.heap.size ∧ w.heap.size ≤ o.lo ∧ ∀ o' ∈ l, o'.hi ≤ o.lo ∨ o.hi ≤ o'.lo) ∧ All w l W
theorem All.base {w W : World} : ∀ {l : List Ob}, All w l W → Below w.heap.size w W
  | [], h => h
  | _ :: _, h => h.2.base
theorem All.top {w W : World} : ∀ {l : List Ob}, All w l W → ∀ o ∈ l, o.hi ≤ W.heap.size
  | [], _, _, h => by cases h
  | o :: l, h, o', ho => by
    rcases List.mem_cons.mp ho with rfl | ho
    · exact h.1.2.1
    · exact h.2.top o' ho
theorem All.below {w W W' : World} : ∀ {l : List Ob}, All w l W → Below W.heap.size W W' → All w l W'
  | [], h, hb => below_step h hb
  | o :: l, h, hb => ⟨⟨o.mv _ _ h.1.1 fun k _ hk => hb.block k (Nat.lt_of_lt_of_le hk h.1.2.1), Nat.le_trans h.1.2.1 hb.size, h.1.2.2⟩, h.2.below hb⟩
theorem All.drewN {w W : World} {l : List Ob} (h : All w l W) (n : Nat) : All w l (W.drewN n) := h.below (pw_below_drewN (Below.refl _ _) n)
theorem All.drew {w W : World} {l : List Ob} (h : All w l W) : All w l W.drew := h.below (below_drew1 (Below.refl _ _))
theorem All.push {w W0 W : World} {l : List Ob} (h : All w l W0) (hb : Below W0.heap.size W0 W) (o : Ob) (hP : o.P W) (hlo : W0.heap.size ≤ o.lo) (hhi : o.hi ≤ W.heap.size) : All w (o :: l) W :=
  ⟨⟨hP, hhi, Nat.le_trans h.base.size hlo, fun o' ho => Or.inl (Nat.le_trans (h.top o' ho) hlo)⟩, h.below hb⟩
/-- One of them is written: the others stand. -/
theorem All.mark {w W W' : World} {S : Nat → Prop} {o o' : Ob} {l2 : List Ob} (hk : Kept W W' S) (hb : Below w.heap.size w W → Below w.heap.size w W') (hS : ∀ k, S k → o.lo ≤ k ∧ k < o.hi) (e1 : o'.lo = o.lo) (e2 : o'.hi = o.hi) (hP : o'.P W') :
    ∀ {l1 : List Ob}, All w (l1 ++ o :: l2) W → All w (l1 ++ o' :: l2) W'
  | [], h => by
    refine ⟨⟨hP, by rw [e2]; exact Nat.le_trans h.1.2.1 hk.1, by rw [e1]; exact h.1.2.2.1, fun x hx => by rw [e1, e2]; exact h.1.2.2.2 x hx⟩, ?_⟩
    have older : ∀ x ∈ l2, x.hi ≤ o.lo ∨ o.hi ≤ x.lo := h.1.2.2.2
    have h2 := h.2
    clear h
    have go : ∀ l : List Ob, (∀ x ∈ l, x.hi ≤ o.lo ∨ o.hi ≤ x.lo) → All w l W → All w l W' := by
      intro l
      induction l with
      | nil => intro _ h; exact hb h
      | cons x l ih =>
        intro hl h
        refine ⟨⟨x.mv _ _ h.1.1 fun k hk1 hk2 => hk.2 k (Nat.lt_of_lt_of_le hk2 h.1.2.1) fun hs => ?_, Nat.le_trans h.1.2.1 hk.1, h.1.2.2⟩, ih (fun y hy => hl y (List.mem_cons_of_mem _ hy)) h.2⟩
        have := hl x List.mem_cons_self
        have := hS k hs
        omega
    exact go l2 older h2
  | x :: l1, h => by
    have hx : o.hi ≤ x.lo ∨ x.hi ≤ o.lo := h.1.2.2.2 o (List.mem_append_right _ List.mem_cons_self)
    refine ⟨⟨x.mv _ _ h.1.1 fun k hk1 hk2 => hk.2 k (Nat.lt_of_lt_of_le hk2 h.1.2.1) fun hs => ?_, Nat.le_trans h.1.2.1 hk.1, h.1.2.2.1, fun y hy => ?_⟩, All.mark hk hb hS e1 e2 hP h.2⟩
    · have := hS k hs
      omega
    · rcases List.mem_append.mp hy with hy | hy
      · exact h.1.2.2.2 y (List.mem_append_left _ hy)
      · rcases List.mem_cons.mp hy with rfl | hy
        · rw [e1, e2]; exact hx
        · exact h.1.2.2.2 y (List.mem_append_right _ (List.mem_cons_of_mem _ hy))
/-- A variable in memory. -/
def Ob.box (g : Nat) (cs : Array Value) (t : TypeId) : Ob := ⟨g, g + 1, fun W => W.heap[g]? = some (.cells cs t (0, 0)), Nat.le_succ g, fun W W' h hm => (hm g (Nat.le_refl g) (Nat.lt_succ_self g)).trans h⟩
theorem All.box {w W W1 : World} {l : List Ob} (h : All w l W) {g : Nat} {cs : Array Value} {t : TypeId} (hg : g = W.heap.size) (hbox : W1.heap[g]? = some (.cells cs t (0, 0))) (hb : Below W.heap.size W W1) : All w (Ob.box g cs t :: l) W1 :=
  h.push hb (Ob.box g cs t) hbox (by rw [hg]; exact Nat.le_refl _) (blk_lt hbox)
theorem All.set {w W : World} {l1 l2 : List Ob} {g : Nat} {cs : Array Value} {t : TypeId} (h : All w (l1 ++ Ob.box g cs t :: l2) W) (hw : w.heap.size ≤ g) (hg : W.heap[g]? = some (.cells cs t (0, 0))) (j : Nat) (u : Value) (cs' : Array Value) (e : cs.setIfInBounds j u = cs') : All w (l1 ++ Ob.box g cs' t :: l2) (W.setCell ⟨g, j, none⟩ u) :=
  All.mark (S := fun k => k = g) (o := Ob.box g cs t) (o' := Ob.box g cs' t) ⟨by simp [World.setCell], fun k hk hn => Below.heap_setCell W _ u k hn⟩ (fun b => below_set b hw) (fun k hk => by subst hk; exact ⟨Nat.le_refl _, Nat.lt_succ_self _⟩) rfl rfl (blk_put hg j u e) h
theorem All.at_ {w W : World} {o : Ob} {l2 : List Ob} : ∀ {l1 : List Ob}, All w (l1 ++ o :: l2) W → o.P W ∧ o.hi ≤ W.heap.size ∧ w.heap.size ≤ o.lo
  | [], h => ⟨h.1.1, h.1.2.1, h.1.2.2.1⟩
  | _ :: _, h => All.at_ h.2
theorem All.set4 {w W : World} {l1 l2 : List Ob} {g : Nat} {v0 v1 v2 v3 : Value} {t : TypeId} (h : All w (l1 ++ Ob.box g #[v0, v1, v2, v3] t :: l2) W) (u0 u1 u2 u3 : Value) :
    All w (l1 ++ Ob.box g #[u0, u1, u2, u3] t :: l2) ((((W.setCell ⟨g, 0, none⟩ u0).setCell ⟨g, 1, none⟩ u1).setCell ⟨g, 2, none⟩ u2).setCell ⟨g, 3, none⟩ u3) := by
  have hw : w.heap.size ≤ g := h.at_.2.2
  have g0 : W.heap[g]? = some (.cells #[v0, v1, v2, v3] t (0, 0)) := h.at_.1
  have g1 := blk_put (cs' := #[u0, v1, v2, v3]) g0 0 u0 rfl
  have g2 := blk_put (cs' := #[u0, u1, v2, v3]) g1 1 u1 rfl
  have g3 := blk_put (cs' := #[u0, u1, u2, v3]) g2 2 u2 rfl
  exact All.set (All.set (All.set (All.set h hw g0 0 u0 _ rfl) hw g1 1 u1 _ rfl) hw g2 2 u2 _ rfl) hw g3 3 u3 _ rfl
theorem All.swap {w W : World} {a b : Ob} {l : List Ob} (h : All w (a :: b :: l) W) : All w (b :: a :: l) W :=
  ⟨⟨h.2.1.1, h.2.1.2.1, h.2.1.2.2.1, fun o ho => by
    rcases List.mem_cons.mp ho with rfl | ho
    · exact (h.1.2.2.2 b List.mem_cons_self).symm
    · exact h.2.1.2.2.2 o ho⟩, ⟨h.1.1, h.1.2.1, h.1.2.2.1, fun o ho => h.1.2.2.2 o (List.mem_cons_of_mem _ ho)⟩, h.2.2⟩
theorem All.drop2 {w W : World} {a b : Ob} {l : List Ob} (h : All w (a :: b :: l) W) : All w (a :: l) W := ⟨⟨h.1.1, h.1.2.1, h.1.2.2.1, fun o ho => h.1.2.2.2 o (List.mem_cons_of_mem _ ho)⟩, h.2.2⟩
theorem All.drop3 {w W : World} {a b c : Ob} {l : List Ob} (h : All w (a :: b :: c :: l) W) : All w (a :: b :: l) W := ⟨⟨h.1.1, h.1.2.1, h.1.2.2.1, fun o ho => h.1.2.2.2 o (by rcases List.mem_cons.mp ho with rfl | ho; exact List.mem_cons_self; exact List.mem_cons_of_mem _ (List.mem_cons_of_mem _ ho))⟩, h.2.drop2⟩
theorem gen_any {P : Program} {md : Region.Mode} {ops : Array Oper} {Q : Exit → Act → World → Prop} {S : World → Prop} {ds : List Nat} {fuel : Nat} {l : Array Bool} {a : Act} {W : World} (R : World → Prop) (hR : R W) (h : ∀ w', R w' → wpAnyLast P md ops Q S ds fuel l a w') : wpAnyLast P md ops Q S ds fuel l a W := h W hR
theorem gen_wp {P : Program} {c : Code} {Q : Exit → Act → World → Prop} {a : Act} {W : World} (R : World → Prop) (hR : R W) (h : ∀ w', R w' → Code.wp P c Q a w') : Code.wp P c Q a W := h W hR
/-- Where a system's rows lie, and their values. -/
structure Sx where
  lo : Nat
  hi : Nat
  n1 : Nat
  n2 : Nat
  n3 : Nat
  c1 : Nat
  c2 : Nat
  c3 : Nat
  A1 : Option Addr
  A2 : Option Addr
  A3 : Option Addr
  le : lo ≤ hi
def sysP (B : Nat) (x : Sx) (l1 l2 : List Int) (l3 : List Bool) (W : World) : Prop :=
  (Kd.int .i64).R 3 W B (fun k => (x.lo ≤ k ∧ k < x.hi) ∧ some k ≠ (Value.slice x.A2 x.n2 x.c2).ownBlock) (.slice x.A1 x.n1 x.c1) l1 ∧ (Kd.int .i64).R 3 W B (fun k => (x.lo ≤ k ∧ k < x.hi) ∧ some k ≠ (Value.slice x.A1 x.n1 x.c1).ownBlock) (.slice x.A2 x.n2 x.c2) l2 ∧ Kd.bool.R 4 W B (fun k => x.lo ≤ k ∧ k < x.hi) (.slice x.A3 x.n3 x.c3) l3
theorem sysP_move {B : Nat} {x : Sx} {l1 l2 : List Int} {l3 : List Bool} {W W' : World} (h : sysP B x l1 l2 l3 W) (hm : ∀ k, x.lo ≤ k → k < x.hi → W'.heap[k]? = W.heap[k]?) : sysP B x l1 l2 l3 W' :=
  ⟨Kd.R_move h.1 (fun k hk => hm k hk.1.1 hk.1.2), Kd.R_move h.2.1 (fun k hk => hm k hk.1.1 hk.1.2), Kd.R_move h.2.2 (fun k hk => hm k hk.1 hk.2)⟩
def Ob.sys (B : Nat) (x : Sx) (l1 l2 : List Int) (l3 : List Bool) : Ob := ⟨x.lo, x.hi, sysP B x l1 l2 l3, x.le, fun W W' h hm => sysP_move h hm⟩
theorem sys_new {W W' : World} {B : Nat} (hB : B ≤ W.heap.size) (hs : W.heap.size ≤ W'.heap.size) {v1 v2 v3 : Value} {l1 l2 : List Int} {l3 : List Bool} (h1 : Kd.R (Kd.int .i64) 3 W' W.heap.size (fun k_ => some k_ ≠ (v2 : Value).ownBlock) v1 l1) (h2 : Kd.R (Kd.int .i64) 3 W' W.heap.size (fun k_ => some k_ ≠ (v1 : Value).ownBlock) v2 l2) (h3 : Kd.R Kd.bool 4 W' W.heap.size (fun _ => True) v3 l3) :
    ∃ x : Sx, v1 = .slice x.A1 x.n1 x.c1 ∧ v2 = .slice x.A2 x.n2 x.c2 ∧ v3 = .slice x.A3 x.n3 x.c3 ∧ sysP B x l1 l2 l3 W' ∧ W.heap.size ≤ x.lo ∧ x.hi ≤ W'.heap.size := by
  obtain ⟨A1, c1, rfl⟩ := Kd.R_slice h1
  obtain ⟨A2, c2, rfl⟩ := Kd.R_slice h2
  obtain ⟨A3, c3, rfl⟩ := Kd.R_slice h3
  exact ⟨⟨W.heap.size, W'.heap.size, l1.length, l2.length, l3.length, c1, c2, c3, A1, A2, A3, hs⟩, rfl, rfl, rfl, ⟨Kd.R_lower (Kd.R_mono (Kd.R_bound h1) fun k hk => ⟨⟨hk.2.1, hk.2.2.1⟩, hk.1⟩) hB, Kd.R_lower (Kd.R_mono (Kd.R_bound h2) fun k hk => ⟨⟨hk.2.1, hk.2.2.1⟩, hk.1⟩) hB, Kd.R_lower (Kd.R_mono (Kd.R_bound h3) fun k hk => ⟨hk.2.1, hk.2.2.1⟩) hB⟩, Nat.le_refl _, Nat.le_refl _⟩
theorem toS (k : Nat) {a0 : Int} {A1 A2 A3 : Option Addr} {c1 c2 c3 : Nat} {l1 l2 : List Int} {l3 : List Bool} {r1 : Int} {r2 r3 : List Int} {r4 : List Bool} {w : World} (h1 : Kd.C (Kd.int .i64) w A1 l1.length l1) (g1 : l1.length ≤ c1) (h2 : Kd.C (Kd.int .i64) w A2 l2.length l2) (g2 : l2.length ≤ c2) (h3 : Kd.C Kd.bool w A3 l3.length l3) (g3 : l3.length ≤ c3) (W : World) (hb : Below w.heap.size w W) (h : laws_toSystem.f k a0 l1 l2 l3 = some (r1, r2, r3, r4)) :
    Calls Try.prog 10 #[.agg #[.int .i64 a0, .slice A1 l1.length c1, .slice A2 l2.length c2, .slice A3 l3.length c3]] W fun e w' => ∃ x : Sx, e = .returned (.agg #[.int .i64 r1, .slice x.A1 x.n1 x.c1, .slice x.A2 x.n2 x.c2, .slice x.A3 x.n3 x.c3]) ∧ (sysP w.heap.size x r2 r3 r4 w' ∧ W.heap.size ≤ x.lo ∧ x.hi ≤ w'.heap.size) ∧ Below W.heap.size W w' := by
  refine (laws_toSystem.calls k a0 _ _ l1 _ _ l2 _ _ l3 r1 r2 r3 r4 W (Kd.C_below h1 hb) g1 (Kd.C_below h2 hb) g2 (Kd.C_below h3 hb) g3 h).mono ?_
  rintro e w' ⟨v1, v2, v3, rfl, o1, o2, o3, hb'⟩
  obtain ⟨x, rfl, rfl, rfl, hp⟩ := sys_new hb.size hb'.size o1 o2 o3
  exact ⟨x, rfl, hp, hb'⟩
theorem sys_reads {B : Nat} {x : Sx} {l1 l2 : List Int} {l3 : List Bool} {W : World} (h : sysP B x l1 l2 l3 W) : (x.n1 = l1.length ∧ x.n2 = l2.length ∧ x.n3 = l3.length) ∧ (Kd.C (Kd.int .i64) W x.A1 l1.length l1 ∧ l1.length ≤ x.c1) ∧ (Kd.C (Kd.int .i64) W x.A2 l2.length l2 ∧ l2.length ≤ x.c2) ∧ (Kd.C Kd.bool W x.A3 l3.length l3 ∧ l3.length ≤ x.c3) := by
  obtain ⟨a1, a2, a3⟩ := Kd.R_reads' h.1
  obtain ⟨b1, b2, b3⟩ := Kd.R_reads' h.2.1
  obtain ⟨d1, d2, d3⟩ := Kd.R_reads' h.2.2
  exact ⟨⟨a1, b1, d1⟩, ⟨a3, by omega⟩, ⟨b3, by omega⟩, ⟨d3, by omega⟩⟩
theorem eqS (k : Nat) {B : Nat} {x y : Sx} {a b : Int} {l1 l2 m1 m2 : List Int} {l3 m3 : List Bool} {r : Bool} {W : World} (hx : sysP B x l1 l2 l3 W) (hy : sysP B y m1 m2 m3 W) (h : laws_eqSystem.f k a l1 l2 l3 b m1 m2 m3 = some r) :
    Calls Try.prog 12 #[.agg #[.int .i64 a, .slice x.A1 x.n1 x.c1, .slice x.A2 x.n2 x.c2, .slice x.A3 x.n3 x.c3], .agg #[.int .i64 b, .slice y.A1 y.n1 y.c1, .slice y.A2 y.n2 y.c2, .slice y.A3 y.n3 y.c3]] W fun e w' => e = .returned (.bool r) ∧ Below W.heap.size W w' := by
  obtain ⟨⟨e1, e2, e3⟩, ⟨p1, q1⟩, ⟨p2, q2⟩, ⟨p3, q3⟩⟩ := sys_reads hx
  obtain ⟨⟨f1, f2, f3⟩, ⟨s1, t1⟩, ⟨s2, t2⟩, ⟨s3, t3⟩⟩ := sys_reads hy
  rw [e1, e2, e3, f1, f2, f3]
  exact laws_eqSystem.calls k a _ _ l1 _ _ l2 _ _ l3 b _ _ m1 _ _ m2 _ _ m3 r W p1 q1 p2 q2 p3 q3 s1 t1 s2 t2 s3 t3 h
theorem markS (k : Nat) {w : World} {x : Sx} {a a1 : Int} {l1 l2 : List Int} {l3 : List Bool} {r1 : Int} {r2 r3 : List Int} {r4 : List Bool} {W : World} (hB : Below w.heap.size w W) (hx : sysP w.heap.size x l1 l2 l3 W) (h : laws_markSystem.f k a l1 l2 l3 a1 = some (r1, r2, r3, r4)) :
    Calls Try.prog 13 #[.agg #[.int .i64 a, .slice x.A1 x.n1 x.c1, .slice x.A2 x.n2 x.c2, .slice x.A3 x.n3 x.c3], .int .i64 a1] W fun e w' => e = .returned (.int .i64 r1) ∧ sysP w.heap.size x r2 r3 r4 w' ∧ Below w.heap.size w w' ∧ Kept W w' (fun k => x.lo ≤ k ∧ k < x.hi) := by
  have t1 := Kd.R_tight rfl hx.1
  have t2 := Kd.R_tight rfl hx.2.1
  have t3 := Kd.R_tight rfl hx.2.2
  have in1 := hx.1.1
  have in2 := hx.2.1.1
  have in3 := hx.2.2.1
  refine (laws_markSystem.calls k a _ _ l1 _ _ l2 _ _ l3 a1 r1 r2 r3 r4 w W hB t1 (fun k h1 h2 => (in1 k h1.symm).2 h2) t2 (fun k h1 h2 => (in1 k h2.symm).2 h1) t3 h).mono ?_
  rintro e w' ⟨rfl, o1, o2, o3, hb, hk⟩
  refine ⟨rfl, ⟨?_, ?_, ?_⟩, hb, hk.mono fun k hk => ?_⟩
  · exact Kd.R_mono (Kd.R_tight rfl o1) fun k hk => in1 k hk.symm
  · exact Kd.R_mono (Kd.R_tight rfl o2) fun k hk => in2 k hk.symm
  · exact Kd.R_mono (Kd.R_tight rfl o3) fun k hk => in3 k hk.symm
  · rcases hk with hk | hk | hk
    · exact (in1 k hk.symm).1
    · exact (in2 k hk.symm).1
    · exact in3 k hk.symm
/-- Where rows of rows lie, and their value. -/
structure Rv where
  lo : Nat
  hi : Nat
  n : Nat
  c : Nat
  A : Option Addr
  le : lo ≤ hi
def rdP (B : Nat) (x : Rv) (l : List (List Int)) (W : World) : Prop := Kd.N KSL 22 W B (fun k => x.lo ≤ k ∧ k < x.hi) (.slice x.A x.n x.c) l
def rsP (B : Nat) (x : Rv) (l : List (List Int)) (W : World) : Prop := Kd.S KSL 22 W B (fun k => x.lo ≤ k ∧ k < x.hi) (.slice x.A x.n x.c) l
theorem rdP_move {B : Nat} {x : Rv} {l : List (List Int)} {W W' : World} (h : rdP B x l W) (hm : ∀ k, x.lo ≤ k → k < x.hi → W'.heap[k]? = W.heap[k]?) : rdP B x l W' := Kd.N_step h (fun k hk _ => hm k hk.1 hk.2)
theorem rsP_move {B : Nat} {x : Rv} {l : List (List Int)} {W W' : World} (h : rsP B x l W) (hm : ∀ k, x.lo ≤ k → k < x.hi → W'.heap[k]? = W.heap[k]?) : rsP B x l W' := Kd.S_step h (fun k hk _ => hm k hk.1 hk.2)
def Ob.rd (B : Nat) (x : Rv) (l : List (List Int)) : Ob := ⟨x.lo, x.hi, rdP B x l, x.le, fun W W' h hm => rdP_move h hm⟩
def Ob.rs (B : Nat) (x : Rv) (l : List (List Int)) : Ob := ⟨x.lo, x.hi, rsP B x l, x.le, fun W W' h hm => rsP_move h hm⟩
def rvC (x : Rv) (l : List (List Int)) (W : World) : Prop := x.n = l.length ∧ l.length ≤ x.c ∧ Kd.C KSL W x.A l.length l
theorem rd_C {B : Nat} {x : Rv} {l : List (List Int)} {W : World} (h : rdP B x l W) : rvC x l W := by
  obtain ⟨h1, h2, h3⟩ := Kd.N_reads' h
  exact ⟨h1, by omega, h3⟩
theorem rs_C {B : Nat} {x : Rv} {l : List (List Int)} {W : World} (h : rsP B x l W) : rvC x l W := by
  obtain ⟨h1, h2, h3⟩ := Kd.S_reads' h
  exact ⟨h1, by omega, h3⟩
theorem eqV (k : Nat) {x y : Rv} {l m : List (List Int)} {r : Bool} {W : World} (hx : rvC x l W) (hy : rvC y m W) (h : laws_eqIntSS.f k l m = some r) :
    Calls Try.prog 31 #[.slice x.A x.n x.c, .slice y.A y.n y.c] W fun e w' => e = .returned (.bool r) ∧ Below W.heap.size W w' := by
  rw [hx.1, hy.1]
  refine (laws_eqIntSS.calls k _ _ l _ _ m r W hx.2.2 hx.2.1 hy.2.2 hy.2.1 h).mono ?_
  rintro e w' ⟨rfl, hd⟩
  exact ⟨rfl, hd.below⟩
theorem heldV (k : Nat) {x : Rv} {l : List (List Int)} {a1 r : Int} {W : World} (hx : rvC x l W) (h : laws_heldIntSS.f k l a1 = some r) :
    Calls Try.prog 33 #[.slice x.A x.n x.c, .int .i64 a1] W fun e w' => e = .returned (.int .i64 r) ∧ Below W.heap.size W w' := by
  rw [hx.1]
  refine (laws_heldIntSS.calls k _ _ l a1 r W hx.2.2 hx.2.1 h).mono ?_
  rintro e w' ⟨rfl, hd⟩
  exact ⟨rfl, hd.below⟩
theorem markV (k : Nat) {w : World} {x : Rv} {a1 r1 : Int} {l r2 : List (List Int)} {W : World} (hB : Below w.heap.size w W) (hx : rsP w.heap.size x l W) (h : laws_markIntSS.f k l a1 = some (r1, r2)) :
    Calls Try.prog 32 #[.slice x.A x.n x.c, .int .i64 a1] W fun e w' => e = .returned (.int .i64 r1) ∧ rsP w.heap.size x r2 w' ∧ Below w.heap.size w w' ∧ Kept W w' (fun k => x.lo ≤ k ∧ k < x.hi) :=
  laws_markIntSS.calls k _ _ l a1 r1 r2 w W hB hx h
theorem specV (k : Nat) {w : World} {x : Sx} {a : Int} {l1 l2 : List Int} {l3 : List Bool} {r : List (List Int)} {W : World} (hB : Below w.heap.size w W) (hx : sysP w.heap.size x l1 l2 l3 W) (h : spec_ViewsOf.f k a l1 l2 l3 = some r) :
    Calls Try.prog 29 #[.agg #[.int .i64 a, .slice x.A1 x.n1 x.c1, .slice x.A2 x.n2 x.c2, .slice x.A3 x.n3 x.c3]] W fun e w' => ∃ z : Rv, e = .returned (.slice z.A z.n z.c) ∧ (rdP w.heap.size z r w' ∧ W.heap.size ≤ z.lo ∧ z.hi ≤ w'.heap.size) ∧ Below W.heap.size W w' := by
  obtain ⟨⟨e1, e2, e3⟩, ⟨p1, q1⟩, ⟨p2, q2⟩, ⟨p3, q3⟩⟩ := sys_reads hx
  rw [e1, e2, e3]
  refine (spec_ViewsOf.calls k a _ _ l1 _ _ l2 _ _ l3 r W p1 q1 p2 q2 p3 q3 h).mono ?_
  rintro e w' ⟨v, rfl, o1, hb'⟩
  obtain ⟨A, c, rfl⟩ := Kd.N_slice o1
  exact ⟨⟨W.heap.size, w'.heap.size, r.length, c, A, hb'.size⟩, rfl, ⟨Kd.N_lower (Kd.N_bound o1) hB.size, Nat.le_refl _, Nat.le_refl _⟩, hb'⟩
theorem implV (k : Nat) {w : World} {x : Sx} {a : Int} {l1 l2 : List Int} {l3 : List Bool} {r : List (List Int)} {W : World} (hB : Below w.heap.size w W) (hx : sysP w.heap.size x l1 l2 l3 W) (h : impl_ViewsOf.f k a l1 l2 l3 = some r) :
    Calls Try.prog 30 #[.agg #[.int .i64 a, .slice x.A1 x.n1 x.c1, .slice x.A2 x.n2 x.c2, .slice x.A3 x.n3 x.c3]] W fun e w' => ∃ z : Rv, e = .returned (.slice z.A z.n z.c) ∧ (rsP w.heap.size z r w' ∧ W.heap.size ≤ z.lo ∧ z.hi ≤ w'.heap.size) ∧ Below W.heap.size W w' := by
  obtain ⟨⟨e1, e2, e3⟩, ⟨p1, q1⟩, ⟨p2, q2⟩, ⟨p3, q3⟩⟩ := sys_reads hx
  rw [e1, e2, e3]
  refine (impl_ViewsOf.calls k a _ _ l1 _ _ l2 _ _ l3 r W p1 q1 p2 q2 p3 q3 h).mono ?_
  rintro e w' ⟨v, rfl, o1, hb'⟩
  obtain ⟨A, c, rfl⟩ := Kd.S_slice o1
  exact ⟨⟨W.heap.size, w'.heap.size, r.length, c, A, hb'.size⟩, rfl, ⟨Kd.S_lower (Kd.S_mono (Kd.S_bound o1) fun k hk => ⟨hk.2.1, hk.2.2.1⟩) hB.size, Nat.le_refl _, Nat.le_refl _⟩, hb'⟩

end Go.Proofs.Ytipfkicndjddgaa.P
end

section
namespace Go.Proofs.Ytipfkicndjddgaa.P
open Go.RowKit Go.Proofs.YtipfkicndjddgaaW.PrintWords Go.Proofs.YtipfkicndjddgaaW.PrintLast Go.Proofs.YtipfkicndjddgaaW.PrintMore
attribute [local go_sem] max2_int min2_int max_two min_two max_three min_three max_four min_four
set_option linter.unusedVariables false
set_option linter.unusedSimpArgs false
def laws_FnExactViewsOf.f (k : Nat) (a0_0 : Int) (l0_1 : List Int) (l0_2 : List Int) (l0_3 : List Bool) : Option (Bool) :=
  (laws_szSystem.f a0_0 l0_1 l0_2 l0_3 1048576).bind fun t1 => if t1 < 0 then some true else
  (laws_toSystem.f k a0_0 l0_1 l0_2 l0_3).bind fun p => (spec_ViewsOf.f k p.1 p.2.1 p.2.2.1 p.2.2.2).bind fun s => (impl_ViewsOf.f k p.1 p.2.1 p.2.2.1 p.2.2.2).bind fun g =>
  (laws_eqIntSS.f k g s).bind fun e1 => (laws_eqSystem.f k p.1 p.2.1 p.2.2.1 p.2.2.2 p.1 p.2.1 p.2.2.1 p.2.2.2).bind fun e2 =>
  (laws_markSystem.f k p.1 p.2.1 p.2.2.1 p.2.2.2 1).bind fun m => (laws_markIntSS.f k g 1).bind fun u => (laws_heldIntSS.f k u.2 1).bind fun h =>
  some (e1 && (e2 && (decide (¬ m.1 < 0) && (decide (¬ h < 0) && decide (h = u.1)))))
set_option maxHeartbeats 8000000 in
set_option maxRecDepth 100000 in
theorem laws_FnExactViewsOf.calls (k : Nat) (a0_0 : Int) (A0_1 : Option Addr) (c0_1 : Nat) (l0_1 : List Int) (A0_2 : Option Addr) (c0_2 : Nat) (l0_2 : List Int) (A0_3 : Option Addr) (c0_3 : Nat) (l0_3 : List Bool) (r : Bool) (w : World) (hr0_1 : Kd.C (Kd.int .i64) w A0_1 l0_1.length l0_1) (hc0_1 : l0_1.length ≤ c0_1) (hr0_2 : Kd.C (Kd.int .i64) w A0_2 l0_2.length l0_2) (hc0_2 : l0_2.length ≤ c0_2) (hr0_3 : Kd.C Kd.bool w A0_3 l0_3.length l0_3) (hc0_3 : l0_3.length ≤ c0_3) (h : laws_FnExactViewsOf.f k a0_0 l0_1 l0_2 l0_3 = some r) (hr_ : r = true) :
    Calls Try.prog 7 #[.agg #[.int .i64 a0_0, .slice A0_1 l0_1.length c0_1, .slice A0_2 l0_2.length c0_2, .slice A0_3 l0_3.length c0_3]] w fun e w' => e = .returned (.bool r) ∧ Below w.heap.size w w' := by
 have HR0_1 := Aside0.mk hr0_1
 have HC0_1 := Aside0.mk hc0_1
 clear hr0_1 hc0_1
 have HR0_2 := Aside0.mk hr0_2
 have HC0_2 := Aside0.mk hc0_2
 clear hr0_2 hc0_2
 have HR0_3 := Aside0.mk hr0_3
 have HC0_3 := Aside0.mk hc0_3
 clear hr0_3 hc0_3
 have HA := Aside0.mk (show All w [] w from Below.refl w.heap.size w)
 unfold laws_FnExactViewsOf.f at h
 obtain ⟨t1, A1, h⟩ := Option.bind_eq_some_iff.mp h
 have H := Aside0.mk h
 have A1 := Aside0.mk A1
 clear h
 go_enter Try.func7, Try.ntmps7
 go_upto_region 2 with (first | ((with_reducible refine gate_dst (N := 1) rfl ?_); (try (refine gate_guard (by rfl) ?_; dsimp only)); refine box_event ?hg (N := 1) ?hd (cs := #[.int .i64 a0_0, .slice A0_1 l0_1.length c0_1, .slice A0_2 l0_2.length c0_2, .slice A0_3 l0_3.length c0_3]) (t := 25) ?hr ?_; (case hd => rfl); (case hg => rfl); (case hr => first | (go_simp; done) | (go_simp; rfl)); intro g1 hg w11 hbox hb; have n_ := Aside0.mk (All.box (by first | exact HA.out | exact All.drewN HA.out _ | exact All.drew HA.out) hg hbox hb); clear HA; have HA := n_; clear n_ hg hbox hb))
 obtain ⟨ca0, ca1, ca2, ca3⟩ := bc4_ HA.out.1.1
 go_upto_if 15 with (first | ((with_reducible refine gate_callee (f := 8) rfl ?_); refine goesL_ (some 13) rfl rfl Try.func8 (by kernel_rfl) rfl #[.agg #[.int .i64 a0_0, .slice A0_1 l0_1.length c0_1, .slice A0_2 l0_2.length c0_2, .slice A0_3 l0_3.length c0_3], .int .i64 1048576] rfl la_ ?_; (refine (laws_szSystem.calls a0_0 _ _ l0_1 _ _ l0_2 _ _ l0_3 1048576 t1 _ (Kd.C_below HR0_1.out (by first | exact All.base HA.out | exact pw_below_drewN (All.base HA.out) _ | exact below_drew1 (All.base HA.out))) HC0_1.out (Kd.C_below HR0_2.out (by first | exact All.base HA.out | exact pw_below_drewN (All.base HA.out) _ | exact below_drew1 (All.base HA.out))) HC0_2.out (Kd.C_below HR0_3.out (by first | exact All.base HA.out | exact pw_below_drewN (All.base HA.out) _ | exact below_drew1 (All.base HA.out))) HC0_3.out A1.out).mono ?_); rintro e w12 ⟨rfl, hb⟩; refine ⟨_, rfl, ?_⟩; (try replace hb := hb.below); have n_ := Aside0.mk (All.below (by first | exact HA.out | exact All.drewN HA.out _ | exact All.drew HA.out) hb); clear HA; have HA := n_; clear n_ hb))
 have h := H.out
 clear H ca0 ca1 ca2 ca3
 by_cases c1 : t1 < 0
 · rw [if_pos c1] at h
   have c1b : decide (t1 < 0) = true := decide_eq_true c1
   (first | rw [c1b] | (simp only [i64_w, i32_w]; rw [c1b]) | skip)
   obtain rfl := Option.some.inj h
   go_wp2
   go_ret
   exact ⟨rfl, (by first | exact All.base HA.out | exact pw_below_drewN (All.base HA.out) _ | exact below_drew1 (All.base HA.out))⟩
 rw [if_neg c1] at h
 have c1b : decide (t1 < 0) = false := decide_eq_false c1
 (first | rw [c1b] | (simp only [i64_w, i32_w]; rw [c1b]) | skip)
 clear c1
 obtain ⟨⟨p1, p2, p3, p4⟩, Ap, h⟩ := Option.bind_eq_some_iff.mp h
 obtain ⟨s, As, h⟩ := Option.bind_eq_some_iff.mp h
 obtain ⟨g, Ag, h⟩ := Option.bind_eq_some_iff.mp h
 obtain ⟨e1, Ae1, h⟩ := Option.bind_eq_some_iff.mp h
 obtain ⟨e2, Ae2, h⟩ := Option.bind_eq_some_iff.mp h
 obtain ⟨⟨m1, m2, m3, m4⟩, Am, h⟩ := Option.bind_eq_some_iff.mp h
 obtain ⟨⟨u1, u2⟩, Au, h⟩ := Option.bind_eq_some_iff.mp h
 obtain ⟨hh, Ah, h⟩ := Option.bind_eq_some_iff.mp h
 obtain rfl := hr_
 replace h := Option.some.inj h
 simp only [Bool.and_eq_true, decide_eq_true_eq] at h
 obtain ⟨rfl, rfl, cn, ch, rfl⟩ := h
 have Ap := Aside0.mk Ap
 have As := Aside0.mk As
 have Ag := Aside0.mk Ag
 have Ae1 := Aside0.mk Ae1
 have Ae2 := Aside0.mk Ae2
 have Am := Aside0.mk Am
 have Au := Aside0.mk Au
 have Ah := Aside0.mk Ah
 have cnb : decide (m1 < 0) = false := decide_eq_false (by omega)
 have chb : decide (hh < 0) = false := decide_eq_false (by omega)
 have chh : (hh != hh) = false := bne_self_eq_false hh
 clear cn ch
 dsimp only at Ap As Ag Ae1 Ae2 Am Au Ah
 go_upto_region 5 with (fail)
 obtain ⟨ca0, ca1, ca2, ca3⟩ := bc4_ HA.out.1.1
 go_upto_region 6 with (first | ((with_reducible refine gate_callee (f := 10) rfl ?_); refine goesL_ (some 17) rfl rfl Try.func10 (by kernel_rfl) rfl #[.agg #[.int .i64 a0_0, .slice A0_1 l0_1.length c0_1, .slice A0_2 l0_2.length c0_2, .slice A0_3 l0_3.length c0_3]] rfl la_ ?_; (refine (toS k HR0_1.out HC0_1.out HR0_2.out HC0_2.out HR0_3.out HC0_3.out _ (by first | exact All.base HA.out | exact pw_below_drewN (All.base HA.out) _ | exact below_drew1 (All.base HA.out)) Ap.out).mono ?_); rintro e w13 ⟨xa, rfl, hp, hb⟩; refine ⟨_, rfl, ?_⟩; have n_ := Aside0.mk (All.push (by first | exact HA.out | exact All.drewN HA.out _ | exact All.drew HA.out) hb (Ob.sys w.heap.size xa p2 p3 p4) hp.1 hp.2.1 hp.2.2); clear HA; have HA := n_; clear n_ hp hb) | ((with_reducible refine gate_callee (f := 29) rfl ?_); refine goesL_ (some 18) rfl rfl Try.func29 (by kernel_rfl) rfl #[.agg #[.int .i64 p1, .slice xa.A1 xa.n1 xa.c1, .slice xa.A2 xa.n2 xa.c2, .slice xa.A3 xa.n3 xa.c3]] rfl la_ ?_; (refine (specV k (by first | exact All.base HA.out | exact pw_below_drewN (All.base HA.out) _ | exact below_drew1 (All.base HA.out)) (sysP_move HA.out.1.1 (fun _ _ _ => rfl)) As.out).mono ?_); rintro e w14 ⟨xw, rfl, hp, hb⟩; refine ⟨_, rfl, ?_⟩; have n_ := Aside0.mk (All.push (by first | exact HA.out | exact All.drewN HA.out _ | exact All.drew HA.out) hb (Ob.rd w.heap.size xw s) hp.1 hp.2.1 hp.2.2); clear HA; have HA := n_; clear n_ hp hb))
 clear ca0 ca1 ca2 ca3
 obtain ⟨ca0, ca1, ca2, ca3⟩ := bc4_ HA.out.2.2.1.1
 go_upto_region 7 with (first | ((with_reducible refine gate_callee (f := 10) rfl ?_); refine goesL_ (some 20) rfl rfl Try.func10 (by kernel_rfl) rfl #[.agg #[.int .i64 a0_0, .slice A0_1 l0_1.length c0_1, .slice A0_2 l0_2.length c0_2, .slice A0_3 l0_3.length c0_3]] rfl la_ ?_; (refine (toS k HR0_1.out HC0_1.out HR0_2.out HC0_2.out HR0_3.out HC0_3.out _ (by first | exact All.base HA.out | exact pw_below_drewN (All.base HA.out) _ | exact below_drew1 (All.base HA.out)) Ap.out).mono ?_); rintro e w15 ⟨x0, rfl, hp, hb⟩; refine ⟨_, rfl, ?_⟩; have n_ := Aside0.mk (All.push (by first | exact HA.out | exact All.drewN HA.out _ | exact All.drew HA.out) hb (Ob.sys w.heap.size x0 p2 p3 p4) hp.1 hp.2.1 hp.2.2); clear HA; have HA := n_; clear n_ hp hb) | ((with_reducible refine gate_dst (N := 5) rfl ?_); (try (refine gate_guard (by rfl) ?_; dsimp only)); refine box_event ?hg (N := 5) ?hd (cs := #[.int .i64 0, .slice none 0 0, .slice none 0 0, .slice none 0 0]) (t := 27) ?hr ?_; (case hd => rfl); (case hg => rfl); (case hr => first | (go_simp; done) | (go_simp; rfl)); intro g5 hg w16 hbox hb; have n_ := Aside0.mk (All.box (by first | exact HA.out | exact All.drewN HA.out _ | exact All.drew HA.out) hg hbox hb); clear HA; have HA := n_; clear n_ hg hbox hb; obtain ⟨cz0, cz1, cz2, cz3, cz4, cz5, cz6, cz7⟩ := bf4_ HA.out.1.1))
 refine gen_wp (All w _) (All.set4 (l1 := []) HA.out (.int .i64 p1) (.slice x0.A1 x0.n1 x0.c1) (.slice x0.A2 x0.n2 x0.c2) (.slice x0.A3 x0.n3 x0.c3)) ?_
 clear HA ca0 ca1 ca2 ca3 cz0 cz1 cz2 cz3 cz4 cz5 cz6 cz7
 intro w17 hA
 have HA := Aside0.mk hA
 clear hA
 obtain ⟨ci0, ci1, ci2, ci3⟩ := bc4_ HA.out.1.1
 go_upto_region 8 with (first | ((with_reducible refine gate_callee (f := 30) rfl ?_); refine goesL_ (some 22) rfl rfl Try.func30 (by kernel_rfl) rfl #[.agg #[.int .i64 p1, .slice x0.A1 x0.n1 x0.c1, .slice x0.A2 x0.n2 x0.c2, .slice x0.A3 x0.n3 x0.c3]] rfl la_ ?_; (refine (implV k (by first | exact All.base HA.out | exact pw_below_drewN (All.base HA.out) _ | exact below_drew1 (All.base HA.out)) (sysP_move HA.out.2.1.1 (fun _ _ _ => rfl)) Ag.out).mono ?_); rintro e w18 ⟨xg, rfl, hp, hb⟩; refine ⟨_, rfl, ?_⟩; have n_ := Aside0.mk (All.push (by first | exact HA.out | exact All.drewN HA.out _ | exact All.drew HA.out) hb (Ob.rs w.heap.size xg g) hp.1 hp.2.1 hp.2.2); clear HA; have HA := n_; clear n_ hp hb))
 clear ci0 ci1 ci2 ci3
 go_upto_region 10 with (first | ((with_reducible refine gate_callee (f := 31) rfl ?_); refine goesL_ (some 25) rfl rfl Try.func31 (by kernel_rfl) rfl #[.slice xg.A xg.n xg.c, .slice xw.A xw.n xw.c] rfl la_ ?_; (refine (eqV k (rs_C (rsP_move HA.out.1.1 (fun _ _ _ => rfl))) (rd_C (rdP_move HA.out.2.2.2.1.1 (fun _ _ _ => rfl))) Ae1.out).mono ?_); rintro e w19 ⟨rfl, hb⟩; refine ⟨_, rfl, ?_⟩; have n_ := Aside0.mk (All.below (by first | exact HA.out | exact All.drewN HA.out _ | exact All.drew HA.out) hb); clear HA; have HA := n_; clear n_ hb))
 replace HA := Aside0.mk (All.drew HA.out)
 refine start_ (n := 5) (S := (fun w' => w'.heap[g5]? = some (.cells #[.int .i64 p1, .slice x0.A1 x0.n1 x0.c1, .slice x0.A2 x0.n2 x0.c2, .slice x0.A3 x0.n3 x0.c3] 27 (0, 0)) ∧ w'.heap[g1]? = some (.cells #[.int .i64 a0_0, .slice A0_1 l0_1.length c0_1, .slice A0_2 l0_2.length c0_2, .slice A0_3 l0_3.length c0_3] 25 (0, 0)))) (ds := []) #[false, false, false, false, false] (by kernel_rfl) rfl rfl ⟨HA.out.2.1.1, HA.out.2.2.2.2.2.1.1⟩ (fun hHeld => ?_)
 generalize w19.drew = w20 at HA hHeld ⊢
 refine take_ (i := 0) (N := some 27) (v := ?_) (a' := ?_) #[true, false, false, false, false] rfl rfl (by kernel_rfl) (fun _ _ _ h => h) (Or.inl ⟨by rfl, ?_⟩) hHeld ?_ ?_
 rotate_left
 · rintro w' ⟨s0, s1⟩
   obtain ⟨q0, q1, q2, q3⟩ := bc4_ s0
   go_simp
   with_reducible rfl
 rotate_left
 · simp only [Act.put, List.setIfInBounds_toArray, List.set_cons_zero, List.set_cons_succ, i64_w, i32_w]
   rfl
 refine take_ (i := 1) (N := some 28) (v := ?_) (a' := ?_) #[true, true, false, false, false] rfl rfl (by kernel_rfl) (fun _ _ _ h => h) (Or.inl ⟨by rfl, ?_⟩) hHeld ?_ ?_
 rotate_left
 · rintro w' ⟨s0, s1⟩
   obtain ⟨q0, q1, q2, q3⟩ := bc4_ s1
   go_simp
   with_reducible rfl
 rotate_left
 · simp only [Act.put, List.setIfInBounds_toArray, List.set_cons_zero, List.set_cons_succ, i64_w, i32_w]
   rfl
 refine one_ (i := 2) (N := some 29) #[true, true, true, false, false] rfl rfl (by kernel_rfl) (by decide) (fun K hK => ?_)
 refine goes_ Try.func10 (by kernel_rfl) rfl #[.agg #[.int .i64 a0_0, .slice A0_1 l0_1.length c0_1, .slice A0_2 l0_2.length c0_2, .slice A0_3 l0_3.length c0_3]] (by rfl) rfl rfl la_ ?_
 refine (toS k HR0_1.out HC0_1.out HR0_2.out HC0_2.out HR0_3.out HC0_3.out _ (by first | exact All.base HA.out | exact pw_below_drewN (All.base HA.out) _ | exact below_drew1 (All.base HA.out)) Ap.out).mono ?_
 rintro e w21 ⟨xt, rfl, hp, hb⟩
 refine ⟨_, rfl, ?_⟩
 have n_ := Aside0.mk (All.push (by first | exact HA.out | exact All.drewN HA.out _ | exact All.drew HA.out) hb (Ob.sys w.heap.size xt p2 p3 p4) hp.1 hp.2.1 hp.2.2)
 clear HA
 have HA := n_
 clear n_ hp hb
 refine hK.out _ _ ⟨HA.out.2.2.1.1, HA.out.2.2.2.2.2.2.1.1⟩ (fun hHeld => ?_)
 clear hK K
 refine norm_ (a' := ?_) ?_ ?_
 rotate_left
 · show Act.put _ (some 29) _ = _
   simp only [Act.put, List.setIfInBounds_toArray, List.set_cons_zero, List.set_cons_succ, i64_w, i32_w]
   rfl
 refine one_ (i := 3) (N := some 30) #[true, true, true, true, false] rfl rfl (by kernel_rfl) (by decide) (fun K hK => ?_)
 refine goes_ Try.func12 (by kernel_rfl) rfl #[.agg #[.int .i64 p1, .slice x0.A1 x0.n1 x0.c1, .slice x0.A2 x0.n2 x0.c2, .slice x0.A3 x0.n3 x0.c3], .agg #[.int .i64 p1, .slice xt.A1 xt.n1 xt.c1, .slice xt.A2 xt.n2 xt.c2, .slice xt.A3 xt.n3 xt.c3]] (by rfl) rfl rfl la_ ?_
 refine (eqS k (sysP_move HA.out.2.2.2.1.1 (fun _ _ _ => rfl)) (sysP_move HA.out.1.1 (fun _ _ _ => rfl)) Ae2.out).mono ?_
 rintro e w22 ⟨rfl, hb⟩
 refine ⟨_, rfl, ?_⟩
 have n_ := Aside0.mk (All.below (by first | exact HA.out | exact All.drewN HA.out _ | exact All.drew HA.out) hb)
 clear HA
 have HA := n_
 clear n_ hb
 refine hK.out _ _ ⟨HA.out.2.2.1.1, HA.out.2.2.2.2.2.2.1.1⟩ (fun hHeld => ?_)
 clear hK K
 refine norm_ (a' := ?_) ?_ ?_
 rotate_left
 · show Act.put _ (some 30) _ = _
   simp only [Act.put, List.setIfInBounds_toArray, List.set_cons_zero, List.set_cons_succ, i64_w, i32_w]
   rfl
 refine pure_ (i := 4) (N := some 31) (v := ?_) (a' := ?_) #[true, true, true, true, true] rfl rfl (by kernel_rfl) (fun _ _ _ h => h) (Or.inl ⟨by rfl, ?_⟩) ?_ ?_
 rotate_left
 · intro w'
   go_simp
   with_reducible rfl
 rotate_left
 · simp only [Act.put, List.setIfInBounds_toArray, List.set_cons_zero, List.set_cons_succ, i64_w, i32_w]
   rfl
 refine done_ (by kernel_rfl) ?_
 have n_ := Aside0.mk (HA.out.2)
 clear HA hHeld
 have HA := n_
 clear n_
 go_upto_region 13 with (fail)
 obtain ⟨ci0, ci1, ci2, ci3⟩ := bc4_ HA.out.2.1.1
 go_upto_region 14 with (first | ((with_reducible refine gate_callee (f := 13) rfl ?_); refine goesL_ (some 34) rfl rfl Try.func13 (by kernel_rfl) rfl #[.agg #[.int .i64 p1, .slice x0.A1 x0.n1 x0.c1, .slice x0.A2 x0.n2 x0.c2, .slice x0.A3 x0.n3 x0.c3], .int .i64 1] rfl la_ ?_; (refine (markS k (by first | exact All.base HA.out | exact pw_below_drewN (All.base HA.out) _ | exact below_drew1 (All.base HA.out)) (sysP_move HA.out.2.2.1.1 (fun _ _ _ => rfl)) Am.out).mono ?_); rintro e w23 ⟨rfl, hp, hb, hk⟩; refine ⟨_, rfl, ?_⟩; have n_ := Aside0.mk (All.mark (l1 := [_, _]) (o := Ob.sys w.heap.size x0 p2 p3 p4) (o' := Ob.sys w.heap.size x0 m2 m3 m4) hk (fun _ => hb) (fun _ h => h) rfl rfl hp (by first | exact HA.out | exact All.drewN HA.out _ | exact All.drew HA.out)); clear HA; have HA := n_; clear n_ hp hb hk))
 clear ci0 ci1 ci2 ci3
 go_upto_region 16 with (first | (go_at_call 31; (refine (eqV k (rs_C (rsP_move HA.out.1.1 (fun _ _ _ => rfl))) (rd_C (rdP_move HA.out.2.2.2.1.1 (fun _ _ _ => rfl))) Ae1.out).mono ?_); rintro e w24 ⟨rfl, hb⟩; have n_ := Aside0.mk (All.below (by first | exact HA.out | exact All.drewN HA.out _ | exact All.drew HA.out) hb); clear HA; have HA := n_; clear n_ hb) | ((with_reducible refine gate_callee (f := 31) rfl ?_); refine goesL_ (some 40) rfl rfl Try.func31 (by kernel_rfl) rfl #[.slice xg.A xg.n xg.c, .slice xw.A xw.n xw.c] rfl la_ ?_; (refine (eqV k (rs_C (rsP_move HA.out.1.1 (fun _ _ _ => rfl))) (rd_C (rdP_move HA.out.2.2.2.1.1 (fun _ _ _ => rfl))) Ae1.out).mono ?_); rintro e w25 ⟨rfl, hb⟩; refine ⟨_, rfl, ?_⟩; have n_ := Aside0.mk (All.below (by first | exact HA.out | exact All.drewN HA.out _ | exact All.drew HA.out) hb); clear HA; have HA := n_; clear n_ hb))
 go_upto_region 17 with (fail)
 go_upto_region 18 with (first | ((with_reducible refine gate_callee (f := 32) rfl ?_); refine goesL_ (some 45) rfl rfl Try.func32 (by kernel_rfl) rfl #[.slice xg.A xg.n xg.c, .int .i64 1] rfl la_ ?_; (refine (markV k (by first | exact All.base HA.out | exact pw_below_drewN (All.base HA.out) _ | exact below_drew1 (All.base HA.out)) (rsP_move HA.out.1.1 (fun _ _ _ => rfl)) Au.out).mono ?_); rintro e w26 ⟨rfl, hp, hb, hk⟩; refine ⟨_, rfl, ?_⟩; have n_ := Aside0.mk (All.mark (l1 := []) (o := Ob.rs w.heap.size xg g) (o' := Ob.rs w.heap.size xg u2) hk (fun _ => hb) (fun _ h => h) rfl rfl hp (by first | exact HA.out | exact All.drewN HA.out _ | exact All.drew HA.out)); clear HA; have HA := n_; clear n_ hp hb hk))
 go_upto_region 24 with (first | ((with_reducible refine gate_callee (f := 33) rfl ?_); refine goesL_ (some 48) rfl rfl Try.func33 (by kernel_rfl) rfl #[.slice xg.A xg.n xg.c, .int .i64 1] rfl la_ ?_; (refine (heldV k (rs_C (rsP_move HA.out.1.1 (fun _ _ _ => rfl))) Ah.out).mono ?_); rintro e w27 ⟨rfl, hb⟩; refine ⟨_, rfl, ?_⟩; have n_ := Aside0.mk (All.below (by first | exact HA.out | exact All.drewN HA.out _ | exact All.drew HA.out) hb); clear HA; have HA := n_; clear n_ hb))
 obtain ⟨ca0, ca1, ca2, ca3⟩ := bc4_ HA.out.2.2.2.2.2.1.1
 go_upto_region 25 with (first | ((with_reducible refine gate_callee (f := 10) rfl ?_); refine goesL_ (some 55) rfl rfl Try.func10 (by kernel_rfl) rfl #[.agg #[.int .i64 a0_0, .slice A0_1 l0_1.length c0_1, .slice A0_2 l0_2.length c0_2, .slice A0_3 l0_3.length c0_3]] rfl la_ ?_; (refine (toS k HR0_1.out HC0_1.out HR0_2.out HC0_2.out HR0_3.out HC0_3.out _ (by first | exact All.base HA.out | exact pw_below_drewN (All.base HA.out) _ | exact below_drew1 (All.base HA.out)) Ap.out).mono ?_); rintro e w28 ⟨xb, rfl, hp, hb⟩; refine ⟨_, rfl, ?_⟩; have n_ := Aside0.mk (All.push (by first | exact HA.out | exact All.drewN HA.out _ | exact All.drew HA.out) hb (Ob.sys w.heap.size xb p2 p3 p4) hp.1 hp.2.1 hp.2.2); clear HA; have HA := n_; clear n_ hp hb) | ((with_reducible refine gate_callee (f := 30) rfl ?_); refine goesL_ (some 56) rfl rfl Try.func30 (by kernel_rfl) rfl #[.agg #[.int .i64 p1, .slice xb.A1 xb.n1 xb.c1, .slice xb.A2 xb.n2 xb.c2, .slice xb.A3 xb.n3 xb.c3]] rfl la_ ?_; (refine (implV k (by first | exact All.base HA.out | exact pw_below_drewN (All.base HA.out) _ | exact below_drew1 (All.base HA.out)) (sysP_move HA.out.1.1 (fun _ _ _ => rfl)) Ag.out).mono ?_); rintro e w29 ⟨xh, rfl, hp, hb⟩; refine ⟨_, rfl, ?_⟩; have n_ := Aside0.mk (All.push (by first | exact HA.out | exact All.drewN HA.out _ | exact All.drew HA.out) hb (Ob.rs w.heap.size xh g) hp.1 hp.2.1 hp.2.2); clear HA; have HA := n_; clear n_ hp hb))
 clear ca0 ca1 ca2 ca3
 go_upto_region 27 with (first | ((with_reducible refine gate_callee (f := 31) rfl ?_); refine goesL_ (some 59) rfl rfl Try.func31 (by kernel_rfl) rfl #[.slice xh.A xh.n xh.c, .slice xw.A xw.n xw.c] rfl la_ ?_; (refine (eqV k (rs_C (rsP_move HA.out.1.1 (fun _ _ _ => rfl))) (rd_C (rdP_move HA.out.2.2.2.2.2.1.1 (fun _ _ _ => rfl))) Ae1.out).mono ?_); rintro e w30 ⟨rfl, hb⟩; refine ⟨_, rfl, ?_⟩; have n_ := Aside0.mk (All.below (by first | exact HA.out | exact All.drewN HA.out _ | exact All.drew HA.out) hb); clear HA; have HA := n_; clear n_ hb))
 go_wp2_with (first | ((with_reducible refine gate_callee (f := 33) rfl ?_); refine goesL_ (some 63) rfl rfl Try.func33 (by kernel_rfl) rfl #[.slice xg.A xg.n xg.c, .int .i64 1] rfl la_ ?_; (refine (heldV k (rs_C (rsP_move HA.out.2.2.1.1 (fun _ _ _ => rfl))) Ah.out).mono ?_); rintro e w31 ⟨rfl, hb⟩; refine ⟨_, rfl, ?_⟩; have n_ := Aside0.mk (All.below (by first | exact HA.out | exact All.drewN HA.out _ | exact All.drew HA.out) hb); clear HA; have HA := n_; clear n_ hb))
 go_ret
 exact ⟨rfl, (by first | exact All.base HA.out | exact pw_below_drewN (All.base HA.out) _ | exact below_drew1 (All.base HA.out))⟩
def laws_FnExactViewsOf.Pure : Prop := ∀ (a0_0 : Int) (l0_1 : List Int) (l0_2 : List Int) (l0_3 : List Bool), (Lit.int .i64 a0_0).wf = true → ((∀ z ∈ l0_1, (Lit.int .i64 z).wf = true) ∧ l0_1.length ≤ maxLen) → ((∀ z ∈ l0_2, (Lit.int .i64 z).wf = true) ∧ l0_2.length ≤ maxLen) → ((∀ z ∈ l0_3, True) ∧ l0_3.length ≤ maxLen) → ∃ k, laws_FnExactViewsOf.f k a0_0 l0_1 l0_2 l0_3 = some true
end Go.Proofs.Ytipfkicndjddgaa.P
end
