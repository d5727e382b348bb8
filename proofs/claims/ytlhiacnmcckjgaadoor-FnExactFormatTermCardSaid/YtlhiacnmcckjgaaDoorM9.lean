-- Several texts in one (wip/tools/merge.py).
import Derived.Test.YtlhiacnmcckjgaaDoorM1
import Derived.Test.YtlhiacnmcckjgaaDoorM4
import Derived.Test.YtlhiacnmcckjgaaDoorM8
import Derived.Test.YtlhiacnmcckjgaaDoorM7
import Derived.Test.YtlhiacnmcckjgaaDoorS0
import Derived.Test.YtlhiacnmcckjgaaDoorV
import Derived.Lib.AppendIntMem
import Derived.Lib.LaidTab
section
namespace Go.Proofs.YtlhiacnmcckjgaaDoor.P
open Go.RowKit Go.Proofs.YtlhiacnmcckjgaaDoorW.PrintWords Go.Proofs.YtlhiacnmcckjgaaDoorW.PrintLast Go.Proofs.YtlhiacnmcckjgaaDoorW.PrintMore
attribute [local go_sem] max2_int min2_int max_two min_two max_three min_three max_four min_four   -- for this text's walks alone
set_option linter.unusedVariables false
set_option linter.unusedSimpArgs false

/-! ### spec_IsWritten: function 22 -/
def spec_IsWritten.f (k : Nat) (a0_0 : Int) (a0_1 : Int) (l0_2 : List Int) (l0_3 : List (S34)) : Option (Bool) := (spec_l2Left.f k a0_0 a0_1 l0_2 l0_3 400).bind fun t140 => (if t140 ≥ 0 then ((spec_l2Term.f k a0_0 a0_1 l0_2 l0_3 8 16 false).bind fun t141 => (some t141)) else (some false))
set_option maxHeartbeats 8000000 in
set_option maxRecDepth 100000 in
theorem spec_IsWritten.calls (k : Nat) (a0_0 : Int) (a0_1 : Int) (A0_2 : Option Addr) (c0_2 : Nat) (l0_2 : List Int) (A0_3 : Option Addr) (c0_3 : Nat) (l0_3 : List (S34)) (r : Bool) (w : World) (hr0_2 : Kd.C (Kd.int .i64) w A0_2 l0_2.length l0_2) (hc0_2 : l0_2.length ≤ c0_2) (hr0_3 : Kd.C k34 w A0_3 l0_3.length l0_3) (hc0_3 : l0_3.length ≤ c0_3) (h : spec_IsWritten.f k a0_0 a0_1 l0_2 l0_3 = some r) :
  Calls Tryd.prog 22 #[.agg #[.int .i64 a0_0, .int .i64 a0_1, .slice A0_2 l0_2.length c0_2, .slice A0_3 l0_3.length c0_3]] w fun e w' => e = .returned (.bool r) ∧ Below w.heap.size w w' := by
 have hu34 := Tryd.underlying34
 have HR0_2 := sd_ hr0_2
 have HC0_2 := sd_ hc0_2
 clear hr0_2 hc0_2
 have HR0_3 := sd_ hr0_3
 have HC0_3 := sd_ hc0_3
 clear hr0_3 hc0_3
 have HB := sd_ (Below.refl w.heap.size w)
 have H : ((spec_l2Left.f k a0_0 a0_1 l0_2 l0_3 400).bind fun t140 => (if t140 ≥ 0 then ((spec_l2Term.f k a0_0 a0_1 l0_2 l0_3 8 16 false).bind fun t141 => (some t141)) else (some false))) = some r := h
 clear h
 replace H := Option.bind_eq_some_iff.mp H
 obtain ⟨t140, A20, H⟩ := H
 try dsimp only at H
 have A2 := sd_ A20
 clear A20
 by_cases c3 : t140 ≥ 0
 ·rw [if_pos c3] at H
  have c3b0 : decide (0 ≤ t140) = true := decide_eq_true c3
  clear c3
  replace H := Option.bind_eq_some_iff.mp H
  obtain ⟨t141, A40, H⟩ := H
  try dsimp only at H
  have A4 := sd_ A40
  clear A40
  obtain rfl := Option.some.inj H
  go_enter Tryd.func22, Tryd.ntmps22
  go_wp2_with (first | ((with_reducible refine gate_dst (N := 1) rfl ?_); refine bx_ (N := 1) (cs := #[.int .i64 a0_0, .int .i64 a0_1, .slice A0_2 l0_2.length c0_2, .slice A0_3 l0_3.length c0_3]) (t := 34) ?_; intro gb139 hg w5 hbox hb; have BK139 := sd_ (hbox); have GW139 := sd_ (gs_ hg (bw0_ HB.out)); have GE139 := sd_ (gs_ hg (bw0_ HB.out)); replace HB := sd_ (below_step (bw0_ HB.out) hb); clear hb hbox hg; obtain ⟨hcz6_0, hcz6_1, hcz6_2, hcz6_3, hfz6_0, hfz6_1, hfz6_2, hfz6_3⟩ := bf4_ BK139.out) | ((with_reducible refine gate_callee (f := 36) rfl ?_); refine goesL_ (some 4) rfl rfl Tryd.func36 (by kernel_rfl) rfl #[.agg #[.int .i64 a0_0, .int .i64 a0_1, .slice A0_2 l0_2.length c0_2, .slice A0_3 l0_3.length c0_3], .int .i64 400] rfl la_ ?_; (with_reducible refine (spec_l2Left.calls k a0_0 a0_1 _ _ l0_2 _ _ l0_3 400 t140 _ (kc_ HR0_2.out HB.out) HC0_2.out (kc_ HR0_3.out HB.out) HC0_3.out A2.out).mono ?_); rintro e w7 ⟨rfl, hb⟩; refine ⟨_, rfl, ?_⟩; replace BK139 := sd_ (bb_ BK139.out hb); replace HB := sd_ (below_step (bw1_ HB.out GE139.out) hb); (try clear hb); obtain ⟨hcz8_0, hcz8_1, hcz8_2, hcz8_3, hfz8_0, hfz8_1, hfz8_2, hfz8_3⟩ := bf4_ BK139.out) | (go_at_call 37; (with_reducible refine (spec_l2Term.calls k a0_0 a0_1 _ _ l0_2 _ _ l0_3 8 16 false t141 _ (kc_ HR0_2.out HB.out) HC0_2.out (kc_ HR0_3.out HB.out) HC0_3.out A4.out).mono ?_); rintro e w9 ⟨rfl, hb⟩; replace BK139 := sd_ (bb_ BK139.out hb); replace HB := sd_ (below_step (bw1_ HB.out GE139.out) hb); (try clear hb)))
  go_ret
  exact ⟨an_, bw1_ HB.out GE139.out⟩
 rw [if_neg c3] at H
 have c3b0 : decide (0 ≤ t140) = false := decide_eq_false c3
 clear c3
 obtain rfl := Option.some.inj H
 go_enter Tryd.func22, Tryd.ntmps22
 go_wp2_with (first | ((with_reducible refine gate_dst (N := 1) rfl ?_); refine bx_ (N := 1) (cs := #[.int .i64 a0_0, .int .i64 a0_1, .slice A0_2 l0_2.length c0_2, .slice A0_3 l0_3.length c0_3]) (t := 34) ?_; intro gb139 hg w10 hbox hb; have BK139 := sd_ (hbox); have GW139 := sd_ (gs_ hg (bw0_ HB.out)); have GE139 := sd_ (gs_ hg (bw0_ HB.out)); replace HB := sd_ (below_step (bw0_ HB.out) hb); clear hb hbox hg; obtain ⟨hcz11_0, hcz11_1, hcz11_2, hcz11_3, hfz11_0, hfz11_1, hfz11_2, hfz11_3⟩ := bf4_ BK139.out) | ((with_reducible refine gate_callee (f := 36) rfl ?_); refine goesL_ (some 4) rfl rfl Tryd.func36 (by kernel_rfl) rfl #[.agg #[.int .i64 a0_0, .int .i64 a0_1, .slice A0_2 l0_2.length c0_2, .slice A0_3 l0_3.length c0_3], .int .i64 400] rfl la_ ?_; (with_reducible refine (spec_l2Left.calls k a0_0 a0_1 _ _ l0_2 _ _ l0_3 400 t140 _ (kc_ HR0_2.out HB.out) HC0_2.out (kc_ HR0_3.out HB.out) HC0_3.out A2.out).mono ?_); rintro e w12 ⟨rfl, hb⟩; refine ⟨_, rfl, ?_⟩; replace BK139 := sd_ (bb_ BK139.out hb); replace HB := sd_ (below_step (bw1_ HB.out GE139.out) hb); (try clear hb)))
 go_ret
 exact ⟨an_, bw1_ HB.out GE139.out⟩


/-! ### spec_FormatTerm: function 10 -/
def spec_FormatTerm.f (k : Nat) (a0_0 : Int) (a0_1 : Int) (l0_2 : List Int) (l0_3 : List (S34)) : Option (ByteArray) := (spec_IsWritten.f k a0_0 a0_1 l0_2 l0_3).bind fun t171 => (if t171 = true then ((spec_l2Text.f k a0_0 a0_1 l0_2 l0_3).bind fun t172 => (some t172)) else (some (⟨#[]⟩ : ByteArray)))
set_option maxHeartbeats 8000000 in
set_option maxRecDepth 100000 in
theorem spec_FormatTerm.calls (k : Nat) (a0_0 : Int) (a0_1 : Int) (A0_2 : Option Addr) (c0_2 : Nat) (l0_2 : List Int) (A0_3 : Option Addr) (c0_3 : Nat) (l0_3 : List (S34)) (r : ByteArray) (w : World) (hr0_2 : Kd.C (Kd.int .i64) w A0_2 l0_2.length l0_2) (hc0_2 : l0_2.length ≤ c0_2) (hr0_3 : Kd.C k34 w A0_3 l0_3.length l0_3) (hc0_3 : l0_3.length ≤ c0_3) (h : spec_FormatTerm.f k a0_0 a0_1 l0_2 l0_3 = some r) :
  Calls Tryd.prog 10 #[.agg #[.int .i64 a0_0, .int .i64 a0_1, .slice A0_2 l0_2.length c0_2, .slice A0_3 l0_3.length c0_3]] w fun e w' => e = .returned (.string r) ∧ Below w.heap.size w w' := by
 have hu34 := Tryd.underlying34
 have HR0_2 := sd_ hr0_2
 have HC0_2 := sd_ hc0_2
 clear hr0_2 hc0_2
 have HR0_3 := sd_ hr0_3
 have HC0_3 := sd_ hc0_3
 clear hr0_3 hc0_3
 have HB := sd_ (Below.refl w.heap.size w)
 have H : ((spec_IsWritten.f k a0_0 a0_1 l0_2 l0_3).bind fun t171 => (if t171 = true then ((spec_l2Text.f k a0_0 a0_1 l0_2 l0_3).bind fun t172 => (some t172)) else (some (⟨#[]⟩ : ByteArray)))) = some r := h
 clear h
 replace H := Option.bind_eq_some_iff.mp H
 obtain ⟨t171, A20, H⟩ := H
 try dsimp only at H
 have A2 := sd_ A20
 clear A20
 have HP3 := sd_ H
 clear H
 go_enter Tryd.func10, Tryd.ntmps10
 go_upto_if 5 with (first | ((with_reducible refine gate_dst (N := 1) rfl ?_); refine bx_ (N := 1) (cs := #[.int .i64 a0_0, .int .i64 a0_1, .slice A0_2 l0_2.length c0_2, .slice A0_3 l0_3.length c0_3]) (t := 34) ?_; intro gb170 hg w4 hbox hb; have BK170 := sd_ (hbox); have GW170 := sd_ (gs_ hg (bw0_ HB.out)); have GE170 := sd_ (gs_ hg (bw0_ HB.out)); replace HB := sd_ (below_step (bw0_ HB.out) hb); clear hb hbox hg; obtain ⟨hcz5_0, hcz5_1, hcz5_2, hcz5_3, hfz5_0, hfz5_1, hfz5_2, hfz5_3⟩ := bf4_ BK170.out) | ((with_reducible refine gate_callee (f := 22) rfl ?_); refine goesL_ (some 4) rfl rfl Tryd.func22 (by kernel_rfl) rfl #[.agg #[.int .i64 a0_0, .int .i64 a0_1, .slice A0_2 l0_2.length c0_2, .slice A0_3 l0_3.length c0_3]] rfl la_ ?_; (with_reducible refine (spec_IsWritten.calls k a0_0 a0_1 _ _ l0_2 _ _ l0_3 t171 _ (kc_ HR0_2.out HB.out) HC0_2.out (kc_ HR0_3.out HB.out) HC0_3.out A2.out).mono ?_); rintro e w6 ⟨rfl, hb⟩; refine ⟨_, rfl, ?_⟩; replace BK170 := sd_ (bb_ BK170.out hb); replace HB := sd_ (below_step (bw1_ HB.out GE170.out) hb); (try clear hb)))
 have H := HP3.out
 clear HP3
 by_cases c7 : t171 = true
 ·subst c7
  have H1 : ((spec_l2Text.f k a0_0 a0_1 l0_2 l0_3).bind fun t172 => (some t172)) = some r := by rw [if_pos rfl] at H; exact H
  clear H
  have H := H1
  clear H1
  replace H := Option.bind_eq_some_iff.mp H
  obtain ⟨t172, A80, H⟩ := H
  try dsimp only at H
  have A8 := sd_ A80
  clear A80
  obtain rfl := Option.some.inj H
  obtain ⟨hcz9_0, hcz9_1, hcz9_2, hcz9_3, hfz9_0, hfz9_1, hfz9_2, hfz9_3⟩ := bf4_ BK170.out
  go_wp2_with (first | ((with_reducible refine gate_callee (f := 23) rfl ?_); refine goesL_ (some 7) rfl rfl Tryd.func23 (by kernel_rfl) rfl #[.agg #[.int .i64 a0_0, .int .i64 a0_1, .slice A0_2 l0_2.length c0_2, .slice A0_3 l0_3.length c0_3]] rfl la_ ?_; (with_reducible refine (spec_l2Text.calls k a0_0 a0_1 _ _ l0_2 _ _ l0_3 t172 _ (kc_ HR0_2.out HB.out) HC0_2.out (kc_ HR0_3.out HB.out) HC0_3.out A8.out).mono ?_); rintro e w10 ⟨rfl, hb⟩; refine ⟨_, rfl, ?_⟩; replace BK170 := sd_ (bb_ BK170.out hb); replace HB := sd_ (below_step (bw1_ HB.out GE170.out) hb); (try clear hb)))
  go_ret
  exact ⟨an_, bw1_ HB.out GE170.out⟩
 replace c7 := Bool.eq_false_iff.mpr c7
 subst c7
 have H1 : (some (⟨#[]⟩ : ByteArray)) = some r := by rw [if_neg (show ¬ (false = true) by decide)] at H; exact H
 clear H
 have H := H1
 clear H1
 obtain rfl := Option.some.inj H
 go_wp2
 go_ret
 exact ⟨an_, bw1_ HB.out GE170.out⟩

end Go.Proofs.YtlhiacnmcckjgaaDoor.P
end

section
namespace Go.Proofs.YtlhiacnmcckjgaaDoor.P
open Go.Shelf Go.RowKit Go.Proofs.YtlhiacnmcckjgaaDoorW.PrintWords
set_option linter.unusedVariables false
/-- Blocks of other types than the builder's and its bytes' are left as they were. -/
def Keeps (w w' : World) : Prop := ∀ (k : Nat) (cs : Array Value) (t : TypeId) (fr : Nat × Nat), w.heap[k]? = some (.cells cs t fr) → t ≠ 48 → t ≠ 5 → w'.heap[k]? = some (.cells cs t fr)
theorem Keeps.refl (w : World) : Keeps w w := fun _ _ _ _ h _ _ => h
theorem Keeps.trans {a b c : World} (h : Keeps a b) (k : Keeps b c) : Keeps a c := fun g cs t fr e n m => k g cs t fr (h g cs t fr e n m) n m
theorem Keeps.of_below {w w' : World} (h : Below w.heap.size w w') : Keeps w w' := fun g cs t fr e _ _ => blk_below e h
theorem Keeps.set {w : World} {b : Nat} {cs : Array Value} {fr : Nat × Nat} (hb : w.heap[b]? = some (.cells cs 48 fr)) (j : Nat) (u : Value) : Keeps w (w.setCell ⟨b, j, none⟩ u) := by
  intro g cs' t fr' e n _
  refine (Below.heap_setCell w _ u g ?_).trans e
  rintro rfl
  rw [hb] at e
  simp only [Option.some.injEq, Obj.cells.injEq] at e
  exact n e.2.1.symm
theorem Keeps.grown {w w' : World} {B : Nat} {v : Value} {n : Nat} {xs : List Value} (hown : w.ownsRow B 5 1 v n xs) (hg : w.grownBy w' v.ownBlock) : Keeps w w' := by
  intro g cs t fr e _ m
  exact (hg.block g (blk_lt e) (fun h => Go.Lib.ownBlock_ne hown e m h.symm)).trans e
theorem builderAt_below {B b : Nat} {p : Value} {bs : List Value} {W W' : World} (h : Go.Lib.BuilderAt 48 5 B b p bs W) (hb : Below W.heap.size W W') : Go.Lib.BuilderAt 48 5 B b p bs W' := by
  obtain ⟨h1, v, h2, h3, h4⟩ := h
  exact ⟨h1, v, blk_below h2 hb, h3.kept (row := none) ⟨hb.os, hb.tape, hb.output, hb.size, fun k hk _ => hb.block k hk⟩ (by cases hv : v.ownBlock with | none => exact Or.inl rfl | some x => exact Or.inr (by simp)), h4⟩
theorem isBuilder_below {B b : Nat} {bs : List Value} {W W' : World} (h : Go.Lib.IsBuilder 48 5 B b bs W) (hb : Below W.heap.size W W') : Go.Lib.IsBuilder 48 5 B b bs W' := h.elim (fun x => Or.inl (builderAt_below x hb)) (fun x => Or.inr (builderAt_below x hb))
theorem isBuilder_lt {B b : Nat} {bs : List Value} {W : World} (h : Go.Lib.IsBuilder 48 5 B b bs W) : b < W.heap.size := h.elim (fun x => x.lt) (fun x => x.lt)
/-- A block of another type, set: the builder stays. -/
theorem isBuilder_set {B b : Nat} {bs : List Value} {W : World} {g : Nat} {cs : Array Value} {t : TypeId} {fr : Nat × Nat} (h : Go.Lib.IsBuilder 48 5 B b bs W) (hg : W.heap[g]? = some (.cells cs t fr)) (n : t ≠ 48) (m : t ≠ 5) (j : Nat) (u : Value) : Go.Lib.IsBuilder 48 5 B b bs (W.setCell ⟨g, j, none⟩ u) := by
  have key : ∀ p, Go.Lib.BuilderAt 48 5 B b p bs W → Go.Lib.BuilderAt 48 5 B b p bs (W.setCell ⟨g, j, none⟩ u) := by
    rintro p ⟨h1, v, h2, h3, h4⟩
    have hne : b ≠ g := by
      rintro rfl
      rw [h2] at hg
      simp only [Option.some.injEq, Obj.cells.injEq] at hg
      exact n hg.2.1.symm
    refine ⟨h1, v, (Below.heap_setCell W _ u b hne).trans h2, h3.kept (row := some g) ⟨rfl, rfl, rfl, by simp [World.setCell], fun k _ hk => Below.heap_setCell _ _ _ _ (fun e => hk (by simp [e]))⟩ (Or.inr (Go.Lib.ownBlock_ne h3 hg m)), h4⟩
  exact h.elim (fun x => Or.inl (key _ x)) (fun x => Or.inr (key _ x))
theorem copyCheck2 (B b : Nat) (bs : List Value) (w : World) (h : Go.Lib.IsBuilder 48 5 B b bs w) :
    Calls Tryd.prog 47 #[.pointer (some ⟨b, 0, none⟩)] w fun e w' => e = .returned (.tuple #[]) ∧ Go.Lib.BuilderAt 48 5 B b (.pointer (some ⟨b, 0, none⟩)) bs w' ∧ Below B w w' ∧ Keeps w w' := by
  rcases h with h | h
  · refine (Any.Builder_copyCheck_fresh { shelf166 with } shelfX166.toX72 b w h.cell0 h.shape h.frozen0).mono ?_
    rintro e w' ⟨rfl, rfl⟩
    refine ⟨rfl, h.used _, (Below.refl B w).setCell (p := ⟨b, 0, none⟩) h.1 _, ?_⟩
    obtain ⟨_, v, h2, _, _⟩ := h
    exact Keeps.set h2 _ _
  · refine (Any.Builder_copyCheck_used { shelf166 with } shelfX166.toX72 b w h.cell0).mono ?_
    rintro e w' ⟨rfl, rfl⟩
    exact ⟨rfl, h, Below.refl B _, Keeps.refl _⟩
set_option maxHeartbeats 4000000 in
set_option maxRecDepth 100000 in
theorem builder_write2 (B b : Nat) (bs : List Value) (s : ByteArray) (w : World) (h : Go.Lib.IsBuilder 48 5 B b bs w) (hlen : bs.length + s.size ≤ 140737488355328) (hBw : B ≤ w.heap.size) :
    Calls Tryd.prog 34 #[.pointer (some ⟨b, 0, none⟩), .string s] w fun e w' => e = .returned (.tuple #[.int .i64 s.size, .nilIface]) ∧ Go.Lib.IsBuilder 48 5 B b (bs ++ Go.Lib.strCells s) w' ∧ Below B w w' ∧ Keeps w w' := by
  obtain ⟨i0, hi, hz0, hz1, hz2⟩ := info_parts shelfX166.infoByte
  have e47 : ∀ args w, (callFunc 47 args).run Tryd.prog w = .ok (.enter 47 args) w := enters_of Tryd.func47 (by kernel_rfl) rfl
  go_enter Tryd.func34, Tryd.ntmps34
  go_wp2_with (go_at_fn 47; refine (copyCheck2 B b bs _ h).mono ?_)
  rintro e w1 ⟨rfl, h1, below1, keep1⟩
  obtain ⟨hB, v, row1, own1, apart1⟩ := h1
  have cell0 : w1.cell? ⟨b, 0, none⟩ = some (.pointer (some ⟨b, 0, none⟩)) := by rw [Go.Lib.cell_of_heap row1]; rfl
  have cell1 : w1.cell? ⟨b, 1, none⟩ = some v := by rw [Go.Lib.cell_of_heap row1]; rfl
  go_wp2_with (at_builtin; refine Go.Lib.wpList_append_own_string _ rfl _ _ 46 9 rfl B 5 i0 Tryd.underlying46 Tryd.underlying9 hi hz0 hz1 hz2 _ _ _ rfl own1 s rfl ?c3 ?c4 ?c5 ?_)
  case c3 => unfold maxLen; omega
  case c4 => omega
  case c5 => have := below1.size; omega
  intro v' w2 own2 grown2 _
  have row2 : w2.heap[b]? = some (.cells #[.pointer (some ⟨b, 0, none⟩), v] 48 (0, 0)) := (grown2.block b (blk_lt row1) (fun e => apart1 e.symm)).trans row1
  have cell0' : w2.cell? ⟨b, 0, none⟩ = some (.pointer (some ⟨b, 0, none⟩)) := by rw [Go.Lib.cell_of_heap row2]; rfl
  have cell1' : w2.cell? ⟨b, 1, none⟩ = some v := by rw [Go.Lib.cell_of_heap row2]; rfl
  have free1 : w2.frozen? ⟨b, 1, none⟩ = false := Go.Lib.frozen_of_heap row2 1
  obtain ⟨ao, n', cap, rfl⟩ : ∃ ao n' cap, v' = .slice ao n' cap := by
    rcases own2.2 with ⟨hv, _⟩ | ⟨g, cap, cur, hv, _⟩
    · exact ⟨_, _, _, hv⟩
    · exact ⟨_, _, _, hv⟩
  go_wp2
  go_ret2
  refine ⟨rfl, Or.inr ?_, (below1.grown grown2 (by have := below1.size; omega) (fun k hk => (own1.lt k hk).1)).setCell (p := ⟨b, 1, none⟩) hB _, (keep1.trans (Keeps.grown own1 grown2)).trans (Keeps.set row2 _ _)⟩
  exact Go.Lib.BuilderAt.put (T := 48) (e := 5) hB row2 (bs' := bs ++ Go.Lib.strCells s) (by simpa [Go.Lib.strCells_length] using own2) shelfX166.neB5
theorem isBuilder_mono {B B' b : Nat} {bs : List Value} {W : World} (h : Go.Lib.IsBuilder 48 5 B b bs W) (hB : B' ≤ B) : Go.Lib.IsBuilder 48 5 B' b bs W := by
  have key : ∀ p, Go.Lib.BuilderAt 48 5 B b p bs W → Go.Lib.BuilderAt 48 5 B' b p bs W := by
    rintro p ⟨h1, v, h2, h3, h4⟩
    refine ⟨Nat.le_trans hB h1, v, h2, ?_, h4⟩
    obtain ⟨l, h5⟩ := h3
    refine ⟨l, h5.imp id ?_⟩
    rintro ⟨g, cap, cur, hv, hg, r⟩
    exact ⟨g, cap, cur, hv, Nat.le_trans hB hg, r⟩
  exact h.elim (fun x => Or.inl (key _ x)) (fun x => Or.inr (key _ x))
/-- The table of the powers of ten is laid. -/
def Tabs (w : World) : Prop := Go.Lib.TabIs Tryd.prog w "internal/strconv.uint64pow10" .u64 Go.Lib.pow10Tab
theorem Tabs.below {w w' : World} (h : Tabs w) (hb : Below w.heap.size w w') : Tabs w' := by
  have hgn : Tryd.prog.globalNamed "internal/strconv.uint64pow10" = some 0 := by kernel_rfl
  unfold Tabs Go.Lib.TabIs World.var? at h ⊢
  rw [hgn] at h ⊢
  simp only [Option.bind_some] at h ⊢
  have hlt : 0 < w.heap.size := by
    rcases Nat.lt_or_ge 0 w.heap.size with h' | h'
    · exact h'
    · rw [Array.getElem?_eq_none h'] at h; cases h
  rw [hb.block 0 hlt]
  exact h
theorem shelfM171 : Go.Proofs.LaysM.n171 Tryd.prog shelf171_ren := { shelf171 with
  i0 := by kernel_rfl
  i2 := by kernel_rfl
  i3 := by kernel_rfl
  i4 := by kernel_rfl
  i5 := by kernel_rfl
  i9 := by kernel_rfl
  i20 := by kernel_rfl
  i37 := by kernel_rfl
  i46 := by kernel_rfl
  i51 := by kernel_rfl
  i53 := by kernel_rfl
  i171 := by kernel_rfl
  i173 := by kernel_rfl
  i212 := by kernel_rfl
  i232 := by kernel_rfl
  i233 := by kernel_rfl
  m17 := by kernel_rfl
  m18 := by kernel_rfl
  m19 := by kernel_rfl }
theorem itoa_any (n : Int) (h0 : -9223372036854775808 ≤ n) (h1 : n ≤ 9223372036854775807) (w : World) (hT : Tabs w) :
    Calls Tryd.prog 43 #[.int .i64 n] w fun e w' => e = .returned (.string ⟨(Go.Lib.itoa n).toArray⟩) ∧ Below w.heap.size w w' := by
  refine (Any.strconv_Itoa shelfM171 n h0 h1 w hT).mono ?_
  rintro e w' ⟨rfl, k, os, rfl⟩
  exact ⟨rfl, Go.Lib.below_grow _ _ (Nat.le_refl _) _ _⟩
end Go.Proofs.YtlhiacnmcckjgaaDoor.P
end
