-- Several texts in one (wip/tools/merge.py).
import Derived.Test.YtipfkicndjddgaaM1
import Derived.Test.YtipfkicndjddgaaM4
import Derived.Test.YtipfkicndjddgaaP0
import Derived.Test.YtipfkicndjddgaaM2
section
namespace Go.Proofs.Ytipfkicndjddgaa.P
open Go.RowKit Go.Proofs.YtipfkicndjddgaaW.PrintWords Go.Proofs.YtipfkicndjddgaaW.PrintLast Go.Proofs.YtipfkicndjddgaaW.PrintMore
set_option linter.unusedVariables false
set_option linter.unusedSimpArgs false
def Ob.row (B lo hi : Nat) (v : Value) (l : List Int) : Ob := ⟨lo, hi, fun W => (Kd.int .i64).R 3 W B (fun k => lo ≤ k ∧ k < hi) v l, fun W W' h hm => Kd.R_move h (fun k hk => hm k hk.1 hk.2)⟩
def Ob.kids (B lo hi : Nat) (v : Value) (l : List S40) : Ob := ⟨lo, hi, fun W => Kd.S kT 40 W B (fun k => lo ≤ k ∧ k < hi) v l, fun W W' h hm => Kd.S_move h (fun k hk => hm k hk.1 hk.2)⟩
theorem All.pushRow {w W0 W : World} {l : List Ob} (h : All w l W0) (hb : Below W0.heap.size W0 W) {ok : Nat → Prop} {v : Value} {xs : List Int} (hr : (Kd.int .i64).R 3 W W0.heap.size ok v xs) : All w (Ob.row w.heap.size W0.heap.size W.heap.size v xs :: l) W :=
  h.push hb _ (Kd.R_lower (Kd.R_mono (Kd.R_bound hr) fun k hk => ⟨hk.2.1, hk.2.2.1⟩) h.base.size) (Nat.le_refl _) (Nat.le_refl _)
theorem All.pushKids {w W0 W : World} {l : List Ob} (h : All w l W0) (hb : Below W0.heap.size W0 W) {ok : Nat → Prop} {v : Value} {xs : List S40} (hr : Kd.S kT 40 W W0.heap.size ok v xs) : All w (Ob.kids w.heap.size W0.heap.size W.heap.size v xs :: l) W :=
  h.push hb _ (Kd.S_lower (Kd.S_mono (Kd.S_bound hr) fun k hk => ⟨hk.2.1, hk.2.2.1⟩) h.base.size) (Nat.le_refl _) (Nat.le_refl _)
/-- What a function that makes a term gives: its rows, told apart by f. -/
def Made (w' : World) (base : Nat) (f : Nat → Bool) (v2 v3 : Value) (l2 : List Int) (l3 : List S40) : Prop := (Kd.int .i64).R 3 w' base (fun k => f k = true) v2 l2 ∧ Kd.S kT 40 w' base (fun k => f k = false) v3 l3
theorem made_of {W : World} {B a b c d : Nat} {v2 v3 : Value} {l2 : List Int} {l3 : List S40} (h2 : (Kd.int .i64).R 3 W B (fun k => a ≤ k ∧ k < b) v2 l2) (h3 : Kd.S kT 40 W B (fun k => c ≤ k ∧ k < d) v3 l3) (hd : b ≤ c ∨ d ≤ a) : ∃ f, Made W B f v2 v3 l2 l3 :=
  ⟨fun k => decide (a ≤ k ∧ k < b), Kd.R_mono h2 fun k hk => decide_eq_true hk, Kd.S_mono h3 fun k hk => decide_eq_false (by omega)⟩
theorem Made.M {W : World} {B N : Nat} {f : Nat → Bool} {v2 v3 : Value} {l2 : List Int} {l3 : List S40} (h : Made W N f v2 v3 l2 l3) (hB : B ≤ N) (a b : Int) : kT.M W B (fun k => N ≤ k) ⟨a, b, l2, l3⟩ [.int .i64 a, .int .i64 b, v2, v3] :=
  kT_close (x := ⟨a, b, l2, l3⟩) ⟨v2, v3, f, rfl, Kd.R_lower (Kd.R_mono (Kd.R_bound h.1) fun k hk => ⟨hk.2.1, hk.1⟩) hB, Kd.S_lower (Kd.S_mono (Kd.S_bound h.2) fun k hk => ⟨hk.2.1, hk.1⟩) hB⟩
def ToTermS (k : Nat) : Prop := ∀ (A0 : Option Addr) (c0 : Nat) (l0 : List S36) (r : List S40) (w : World) (hr0 : Kd.C k36 w A0 l0.length l0) (hc0 : l0.length ≤ c0) (h : laws_toTermS.f k l0 = some r),
  Calls Try.prog 62 #[.slice A0 l0.length c0] w fun e w' => ∃ v : Value, e = .returned v ∧ Kd.S kT 40 w' w.heap.size (fun _ => True) v r ∧ Below w.heap.size w w'
def ToTerm (k : Nat) : Prop := ∀ (a0 a1 : Int) (A2 : Option Addr) (c2 : Nat) (l2 : List Int) (A3 : Option Addr) (c3 : Nat) (l3 : List S36) (r1 r2 : Int) (r3 : List Int) (r4 : List S40) (w : World) (hr2 : Kd.C (Kd.int .i64) w A2 l2.length l2) (hc2 : l2.length ≤ c2) (hr3 : Kd.C k36 w A3 l3.length l3) (hc3 : l3.length ≤ c3) (h : laws_toTerm.f k a0 a1 l2 l3 = some (r1, r2, r3, r4)),
  Calls Try.prog 18 #[.agg #[.int .i64 a0, .int .i64 a1, .slice A2 l2.length c2, .slice A3 l3.length c3]] w fun e w' => ∃ (v2 v3 : Value) (f : Nat → Bool), e = .returned (.agg #[.int .i64 r1, .int .i64 r2, v2, v3]) ∧ Made w' w.heap.size f v2 v3 r3 r4 ∧ Below w.heap.size w w'
set_option maxHeartbeats 8000000 in
set_option maxRecDepth 100000 in
theorem toTermS_step (k : Nat) (ihm : ∀ j, j < k → ToTerm j) : ToTermS k := by
  intro A0 c0 l0 r w hr0 hc0 h
  cases k with
  | zero => exact absurd h (by simp [laws_toTermS.f])
  | succ k =>
  simp only [laws_toTermS.f] at h
  have hu36 := Try.underlying36
  have hu40 := Try.underlying40
  have HR0 := Aside0.mk hr0
  have HC0 := Aside0.mk hc0
  have HB := Aside0.mk (Below.refl w.heap.size w)
  clear hr0 hc0
  by_cases c2 : ¬ (0 ≤ (l0.length : Int))
  · rw [if_neg c2] at h; exact absurd h (by simp)
  replace c2 := Decidable.not_not.mp c2
  rw [if_pos c2] at h
  by_cases c3 : ¬ ((l0.length : Int).toNat ≤ 4398046511104)
  · rw [if_neg c3] at h; exact absurd h (by simp)
  replace c3 := Decidable.not_not.mp c3
  rw [if_pos c3] at h
  have c2b : decide (0 ≤ (l0.length : Int)) = true := decide_eq_true c2
  have c3b : decide ((l0.length : Int).toNat ≤ 4398046511104) = true := decide_eq_true c3
  have c2c := eq_true c2
  have c3c := eq_true c3
  have LM := Aside0.mk c3
  have LN := Aside0.mk c2
  have H' := Aside0.mk h
  clear h c2 c3
  go_enter Try.func62, Try.ntmps62
  go_wp2_with (first | ((with_reducible refine gate_dst (N := 7) rfl ?_); refine Kd.S_make kT (w0 := w) w.heap.size 40 rfl (N := 7) rfl 38 _ _ rfl (l0.length : Int) rfl rfl Try.underlying38 (.agg #[(.int .i64 0), (.int .i64 0), (.slice none 0 0), (.slice none 0 0)]) 64 info40 rfl (by decide) (by omega) z40 (ok := fun _ => True) (okp := fun _ => True) (kT_zero _ _ _) (fun _ hk => hk) trivial LN.out (Nat.le_trans (Nat.mul_le_mul_right _ LM.out) (by omega)) (by first | exact HB.out | exact pw_below_drewN HB.out _) (by first | exact HB.out.size | exact Nat.le_refl _) ?_; intro v0 w4 ho hb hg_ hnew_; clear hg_ hnew_; have HO := Aside0.mk ho; clear HB ho; have HB := Aside0.mk hb; clear hb))
  go_loopg [4] k (fun kq v4 W => ∃ (ys : List S40) (i : Int), v4 = .int .i64 i ∧ Aside0 (laws_toTermS.l0 kq l0 ys i = some r) ∧ Aside0 (kq ≤ k) ∧ Aside0 (Kd.S kT 40 W w.heap.size (fun _ => True) v0 ys) ∧ Aside0 (Below w.heap.size w W))
  case atStart => exact ⟨_, 0, rfl, H', ⟨Nat.le_refl _⟩, ⟨by first | exact HO.out | exact Kd.S_drewN HO.out _⟩, ⟨by first | exact HB.out | exact pw_below_drewN HB.out _⟩⟩
  case round =>
    clear H' HO HB
    obtain ⟨ys, i, rfl, HA, HK1, HO, HB⟩ := hrel
    cases gk with
    | zero => exact absurd HA.out (by simp [laws_toTermS.l0])
    | succ k1 =>
      have H := HA.out
      clear HA
      simp only [laws_toTermS.l0] at H
      by_cases c6 : i < (l0.length : Int)
      · rw [if_pos c6] at H
        have c6b : decide (i < (l0.length : Int)) = true := decide_eq_true c6
        by_cases c7 : ¬ (0 ≤ i)
        · rw [if_neg c7] at H; exact absurd H (by simp)
        replace c7 := Decidable.not_not.mp c7
        rw [if_pos c7] at H
        have c7b : decide (0 ≤ i) = true := decide_eq_true c7
        replace H := Option.bind_eq_some_iff.mp H
        obtain ⟨⟨t1, t2, t3, t4⟩, A8, H⟩ := H
        dsimp only at H
        by_cases c9 : ¬ (i < (ys.length : Int))
        · rw [if_neg c9] at H; exact absurd H (by simp)
        replace c9 := Decidable.not_not.mp c9
        rw [if_pos c9] at H
        have A8 := Aside0.mk A8
        have H' := Aside0.mk H
        clear H
        obtain ⟨ad, A2, d2, A3, d3, e1, hx0, hx1, hx2, hx3, hl2, hi2, hl3, hi3⟩ := at_T36 HR0.out i c7 c6
        cases e1
        replace hx0 := (HB.out.cell (World.block_lt_of_cell? w _ hx0)).trans hx0
        replace hx1 := (HB.out.cell (World.block_lt_of_cell? w _ hx1)).trans hx1
        replace hx2 := (HB.out.cell (World.block_lt_of_cell? w _ hx2)).trans hx2
        replace hx3 := (HB.out.cell (World.block_lt_of_cell? w _ hx3)).trans hx3
        have HR2 := Aside0.mk hi2
        have HC2 := Aside0.mk hl2
        have HR3 := Aside0.mk hi3
        have HC3 := Aside0.mk hl3
        clear hi2 hl2 hi3 hl3
        obtain ⟨g, cap, rfl, hge, hlt, _⟩ := Kd.S_form HO.out (by omega)
        have GL := Aside0.mk hlt
        have GE := Aside0.mk hge
        have I0 := Aside0.mk c7
        have I1 := Aside0.mk c9
        have p_ := eq_true c7
        have q_ := eq_true c6
        have q2_ := eq_true c9
        have c9b : decide (i < (ys.length : Int)) = true := decide_eq_true c9
        clear hge hlt c6 c7 c9
        go_wp2_with (first | ((with_reducible refine gate_callee (f := 18) rfl ?_); refine goesL_ (some 20) rfl rfl Try.func18 (by kernel_rfl) rfl #[.agg #[.int .i64 (rd_T36 l0 i).f0, .int .i64 (rd_T36 l0 i).f1, .slice A2 (rd_T36 l0 i).f2.length d2, .slice A3 (rd_T36 l0 i).f3.length d3]] rfl la_ ?_; (refine (ihm k1 (by have := HK1.out; omega) _ _ _ _ (rd_T36 l0 i).f2 _ _ (rd_T36 l0 i).f3 t1 t2 t3 t4 _ ?side1 HC2.out ?side3 HC3.out A8.out).mono ?_); (case side1 => first | exact Kd.C_below HR2.out HB.out | exact Kd.C_below HR2.out (pw_below_drewN HB.out _)); (case side3 => first | exact Kd.C_below HR3.out HB.out | exact Kd.C_below HR3.out (pw_below_drewN HB.out _)); rintro e w5 ⟨v2, v3, f, rfl, hm, hb⟩; refine ⟨_, rfl, ?_⟩; obtain ⟨B2, e2, rfl⟩ := Kd.R_slice hm.1; obtain ⟨B3, e3, rfl⟩ := Kd.S_slice hm.2; have HM := Aside0.mk (Made.M hm (show w.heap.size ≤ _ from HB.out.size) t1 t2); have ho := Kd.S_old (by first | exact HO.out | exact Kd.S_drewN HO.out _) hb; obtain ⟨oki, c, hcl, hE, hcc, hfr, hoki, hH⟩ := Kd.S_elem (Kd.S_mono (ok' := fun k_ => (fun _ => True) k_ ∧ ¬ wr.heap.size ≤ k_) ho (fun k_ hk => ⟨trivial, Nat.not_le.2 hk.2⟩)) z40 i I0.out I1.out; obtain ⟨_, _, _, rfl, _, _⟩ := kT_open hE; have HH := Aside0.mk hH; have hy0 := hcc 0 _ rfl; have hy1 := hcc 1 _ rfl; have hy2 := hcc 2 _ rfl; have hy3 := hcc 3 _ rfl; have hz0 := hfr 0; have hz1 := hfr 1; have hz2 := hfr 2; have hz3 := hfr 3; (simp only [show kT.sz = 4 from rfl, Nat.add_zero] at hy0 hy1 hy2 hy3 hz0 hz1 hz2 hz3); have n_ := Aside0.mk (below_step (by first | exact HB.out | exact pw_below_drewN HB.out _) hb); clear HB HO; have HB := n_; clear n_ ho hm hcl hcc hfr hoki hH hE hb))
        go_roundg k1
        case measure => have := HK1.out; omega
        case rel => exact ⟨_, _, rfl, H', ⟨by have := HK1.out; omega⟩, ⟨(Kd.S_seg (okg := fun k_ => wr.heap.size ≤ k_) HH.out I0.out I1.out (seg := [.int .i64 t1, .int .i64 t2, .slice B2 t3.length e2, .slice B3 t4.length e3]) (j := 0) (show 0 + 4 ≤ 4 by decide) (x' := ⟨t1, t2, t3, t4⟩) (okp := fun k_ => wr.heap.size ≤ k_) HM.out (fun k hk => Or.inr hk) (fun k hk => ⟨trivial, by have := GL.out; omega⟩)).1⟩, ⟨below_set (below_set (below_set (below_set HB.out GE.out) GE.out) GE.out) GE.out⟩⟩
      · rw [if_neg c6] at H
        have c6b : decide (i < (l0.length : Int)) = false := decide_eq_false c6
        obtain rfl := Option.some.inj H
        go_wp2
        go_ret
        exact ⟨_, rfl, by first | exact HO.out | exact Kd.S_drewN HO.out _, by first | exact HB.out | exact pw_below_drewN HB.out _⟩
set_option maxHeartbeats 8000000 in
set_option maxRecDepth 100000 in
theorem toTerm_step (k : Nat) (ihs : ∀ j, j < k → ToTermS j) : ToTerm k := by
  intro a0 a1 A2 c2 l2 A3 c3 l3 r1 r2 r3 r4 w hr2 hc2 hr3 hc3 h
  cases k with
  | zero => exact absurd h (by simp [laws_toTerm.f])
  | succ k =>
  simp only [laws_toTerm.f] at h
  obtain ⟨t2, At, h⟩ := Option.bind_eq_some_iff.mp h
  obtain ⟨t3, Au, h⟩ := Option.bind_eq_some_iff.mp h
  simp only [Option.some.injEq, Prod.mk.injEq] at h
  obtain ⟨rfl, rfl, rfl, rfl⟩ := h
  have hu36 := Try.underlying36
  have hu40 := Try.underlying40
  have HR2 := Aside0.mk hr2
  have HC2 := Aside0.mk hc2
  have HR3 := Aside0.mk hr3
  have HC3 := Aside0.mk hc3
  have At := Aside0.mk At
  have Au := Aside0.mk Au
  have HA := Aside0.mk (show All w [] w from Below.refl w.heap.size w)
  clear hr2 hc2 hr3 hc3
  go_enter Try.func18, Try.ntmps18
  go_upto_region 2 with (first | ((with_reducible refine gate_dst (N := 1) rfl ?_); (try (refine gate_guard (by rfl) ?_; dsimp only)); refine box_event ?hg (N := 1) ?hd (cs := #[.int .i64 a0, .int .i64 a1, .slice A2 l2.length c2, .slice A3 l3.length c3]) (t := 36) ?hr ?_; (case hd => rfl); (case hg => rfl); (case hr => first | (go_simp; done) | (go_simp; rfl)); intro g1 hg w1 hbox hb; have n_ := Aside0.mk (All.box (by first | exact HA.out | exact All.drewN HA.out _ | exact All.drew HA.out) hg hbox hb); clear HA; have HA := n_; clear n_ hg hbox hb) | ((with_reducible refine gate_dst (N := 2) rfl ?_); (try (refine gate_guard (by rfl) ?_; dsimp only)); refine box_event ?hg (N := 2) ?hd (cs := #[.int .i64 0, .int .i64 0, .slice none 0 0, .slice none 0 0]) (t := 40) ?hr ?_; (case hd => rfl); (case hg => rfl); (case hr => first | (go_simp; done) | (go_simp; rfl)); intro g2 hg w2 hbox hb; have n_ := Aside0.mk (All.box (by first | exact HA.out | exact All.drewN HA.out _ | exact All.drew HA.out) hg hbox hb); clear HA; have HA := n_; clear n_ hg hbox hb) | ((with_reducible refine gate_dst (N := 3) rfl ?_); (try (refine gate_guard (by rfl) ?_; dsimp only)); refine box_event ?hg (N := 3) ?hd (cs := #[.int .i64 0, .int .i64 0, .slice none 0 0, .slice none 0 0]) (t := 40) ?hr ?_; (case hd => rfl); (case hg => rfl); (case hr => first | (go_simp; done) | (go_simp; rfl)); intro g3 hg w3 hbox hb; have n_ := Aside0.mk (All.box (by first | exact HA.out | exact All.drewN HA.out _ | exact All.drew HA.out) hg hbox hb); clear HA; have HA := n_; clear n_ hg hbox hb))
  obtain ⟨ca0, ca1, ca2, ca3⟩ := bc4_ HA.out.2.2.1.1
  obtain ⟨cb0, cb1, cb2, cb3, cb4, cb5, cb6, cb7⟩ := bf4_ HA.out.1.1
  go_upto_region 3 with (fail)
  refine gen_wp (All w _) (All.put (l1 := []) HA.out 0 (.int .i64 a0) (cs' := #[.int .i64 a0, .int .i64 0, .slice none 0 0, .slice none 0 0]) rfl) ?_
  clear HA ca0 ca1 ca2 ca3 cb0 cb1 cb2 cb3 cb4 cb5 cb6 cb7
  intro w4 hA
  have HA := Aside0.mk hA
  clear hA
  obtain ⟨ca0, ca1, ca2, ca3⟩ := bc4_ HA.out.2.2.1.1
  obtain ⟨cb0, cb1, cb2, cb3, cb4, cb5, cb6, cb7⟩ := bf4_ HA.out.1.1
  go_upto_region 4 with (fail)
  refine gen_wp (All w _) (All.put (l1 := []) HA.out 1 (.int .i64 a1) (cs' := #[.int .i64 a0, .int .i64 a1, .slice none 0 0, .slice none 0 0]) rfl) ?_
  clear HA ca0 ca1 ca2 ca3 cb0 cb1 cb2 cb3 cb4 cb5 cb6 cb7
  intro w5 hA
  have HA := Aside0.mk hA
  clear hA
  obtain ⟨ca0, ca1, ca2, ca3⟩ := bc4_ HA.out.2.2.1.1
  go_upto_region 5 with (first | ((with_reducible refine gate_callee (f := 17) rfl ?_); refine goesL_ (some 12) rfl rfl Try.func17 (by kernel_rfl) rfl #[.slice A2 l2.length c2] rfl la_ ?_; (refine (laws_toIntS.calls k _ _ l2 t2 _ (Kd.C_below HR2.out (by first | exact All.base HA.out | exact pw_below_drewN (All.base HA.out) _ | exact below_drew1 (All.base HA.out))) HC2.out At.out).mono ?_); rintro e w6 ⟨v2, rfl, hr, hb⟩; refine ⟨_, rfl, ?_⟩; obtain ⟨B2, e2, rfl⟩ := Kd.R_slice hr; have n_ := Aside0.mk (All.pushRow (by first | exact HA.out | exact All.drewN HA.out _ | exact All.drew HA.out) hb hr); clear HA; have HA := n_; clear n_ hb hr; obtain ⟨cb0, cb1, cb2, cb3, cb4, cb5, cb6, cb7⟩ := bf4_ HA.out.2.1.1))
  refine gen_wp (All w _) (All.put (l1 := [_]) HA.out 2 (.slice B2 t2.length e2) (cs' := #[.int .i64 a0, .int .i64 a1, .slice B2 t2.length e2, .slice none 0 0]) rfl) ?_
  clear HA ca0 ca1 ca2 ca3 cb0 cb1 cb2 cb3 cb4 cb5 cb6 cb7
  intro w7 hA
  have HA := Aside0.mk hA
  clear hA
  obtain ⟨ca0, ca1, ca2, ca3⟩ := bc4_ HA.out.2.2.2.1.1
  go_upto_region 6 with (first | ((with_reducible refine gate_callee (f := 62) rfl ?_); refine goesL_ (some 16) rfl rfl Try.func62 (by kernel_rfl) rfl #[.slice A3 l3.length c3] rfl la_ ?_; (refine (ihs k (by omega) _ _ l3 t3 _ (Kd.C_below HR3.out (by first | exact All.base HA.out | exact pw_below_drewN (All.base HA.out) _ | exact below_drew1 (All.base HA.out))) HC3.out Au.out).mono ?_); rintro e w8 ⟨v3, rfl, hr, hb⟩; refine ⟨_, rfl, ?_⟩; obtain ⟨B3, e3, rfl⟩ := Kd.S_slice hr; have n_ := Aside0.mk (All.pushKids (by first | exact HA.out | exact All.drewN HA.out _ | exact All.drew HA.out) hb hr); clear HA; have HA := n_; clear n_ hb hr; obtain ⟨cb0, cb1, cb2, cb3, cb4, cb5, cb6, cb7⟩ := bf4_ HA.out.2.2.1.1))
  refine gen_wp (All w _) (All.put (l1 := [_, _]) HA.out 3 (.slice B3 t3.length e3) (cs' := #[.int .i64 a0, .int .i64 a1, .slice B2 t2.length e2, .slice B3 t3.length e3]) rfl) ?_
  clear HA ca0 ca1 ca2 ca3 cb0 cb1 cb2 cb3 cb4 cb5 cb6 cb7
  intro w9 hA
  have HA := Aside0.mk hA
  clear hA
  obtain ⟨ca0, ca1, ca2, ca3⟩ := bc4_ HA.out.2.2.1.1
  obtain ⟨cb0, cb1, cb2, cb3, cb4, cb5, cb6, cb7⟩ := bf4_ HA.out.2.2.2.1.1
  go_wp2
  have nA := All.set4 (l1 := [_, _, _]) HA.out (.int .i64 a0) (.int .i64 a1) (.slice B2 t2.length e2) (.slice B3 t3.length e3)
  refine bodyPost_ret (results_cell_row rfl _ _ g2 40 #[.int .i64 a0, .int .i64 a1, .slice B2 t2.length e2, .slice B3 t3.length e3] (0, 0) _ rfl nA.2.2.2.1.1 Try.underlying40 rfl (by kernel_rfl)) rfl ?_
  obtain ⟨f, hf⟩ := made_of nA.2.1.1 nA.1.1 ((nA.1.2.2.2 _ List.mem_cons_self).imp id id)
  exact ⟨_, _, f, rfl, hf, nA.base⟩
theorem toTerm_both (k : Nat) : ToTerm k ∧ ToTermS k := by
  induction k using Nat.strongRecOn with
  | _ k ih => exact ⟨toTerm_step k (fun j hj => (ih j hj).2), toTermS_step k (fun j hj => (ih j hj).1)⟩
theorem toTermT (k : Nat) : ToTerm k := (toTerm_both k).1
theorem below_of_drawn {w w1 : World} (h : Drawn0 w w1) : Below w.heap.size w w1 := by obtain ⟨n, rfl⟩ := h; exact pw_below_drewN (Below.refl _ _) n
theorem All.kept {w W W' : World} {S : Nat → Prop} (hk : Kept W W' S) (hb : Below w.heap.size w W') : ∀ {l : List Ob}, All w l W → (∀ k, S k → ∀ x ∈ l.map Ob.hi, x ≤ k) → All w l W'
  | [], _, _ => hb
  | o :: l, h, hS => ⟨⟨o.mv _ _ h.1.1 fun k _ hk2 => hk.2 k (Nat.lt_of_lt_of_le hk2 h.1.2.1) fun hs => Nat.lt_irrefl _ (Nat.lt_of_lt_of_le hk2 (hS k hs _ List.mem_cons_self)), Nat.le_trans h.1.2.1 hk.1, h.1.2.2⟩, All.kept hk hb h.2 fun k hs x hx => hS k hs x (List.mem_cons_of_mem _ hx)⟩
theorem All.tops {w W : World} {l : List Ob} (h : All w l W) : ∀ x ∈ l.map Ob.hi, x ≤ W.heap.size := fun x hx => by obtain ⟨o, ho, rfl⟩ := List.mem_map.mp hx; exact h.top o ho
/-- What a function that makes a term gave. -/
def Ob.made (B lo hi : Nat) (f : Nat → Bool) (v2 v3 : Value) (l2 : List Int) (l3 : List S40) : Ob :=
  ⟨lo, hi, fun W => (Kd.int .i64).R 3 W B (fun k => (lo ≤ k ∧ k < hi) ∧ f k = true) v2 l2 ∧ Kd.S kT 40 W B (fun k => (lo ≤ k ∧ k < hi) ∧ f k = false) v3 l3,
    fun W W' h hm => ⟨Kd.R_move h.1 (fun k hk => hm k hk.1.1 hk.1.2), Kd.S_move h.2 (fun k hk => hm k hk.1.1 hk.1.2)⟩⟩
theorem All.pushMade {w W0 W : World} {l : List Ob} (h : All w l W0) (hb : Below W0.heap.size W0 W) {f : Nat → Bool} {v2 v3 : Value} {l2 : List Int} {l3 : List S40} (hm : Made W W0.heap.size f v2 v3 l2 l3) : All w (Ob.made w.heap.size W0.heap.size W.heap.size f v2 v3 l2 l3 :: l) W :=
  h.push hb _ ⟨Kd.R_lower (Kd.R_mono (Kd.R_bound hm.1) fun k hk => ⟨⟨hk.2.1, hk.2.2.1⟩, hk.1⟩) h.base.size, Kd.S_lower (Kd.S_mono (Kd.S_bound hm.2) fun k hk => ⟨⟨hk.2.1, hk.2.2.1⟩, hk.1⟩) h.base.size⟩ (Nat.le_refl _) (Nat.le_refl _)
theorem All.pushNilRow {w W : World} {l : List Ob} (h : All w l W) : All w (Ob.row w.heap.size W.heap.size W.heap.size (.slice none 0 0) [] :: l) W :=
  h.push (Below.refl _ _) _ (Kd.R_nil _ _ _ _ _) (Nat.le_refl _) (Nat.le_refl _)
theorem All.pushNilKids {w W : World} {l : List Ob} (h : All w l W) : All w (Ob.kids w.heap.size W.heap.size W.heap.size (.slice none 0 0) [] :: l) W :=
  h.push (Below.refl _ _) _ (Kd.S_nil _ _ _ _ _) (Nat.le_refl _) (Nat.le_refl _)
theorem made_M {W : World} {B lo hi : Nat} {f : Nat → Bool} {v2 v3 : Value} {l2 : List Int} {l3 : List S40} (h : (Ob.made B lo hi f v2 v3 l2 l3).P W) (a b : Int) : kT.M W B (fun k => lo ≤ k ∧ k < hi) ⟨a, b, l2, l3⟩ [.int .i64 a, .int .i64 b, v2, v3] :=
  kT_close (x := ⟨a, b, l2, l3⟩) ⟨v2, v3, f, rfl, h.1, h.2⟩
/-- A term was appended to the rows of terms that lie from N0 on. -/
theorem All.next {w W W4 : World} {l : List Ob} {N0 N1 : Nat} {v v1 : Value} {acc acc' : List S40} (h : All w (Ob.kids w.heap.size N0 N1 v acc :: l) W) (hl : ∀ x ∈ l.map Ob.hi, x ≤ N0) (hw : w.heap.size ≤ N0) (hg : W.grownBy W4 v.ownBlock) (hb : Below w.heap.size w W4) (hS : Kd.S kT 40 W4 w.heap.size (fun k => N0 ≤ k) v1 acc') : All w (Ob.kids w.heap.size N0 W4.heap.size v1 acc' :: l) W4 := by
  refine ⟨⟨Kd.S_mono (Kd.S_bound hS) fun k hk => ⟨hk.1, hk.2.2.1⟩, Nat.le_refl _, hw, fun o ho => Or.inl (hl _ (List.mem_map_of_mem ho))⟩, ?_⟩
  refine All.kept (S := fun k => v.ownBlock = some k) ⟨hg.size, fun i hi hn => hg.block i hi (fun he => hn he.symm)⟩ hb h.2 fun k hk x hx => Nat.le_trans (hl x hx) (h.1.1.choose_spec.1 k hk).1
end Go.Proofs.Ytipfkicndjddgaa.P
end

section
namespace Go.Proofs.Ytipfkicndjddgaa.P
open Go.RowKit Go.Proofs.YtipfkicndjddgaaW.PrintWords Go.Proofs.YtipfkicndjddgaaW.PrintLast Go.Proofs.YtipfkicndjddgaaW.PrintMore
attribute [local go_sem] max2_int min2_int max_two min_two max_three min_three max_four min_four   -- for this text's walks alone
set_option linter.unusedVariables false
set_option linter.unusedSimpArgs false

/-! ### impl_formOf: function 89 -/
def impl_formOf.f (a0 : Int) : Option (ByteArray × Int × Bool × Bool × Bool) := (impl_within.f a0 0 12).bind fun t269 => (if t269 = true then ((some (([(⟨(⟨#[120]⟩ : ByteArray), 0, false, false⟩ : S93), (⟨(⟨#[]⟩ : ByteArray), 0, false, false⟩ : S93), (⟨(⟨#[97, 100, 100]⟩ : ByteArray), 2, false, false⟩ : S93), (⟨(⟨#[105, 102]⟩ : ByteArray), 3, false, false⟩ : S93), (⟨(⟨#[112, 97, 105, 114]⟩ : ByteArray), 2, false, false⟩ : S93), (⟨(⟨#[115, 112, 108, 105, 116]⟩ : ByteArray), 2, true, false⟩ : S93), (⟨(⟨#[108, 101, 102, 116]⟩ : ByteArray), 1, false, true⟩ : S93), (⟨(⟨#[114, 105, 103, 104, 116]⟩ : ByteArray), 1, false, true⟩ : S93), (⟨(⟨#[99, 97, 115, 101]⟩ : ByteArray), 3, true, false⟩ : S93), (⟨(⟨#[102, 117, 110]⟩ : ByteArray), 1, true, true⟩ : S93), (⟨(⟨#[97, 112, 112]⟩ : ByteArray), 2, false, false⟩ : S93), (⟨(⟨#[98, 111, 120]⟩ : ByteArray), 1, true, false⟩ : S93), (⟨(⟨#[111, 112, 101, 110]⟩ : ByteArray), 2, true, false⟩ : S93)] : List (S93)) : List (S93))).bind fun y270 => (if 0 ≤ a0 then (if a0 < (y270.length : Int) then (some ((rd_T93 y270 a0).f0, (rd_T93 y270 a0).f1, (rd_T93 y270 a0).f2, (rd_T93 y270 a0).f3, true)) else (none)) else (none))) else (some ((⟨#[]⟩ : ByteArray), 0, false, false, false)))
set_option maxHeartbeats 8000000 in
set_option maxRecDepth 100000 in
theorem impl_formOf.calls (a0 : Int) (r1 : ByteArray) (r2 : Int) (r3 : Bool) (r4 : Bool) (r5 : Bool) (w : World) (h : impl_formOf.f a0 = some (r1, r2, r3, r4, r5)) :
  Calls Try.prog 89 #[.int .i64 a0] w fun e w' => e = .returned (.tuple #[.agg #[.string r1, .int .i64 r2, .bool r3, .bool r4], .bool r5]) ∧ Below w.heap.size w w' := by
 have hu93 := Try.underlying93
 have HB := sd_ (Below.refl w.heap.size w)
 have H : ((impl_within.f a0 0 12).bind fun t269 => (if t269 = true then ((some (([(⟨(⟨#[120]⟩ : ByteArray), 0, false, false⟩ : S93), (⟨(⟨#[]⟩ : ByteArray), 0, false, false⟩ : S93), (⟨(⟨#[97, 100, 100]⟩ : ByteArray), 2, false, false⟩ : S93), (⟨(⟨#[105, 102]⟩ : ByteArray), 3, false, false⟩ : S93), (⟨(⟨#[112, 97, 105, 114]⟩ : ByteArray), 2, false, false⟩ : S93), (⟨(⟨#[115, 112, 108, 105, 116]⟩ : ByteArray), 2, true, false⟩ : S93), (⟨(⟨#[108, 101, 102, 116]⟩ : ByteArray), 1, false, true⟩ : S93), (⟨(⟨#[114, 105, 103, 104, 116]⟩ : ByteArray), 1, false, true⟩ : S93), (⟨(⟨#[99, 97, 115, 101]⟩ : ByteArray), 3, true, false⟩ : S93), (⟨(⟨#[102, 117, 110]⟩ : ByteArray), 1, true, true⟩ : S93), (⟨(⟨#[97, 112, 112]⟩ : ByteArray), 2, false, false⟩ : S93), (⟨(⟨#[98, 111, 120]⟩ : ByteArray), 1, true, false⟩ : S93), (⟨(⟨#[111, 112, 101, 110]⟩ : ByteArray), 2, true, false⟩ : S93)] : List (S93)) : List (S93))).bind fun y270 => (if 0 ≤ a0 then (if a0 < (y270.length : Int) then (some ((rd_T93 y270 a0).f0, (rd_T93 y270 a0).f1, (rd_T93 y270 a0).f2, (rd_T93 y270 a0).f3, true)) else (none)) else (none))) else (some ((⟨#[]⟩ : ByteArray), 0, false, false, false)))) = some (r1, r2, r3, r4, r5) := h
 clear h
 replace H := Option.bind_eq_some_iff.mp H
 obtain ⟨t269, A20, H⟩ := H
 try dsimp only at H
 have A2 := sd_ A20
 clear A20
 have HP3 := sd_ H
 clear H
 go_enter Try.func89, Try.ntmps89
 go_upto_if 6 with (first | ((with_reducible refine gate_dst (N := 2) rfl ?_); refine bx_ (N := 2) (cs := #[.string (⟨#[]⟩ : ByteArray), .int .i64 0, .bool false, .bool false]) (t := 93) ?_; intro gb268 hg w4 hbox hb; have BK268 := sd_ (hbox); have GW268 := sd_ (gs_ hg (bw0_ HB.out)); have GE268 := sd_ (gs_ hg (bw0_ HB.out)); replace HB := sd_ (below_step (bw0_ HB.out) hb); clear hb hbox hg) | ((with_reducible refine gate_callee (f := 104) rfl ?_); refine goesL_ (some 5) rfl rfl Try.func104 (by kernel_rfl) rfl #[.int .i64 a0, .int .i64 0, .int .i64 12] rfl la_ ?_; (with_reducible refine (impl_within.calls a0 0 12 t269 _ A2.out).mono ?_); rintro e w' ⟨rfl, ⟨nd, rfl⟩⟩; refine ⟨_, rfl, ?_⟩))
 have H := HP3.out
 clear HP3
 by_cases c5 : t269 = true
 ·subst c5
  have H1 : ((some (([(⟨(⟨#[120]⟩ : ByteArray), 0, false, false⟩ : S93), (⟨(⟨#[]⟩ : ByteArray), 0, false, false⟩ : S93), (⟨(⟨#[97, 100, 100]⟩ : ByteArray), 2, false, false⟩ : S93), (⟨(⟨#[105, 102]⟩ : ByteArray), 3, false, false⟩ : S93), (⟨(⟨#[112, 97, 105, 114]⟩ : ByteArray), 2, false, false⟩ : S93), (⟨(⟨#[115, 112, 108, 105, 116]⟩ : ByteArray), 2, true, false⟩ : S93), (⟨(⟨#[108, 101, 102, 116]⟩ : ByteArray), 1, false, true⟩ : S93), (⟨(⟨#[114, 105, 103, 104, 116]⟩ : ByteArray), 1, false, true⟩ : S93), (⟨(⟨#[99, 97, 115, 101]⟩ : ByteArray), 3, true, false⟩ : S93), (⟨(⟨#[102, 117, 110]⟩ : ByteArray), 1, true, true⟩ : S93), (⟨(⟨#[97, 112, 112]⟩ : ByteArray), 2, false, false⟩ : S93), (⟨(⟨#[98, 111, 120]⟩ : ByteArray), 1, true, false⟩ : S93), (⟨(⟨#[111, 112, 101, 110]⟩ : ByteArray), 2, true, false⟩ : S93)] : List (S93)) : List (S93))).bind fun y270 => (if 0 ≤ a0 then (if a0 < (y270.length : Int) then (some ((rd_T93 y270 a0).f0, (rd_T93 y270 a0).f1, (rd_T93 y270 a0).f2, (rd_T93 y270 a0).f3, true)) else (none)) else (none))) = some (r1, r2, r3, r4, r5) := by rw [if_pos rfl] at H; exact H
  clear H
  have H := H1
  clear H1
  obtain ⟨y270, hy270⟩ : ∃ y_ : List (S93), y_ = (([(⟨(⟨#[120]⟩ : ByteArray), 0, false, false⟩ : S93), (⟨(⟨#[]⟩ : ByteArray), 0, false, false⟩ : S93), (⟨(⟨#[97, 100, 100]⟩ : ByteArray), 2, false, false⟩ : S93), (⟨(⟨#[105, 102]⟩ : ByteArray), 3, false, false⟩ : S93), (⟨(⟨#[112, 97, 105, 114]⟩ : ByteArray), 2, false, false⟩ : S93), (⟨(⟨#[115, 112, 108, 105, 116]⟩ : ByteArray), 2, true, false⟩ : S93), (⟨(⟨#[108, 101, 102, 116]⟩ : ByteArray), 1, false, true⟩ : S93), (⟨(⟨#[114, 105, 103, 104, 116]⟩ : ByteArray), 1, false, true⟩ : S93), (⟨(⟨#[99, 97, 115, 101]⟩ : ByteArray), 3, true, false⟩ : S93), (⟨(⟨#[102, 117, 110]⟩ : ByteArray), 1, true, true⟩ : S93), (⟨(⟨#[97, 112, 112]⟩ : ByteArray), 2, false, false⟩ : S93), (⟨(⟨#[98, 111, 120]⟩ : ByteArray), 1, true, false⟩ : S93), (⟨(⟨#[111, 112, 101, 110]⟩ : ByteArray), 2, true, false⟩ : S93)] : List (S93))) := ⟨_, rfl⟩
  replace H : (if 0 ≤ a0 then (if a0 < (y270.length : Int) then (some ((rd_T93 y270 a0).f0, (rd_T93 y270 a0).f1, (rd_T93 y270 a0).f2, (rd_T93 y270 a0).f3, true)) else (none)) else (none)) = some (r1, r2, r3, r4, r5) := by first | (rw [hy270]; with_reducible exact H) | (have H2_ := (Option.bind_some _ _).symm.trans H; rw [hy270]; with_reducible exact H2_) | (have H2_ := (Option.bind_some _ _).symm.trans H; with_reducible exact H2_) | with_reducible exact H | (rw [hy270]; exact H) | exact H
  have Ny270 := sd_ hy270
  clear hy270
  by_cases c6 : 0 ≤ a0
  ·rw [if_pos c6] at H
   have c6b0 : decide (0 ≤ a0) = true := decide_eq_true c6
   clear c6
   (first | rw [c6b0] | (simp only [i64_w, i32_w]; rw [c6b0]) | skip)
   by_cases c7 : a0 < (y270.length : Int)
   ·rw [if_pos c7] at H
    have c7b0 : decide (a0 < (y270.length : Int)) = true := decide_eq_true c7
    clear c7
    simp only [Option.some.injEq, Prod.mk.injEq] at H
    obtain ⟨rfl, rfl, rfl, rfl, rfl⟩ := H
    go_wp2_with (first | ((with_reducible refine gate_dst (N := 21) rfl ?_); refine Kd.R_lit k93 _ 93 ?hg (N := 21) ?hd (xs := ([(⟨(⟨#[120]⟩ : ByteArray), 0, false, false⟩ : S93), (⟨(⟨#[]⟩ : ByteArray), 0, false, false⟩ : S93), (⟨(⟨#[97, 100, 100]⟩ : ByteArray), 2, false, false⟩ : S93), (⟨(⟨#[105, 102]⟩ : ByteArray), 3, false, false⟩ : S93), (⟨(⟨#[112, 97, 105, 114]⟩ : ByteArray), 2, false, false⟩ : S93), (⟨(⟨#[115, 112, 108, 105, 116]⟩ : ByteArray), 2, true, false⟩ : S93), (⟨(⟨#[108, 101, 102, 116]⟩ : ByteArray), 1, false, true⟩ : S93), (⟨(⟨#[114, 105, 103, 104, 116]⟩ : ByteArray), 1, false, true⟩ : S93), (⟨(⟨#[99, 97, 115, 101]⟩ : ByteArray), 3, true, false⟩ : S93), (⟨(⟨#[102, 117, 110]⟩ : ByteArray), 1, true, true⟩ : S93), (⟨(⟨#[97, 112, 112]⟩ : ByteArray), 2, false, false⟩ : S93), (⟨(⟨#[98, 111, 120]⟩ : ByteArray), 1, true, false⟩ : S93), (⟨(⟨#[111, 112, 101, 110]⟩ : ByteArray), 2, true, false⟩ : S93)] : List (S93))) (inner := [.string (⟨#[120]⟩ : ByteArray), .int .i64 0, .bool false, .bool false, .string (⟨#[]⟩ : ByteArray), .int .i64 0, .bool false, .bool false, .string (⟨#[97, 100, 100]⟩ : ByteArray), .int .i64 2, .bool false, .bool false, .string (⟨#[105, 102]⟩ : ByteArray), .int .i64 3, .bool false, .bool false, .string (⟨#[112, 97, 105, 114]⟩ : ByteArray), .int .i64 2, .bool false, .bool false, .string (⟨#[115, 112, 108, 105, 116]⟩ : ByteArray), .int .i64 2, .bool true, .bool false, .string (⟨#[108, 101, 102, 116]⟩ : ByteArray), .int .i64 1, .bool false, .bool true, .string (⟨#[114, 105, 103, 104, 116]⟩ : ByteArray), .int .i64 1, .bool false, .bool true, .string (⟨#[99, 97, 115, 101]⟩ : ByteArray), .int .i64 3, .bool true, .bool false, .string (⟨#[102, 117, 110]⟩ : ByteArray), .int .i64 1, .bool true, .bool true, .string (⟨#[97, 112, 112]⟩ : ByteArray), .int .i64 2, .bool false, .bool false, .string (⟨#[98, 111, 120]⟩ : ByteArray), .int .i64 1, .bool true, .bool false, .string (⟨#[111, 112, 101, 110]⟩ : ByteArray), .int .i64 2, .bool true, .bool false]) (ok := fun _ => True) (okp := fun _ => True) ?hr ?hp (fun _ hk => hk) trivial (Below.refl _ _) (Nat.le_refl _) (by simp) ?_; (case hd => rfl); (case hg => rfl); (case hr => first | (go_simp; done) | (go_simp; rfl)); (case hp => exact (Reps.c4 (show Kd.M k93 _ _ _ (⟨(⟨#[120]⟩ : ByteArray), 0, false, false⟩ : S93) [.string (⟨#[120]⟩ : ByteArray), .int .i64 0, .bool false, .bool false] from (k93_mkM _ _ _ (⟨(⟨#[120]⟩ : ByteArray), 0, false, false⟩ : S93) )) (Reps.c4 (show Kd.M k93 _ _ _ (⟨(⟨#[]⟩ : ByteArray), 0, false, false⟩ : S93) [.string (⟨#[]⟩ : ByteArray), .int .i64 0, .bool false, .bool false] from (k93_mkM _ _ _ (⟨(⟨#[]⟩ : ByteArray), 0, false, false⟩ : S93) )) (Reps.c4 (show Kd.M k93 _ _ _ (⟨(⟨#[97, 100, 100]⟩ : ByteArray), 2, false, false⟩ : S93) [.string (⟨#[97, 100, 100]⟩ : ByteArray), .int .i64 2, .bool false, .bool false] from (k93_mkM _ _ _ (⟨(⟨#[97, 100, 100]⟩ : ByteArray), 2, false, false⟩ : S93) )) (Reps.c4 (show Kd.M k93 _ _ _ (⟨(⟨#[105, 102]⟩ : ByteArray), 3, false, false⟩ : S93) [.string (⟨#[105, 102]⟩ : ByteArray), .int .i64 3, .bool false, .bool false] from (k93_mkM _ _ _ (⟨(⟨#[105, 102]⟩ : ByteArray), 3, false, false⟩ : S93) )) (Reps.c4 (show Kd.M k93 _ _ _ (⟨(⟨#[112, 97, 105, 114]⟩ : ByteArray), 2, false, false⟩ : S93) [.string (⟨#[112, 97, 105, 114]⟩ : ByteArray), .int .i64 2, .bool false, .bool false] from (k93_mkM _ _ _ (⟨(⟨#[112, 97, 105, 114]⟩ : ByteArray), 2, false, false⟩ : S93) )) (Reps.c4 (show Kd.M k93 _ _ _ (⟨(⟨#[115, 112, 108, 105, 116]⟩ : ByteArray), 2, true, false⟩ : S93) [.string (⟨#[115, 112, 108, 105, 116]⟩ : ByteArray), .int .i64 2, .bool true, .bool false] from (k93_mkM _ _ _ (⟨(⟨#[115, 112, 108, 105, 116]⟩ : ByteArray), 2, true, false⟩ : S93) )) (Reps.c4 (show Kd.M k93 _ _ _ (⟨(⟨#[108, 101, 102, 116]⟩ : ByteArray), 1, false, true⟩ : S93) [.string (⟨#[108, 101, 102, 116]⟩ : ByteArray), .int .i64 1, .bool false, .bool true] from (k93_mkM _ _ _ (⟨(⟨#[108, 101, 102, 116]⟩ : ByteArray), 1, false, true⟩ : S93) )) (Reps.c4 (show Kd.M k93 _ _ _ (⟨(⟨#[114, 105, 103, 104, 116]⟩ : ByteArray), 1, false, true⟩ : S93) [.string (⟨#[114, 105, 103, 104, 116]⟩ : ByteArray), .int .i64 1, .bool false, .bool true] from (k93_mkM _ _ _ (⟨(⟨#[114, 105, 103, 104, 116]⟩ : ByteArray), 1, false, true⟩ : S93) )) (Reps.c4 (show Kd.M k93 _ _ _ (⟨(⟨#[99, 97, 115, 101]⟩ : ByteArray), 3, true, false⟩ : S93) [.string (⟨#[99, 97, 115, 101]⟩ : ByteArray), .int .i64 3, .bool true, .bool false] from (k93_mkM _ _ _ (⟨(⟨#[99, 97, 115, 101]⟩ : ByteArray), 3, true, false⟩ : S93) )) (Reps.c4 (show Kd.M k93 _ _ _ (⟨(⟨#[102, 117, 110]⟩ : ByteArray), 1, true, true⟩ : S93) [.string (⟨#[102, 117, 110]⟩ : ByteArray), .int .i64 1, .bool true, .bool true] from (k93_mkM _ _ _ (⟨(⟨#[102, 117, 110]⟩ : ByteArray), 1, true, true⟩ : S93) )) (Reps.c4 (show Kd.M k93 _ _ _ (⟨(⟨#[97, 112, 112]⟩ : ByteArray), 2, false, false⟩ : S93) [.string (⟨#[97, 112, 112]⟩ : ByteArray), .int .i64 2, .bool false, .bool false] from (k93_mkM _ _ _ (⟨(⟨#[97, 112, 112]⟩ : ByteArray), 2, false, false⟩ : S93) )) (Reps.c4 (show Kd.M k93 _ _ _ (⟨(⟨#[98, 111, 120]⟩ : ByteArray), 1, true, false⟩ : S93) [.string (⟨#[98, 111, 120]⟩ : ByteArray), .int .i64 1, .bool true, .bool false] from (k93_mkM _ _ _ (⟨(⟨#[98, 111, 120]⟩ : ByteArray), 1, true, false⟩ : S93) )) (Reps.c4 (show Kd.M k93 _ _ _ (⟨(⟨#[111, 112, 101, 110]⟩ : ByteArray), 2, true, false⟩ : S93) [.string (⟨#[111, 112, 101, 110]⟩ : ByteArray), .int .i64 2, .bool true, .bool false] from (k93_mkM _ _ _ (⟨(⟨#[111, 112, 101, 110]⟩ : ByteArray), 2, true, false⟩ : S93) )) (Reps.none _ _))))))))))))))); intro v271 w8 ho9 hb hg_ hnew_; clear hg_ hnew_; (first | rw [← Ny270.out] at ho9 | (simp only [Int.reduceToNat] at ho9; rw [← Ny270.out] at ho9)); have HO272 := sd_ (Kd.R_lower (Kd.R_newB ho9 (g := gb268) (o := .cells #[.string (⟨#[]⟩ : ByteArray), .int .i64 0, .bool false, .bool false] 93 (0, 0)) (bz_ BK268.out)) (below_size (bw1_ HB.out GE268.out))); replace BK268 := sd_ (bb_ BK268.out hb); replace HB := sd_ (below_step (bw1_ HB.out GE268.out) hb); clear hb ho9; obtain ⟨Ao10, co10, eo10⟩ := Kd.R_slice HO272.out; subst eo10; have p273 : 0 ≤ (a0 : Int) := dt_; have q273 : a0 < (y270.length : Int) := dt_; obtain ⟨ad273, e273, hx273_0, hx273_1, hx273_2, hx273_3⟩ := at_T93 (Kd.R_reads' HO272.out).2.2 a0 p273 q273; cases e273; replace p273 := eq_true p273; replace q273 := eq_true q273; obtain ⟨hcz11_0, hcz11_1, hcz11_2, hcz11_3, hfz11_0, hfz11_1, hfz11_2, hfz11_3⟩ := bf4_ BK268.out))
    refine bodyPost_ret (results_ct rfl _ _ gb268 93 #[.string ((rd_T93 y270 a0).f0), .int .i64 ((rd_T93 y270 a0).f1), .bool ((rd_T93 y270 a0).f2), .bool ((rd_T93 y270 a0).f3)] (0, 0) _ rfl (by (with_reducible repeat (first | refine blk_drewN ?_ _ | refine blk_drew ?_ | refine blk_alloc ?_ _)); refine blk_put (cs := #[.string ((rd_T93 y270 a0).f0), .int .i64 ((rd_T93 y270 a0).f1), .bool ((rd_T93 y270 a0).f2), .bool false]) ?_ 3 _ rfl; (with_reducible repeat (first | refine blk_drewN ?_ _ | refine blk_drew ?_ | refine blk_alloc ?_ _)); refine blk_put (cs := #[.string ((rd_T93 y270 a0).f0), .int .i64 ((rd_T93 y270 a0).f1), .bool false, .bool false]) ?_ 2 _ rfl; (with_reducible repeat (first | refine blk_drewN ?_ _ | refine blk_drew ?_ | refine blk_alloc ?_ _)); refine blk_put (cs := #[.string ((rd_T93 y270 a0).f0), .int .i64 0, .bool false, .bool false]) ?_ 1 _ rfl; (with_reducible repeat (first | refine blk_drewN ?_ _ | refine blk_drew ?_ | refine blk_alloc ?_ _)); refine blk_put (cs := #[.string (⟨#[]⟩ : ByteArray), .int .i64 0, .bool false, .bool false]) ?_ 0 _ rfl; exact bz_ BK268.out) Try.underlying93 rfl (by kernel_rfl)) rfl ?_
    exact ⟨an_, bw1_ HB.out GE268.out⟩
   rw [if_neg c7] at H
   exact absurd H (by simp)
  rw [if_neg c6] at H
  exact absurd H (by simp)
 replace c5 := Bool.eq_false_iff.mpr c5
 subst c5
 have H1 : (some ((⟨#[]⟩ : ByteArray), 0, false, false, false)) = some (r1, r2, r3, r4, r5) := by rw [if_neg (show ¬ (false = true) by decide)] at H; exact H
 clear H
 have H := H1
 clear H1
 simp only [Option.some.injEq, Prod.mk.injEq] at H
 obtain ⟨rfl, rfl, rfl, rfl, rfl⟩ := H
 obtain ⟨hcz12_0, hcz12_1, hcz12_2, hcz12_3, hfz12_0, hfz12_1, hfz12_2, hfz12_3⟩ := bf4_ BK268.out
 go_wp2
 refine bodyPost_ret (results_ct rfl _ _ gb268 93 #[.string (⟨#[]⟩ : ByteArray), .int .i64 0, .bool false, .bool false] (0, 0) _ rfl (by (with_reducible repeat (first | refine blk_drewN ?_ _ | refine blk_drew ?_ | refine blk_alloc ?_ _)); refine blk_put (cs := #[.string (⟨#[]⟩ : ByteArray), .int .i64 0, .bool false, .bool false]) ?_ 3 _ rfl; (with_reducible repeat (first | refine blk_drewN ?_ _ | refine blk_drew ?_ | refine blk_alloc ?_ _)); refine blk_put (cs := #[.string (⟨#[]⟩ : ByteArray), .int .i64 0, .bool false, .bool false]) ?_ 2 _ rfl; (with_reducible repeat (first | refine blk_drewN ?_ _ | refine blk_drew ?_ | refine blk_alloc ?_ _)); refine blk_put (cs := #[.string (⟨#[]⟩ : ByteArray), .int .i64 0, .bool false, .bool false]) ?_ 1 _ rfl; (with_reducible repeat (first | refine blk_drewN ?_ _ | refine blk_drew ?_ | refine blk_alloc ?_ _)); refine blk_put (cs := #[.string (⟨#[]⟩ : ByteArray), .int .i64 0, .bool false, .bool false]) ?_ 0 _ rfl; exact bz_ BK268.out) Try.underlying93 rfl (by kernel_rfl)) rfl ?_
 exact ⟨an_, bw1_ HB.out GE268.out⟩

end Go.Proofs.Ytipfkicndjddgaa.P
end
