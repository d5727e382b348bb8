-- by hand: spec.l3Map, spec.MapTerm
import Derived.Test.YtipfkicndjddgaaM5
import Derived.Test.YtipfkicndjddgaaK5
import Derived.Test.YtipfkicndjddgaaM1
import Derived.Test.YtipfkicndjddgaaM2
import Derived.Test.YtipfkicndjddgaaM3
import Derived.Test.YtipfkicndjddgaaM9
import Derived.Test.YtipfkicndjddgaaPf60
namespace Go.Proofs.Ytipfkicndjddgaa.P
open Go.RowKit Go.Proofs.YtipfkicndjddgaaW.PrintWords Go.Proofs.YtipfkicndjddgaaW.PrintLast Go.Proofs.YtipfkicndjddgaaW.PrintMore
attribute [local go_sem] max2_int min2_int max_two min_two max_three min_three max_four min_four
set_option linter.unusedVariables false
set_option linter.unusedSimpArgs false
mutual
def spec_l3Map.l0 : Nat → List Int → List S40 → List S40 → Int → Option (Option (List S40))
  | 0, _, _, _, _ => none
  | k + 1, l0, l3, acc, i => if i < (l3.length : Int) then (if 0 ≤ i then (if acc.length < 2199023255552 then ((spec_l3Map.f k l0 (rd_T40 l3 i).f0 (rd_T40 l3 i).f1 (rd_T40 l3 i).f2 (rd_T40 l3 i).f3 (rd_T40 l3 i).f0 (rd_T40 l3 i).f1).bind fun q => if q.2.2.2.2 = true then spec_l3Map.l0 k l0 l3 (acc ++ [⟨q.1, q.2.1, q.2.2.1, q.2.2.2.1⟩]) (wrap64 (i + 1)) else some none) else none) else none) else some (some acc)
def spec_l3Map.f : Nat → List Int → Int → Int → List Int → List S40 → Int → Int → Option (Int × Int × List Int × List S40 × Bool)
  | 0, _, _, _, _, _, _, _ => none
  | k + 1, l0, a0, a1, l2, l3, b0, b1 => (spec_l2Has.f a0).bind fun h => (if h = true ∧ a1 ≥ 0 then spec_l3Mapped.f l0 a1 else some true).bind fun m => if m = false then some (0, 0, [], [], false) else
    (if h = true ∧ a1 ≥ 0 then (if 0 ≤ a1 ∧ a1 < (l0.length : Int) then some (rd l0 a1) else none) else some b1).bind fun n =>
    (spec_l2Typed.f a0).bind fun tp => (if tp = true then spec_MapType.f k l0 l2 else some []).bind fun t => if tp = true ∧ t = [] then some (0, 0, [], [], false) else (spec_l3Map.l0 k l0 l3 [] 0).bind fun r => some (mapFin b0 n t r)
end
def L3MapT (k : Nat) : Prop := ∀ (A0 : Option Addr) (c0 : Nat) (l0 : List Int) (a0 a1 : Int) (A2 : Option Addr) (c2 : Nat) (l2 : List Int) (A3 : Option Addr) (c3 : Nat) (l3 : List S40) (b0 b1 : Int) (r1 r2 : Int) (r3 : List Int) (r4 : List S40) (r5 : Bool) (w : World) (hr0 : Kd.C (Kd.int .i64) w A0 l0.length l0) (hc0 : l0.length ≤ c0) (hr2 : Kd.C (Kd.int .i64) w A2 l2.length l2) (hc2 : l2.length ≤ c2) (hr3 : Kd.C k40 w A3 l3.length l3) (hc3 : l3.length ≤ c3) (h : spec_l3Map.f k l0 a0 a1 l2 l3 b0 b1 = some (r1, r2, r3, r4, r5)),
  Calls Try.prog 61 #[.slice A0 l0.length c0, .agg #[.int .i64 a0, .int .i64 a1, .slice A2 l2.length c2, .slice A3 l3.length c3], .agg #[.int .i64 b0, .int .i64 b1, .slice none 0 0, .slice none 0 0]] w fun e w' => ∃ (v2 v3 : Value) (f : Nat → Bool), e = .returned (.tuple #[.agg #[.int .i64 r1, .int .i64 r2, v2, v3], .bool r5]) ∧ Made w' w.heap.size f v2 v3 r3 r4 ∧ Below w.heap.size w w'
set_option maxHeartbeats 8000000 in
set_option maxRecDepth 100000 in
theorem l3MapT (k : Nat) : L3MapT k := by
 induction k using Nat.strongRecOn with
 | _ k ih =>
 intro A0 c0 l0 a0 a1 A2 c2 l2 A3 c3 l3 b0 b1 r1 r2 r3 r4 r5 w hr0 hc0 hr2 hc2 hr3 hc3 h
 cases k with
 | zero => exact absurd h (by simp [spec_l3Map.f])
 | succ k =>
 simp only [spec_l3Map.f] at h
 obtain ⟨hs, Ah, h⟩ := Option.bind_eq_some_iff.mp h
 obtain ⟨m, Am0, h⟩ := Option.bind_eq_some_iff.mp h
 have hu40 := Try.underlying40
 have HR0 := Aside0.mk hr0
 have HC0 := Aside0.mk hc0
 clear hr0 hc0
 have HR2 := Aside0.mk hr2
 have HC2 := Aside0.mk hc2
 clear hr2 hc2
 have HR3 := Aside0.mk hr3
 have HC3 := Aside0.mk hc3
 clear hr3 hc3
 replace Ah := Aside0.mk Ah
 have AM := Aside0.mk Am0
 have H := Aside0.mk h
 clear Am0 h
 have HA := Aside0.mk (show All w [] w from Below.refl w.heap.size w)
 go_enter Try.func61, Try.ntmps61
 go_upto_region 1 with (first | ((with_reducible refine gate_dst (N := 4) rfl ?_); (try (refine gate_guard (by rfl) ?_; dsimp only)); refine box_event ?hg (N := 4) ?hd (cs := #[.int .i64 a0, .int .i64 a1, .slice A2 l2.length c2, .slice A3 l3.length c3]) (t := 40) ?hr ?_; (case hd => rfl); (case hg => rfl); (case hr => first | (go_simp; done) | (go_simp; rfl)); intro g4 hg w36 hbox hb; have n_ := Aside0.mk (All.box (by first | exact HA.out | exact All.drewN HA.out _ | exact All.drew HA.out) hg hbox hb); clear HA; have HA := n_; clear n_ hg hbox hb) | ((with_reducible refine gate_dst (N := 5) rfl ?_); (try (refine gate_guard (by rfl) ?_; dsimp only)); refine box_event ?hg (N := 5) ?hd (cs := #[.int .i64 b0, .int .i64 b1, .slice none 0 0, .slice none 0 0]) (t := 40) ?hr ?_; (case hd => rfl); (case hg => rfl); (case hr => first | (go_simp; done) | (go_simp; rfl)); intro g5 hg w37 hbox hb; have n_ := Aside0.mk (All.box (by first | exact HA.out | exact All.drewN HA.out _ | exact All.drew HA.out) hg hbox hb); clear HA; have HA := n_; clear n_ hg hbox hb) | ((with_reducible refine gate_dst (N := 6) rfl ?_); (try (refine gate_guard (by rfl) ?_; dsimp only)); refine box_event ?hg (N := 6) ?hd (cs := #[.int .i64 0, .int .i64 0, .slice none 0 0, .slice none 0 0]) (t := 40) ?hr ?_; (case hd => rfl); (case hg => rfl); (case hr => first | (go_simp; done) | (go_simp; rfl)); intro g6 hg w38 hbox hb; have n_ := Aside0.mk (All.box (by first | exact HA.out | exact All.drewN HA.out _ | exact All.drew HA.out) hg hbox hb); clear HA; have HA := n_; clear n_ hg hbox hb))
 obtain ⟨cnd, hcnd⟩ : ∃ c, c = (hs && decide (a1 ≥ 0)) := ⟨_, rfl⟩
 have CN := Aside0.mk hcnd
 clear hcnd
 go_cut [19] (fun v19 wc => v19 = .bool cnd ∧ All w [Ob.box g6 #[.int .i64 0, .int .i64 0, .slice none 0 0, .slice none 0 0] 40, Ob.box g5 #[.int .i64 b0, .int .i64 b1, .slice none 0 0, .slice none 0 0] 40, Ob.box g4 #[.int .i64 a0, .int .i64 a1, .slice A2 l2.length c2, .slice A3 l3.length c3] 40] wc)
 case first =>
  obtain ⟨ca0, ca1, ca2, ca3⟩ := bc4_ HA.out.2.2.1.1
  cases hs
  · go_wp2_with (first | ((with_reducible refine gate_callee (f := 84) rfl ?_); refine goesL_ (some 14) rfl rfl Try.func84 (by kernel_rfl) rfl #[.int .i64 a0] rfl la_ ?_; (refine (spec_l2Has.calls a0 false _ Ah.out).mono ?_); rintro e w39 ⟨rfl, hd⟩; refine ⟨_, rfl, ?_⟩; have hb := below_of_drawn hd; clear hd; have n_ := Aside0.mk (All.below (by first | exact HA.out | exact All.drewN HA.out _ | exact All.drew HA.out) hb); clear HA; have HA := n_; clear n_ hb; obtain ⟨ce0, ce1, ce2, ce3⟩ := bc4_ HA.out.2.2.1.1))
    go_meet
    case rel => exact ⟨by rw [CN.out]; rfl, (by first | exact HA.out | exact All.drewN HA.out _ | exact All.drew HA.out)⟩
  · go_wp2_with (first | ((with_reducible refine gate_callee (f := 84) rfl ?_); refine goesL_ (some 14) rfl rfl Try.func84 (by kernel_rfl) rfl #[.int .i64 a0] rfl la_ ?_; (refine (spec_l2Has.calls a0 true _ Ah.out).mono ?_); rintro e w40 ⟨rfl, hd⟩; refine ⟨_, rfl, ?_⟩; have hb := below_of_drawn hd; clear hd; have n_ := Aside0.mk (All.below (by first | exact HA.out | exact All.drewN HA.out _ | exact All.drew HA.out) hb); clear HA; have HA := n_; clear n_ hb; obtain ⟨ce0, ce1, ce2, ce3⟩ := bc4_ HA.out.2.2.1.1))
    go_meet
    case rel => exact ⟨by rw [CN.out]; rfl, (by first | exact HA.out | exact All.drewN HA.out _ | exact All.drew HA.out)⟩
 case rest =>
 obtain ⟨rfl, hA⟩ := hcut
 clear HA
 have HA := Aside0.mk hA
 clear hA Ah
 by_cases hm : m = false
 · subst hm
   have h := H.out
   clear H
   rw [if_pos rfl] at h
   simp only [Option.some.injEq, Prod.mk.injEq] at h
   obtain ⟨rfl, rfl, rfl, rfl, rfl⟩ := h
   have hc : hs = true ∧ a1 ≥ 0 := by
     apply Classical.byContradiction; intro hc; have := AM.out; rw [if_neg hc] at this; cases this
   have Am : spec_l3Mapped.f l0 a1 = some false := by have := AM.out; rwa [if_pos hc] at this
   obtain rfl : cnd = true := by rw [CN.out, hc.1]; exact decide_eq_true hc.2
   clear AM hc CN
   obtain ⟨ca0, ca1, ca2, ca3⟩ := bc4_ HA.out.2.2.1.1
   go_upto_if 24 with (first | ((with_reducible refine gate_callee (f := 85) rfl ?_); refine goesL_ (some 23) rfl rfl Try.func85 (by kernel_rfl) rfl #[.slice A0 l0.length c0, .int .i64 a1] rfl la_ ?_; (refine (spec_l3Mapped.calls _ _ l0 a1 false _ (Kd.C_below HR0.out (by first | exact All.base HA.out | exact pw_below_drewN (All.base HA.out) _ | exact below_drew1 (All.base HA.out))) HC0.out Am).mono ?_); rintro e w41 ⟨rfl, hd⟩; refine ⟨_, rfl, ?_⟩; have hb := below_of_drawn hd; clear hd; have n_ := Aside0.mk (All.below (by first | exact HA.out | exact All.drewN HA.out _ | exact All.drew HA.out) hb); clear HA; have HA := n_; clear n_ hb; obtain ⟨ce0, ce1, ce2, ce3⟩ := bc4_ HA.out.2.2.1.1; obtain ⟨cf0, cf1, cf2, cf3, cf4, cf5, cf6, cf7⟩ := bf4_ HA.out.2.1.1))
   clear ce0 ce1 ce2 ce3 cf0 cf1 cf2 cf3 cf4 cf5 cf6 cf7
   obtain ⟨cz0, cz1, cz2, cz3, cz4, cz5, cz6, cz7⟩ := bf4_ HA.out.1.1
   go_wp2
   have nA := All.set4 (l1 := []) HA.out (.int .i64 0) (.int .i64 0) (.slice none 0 0) (.slice none 0 0)
   refine bodyPost_ret (results_ct rfl _ _ g6 40 #[.int .i64 0, .int .i64 0, .slice none 0 0, .slice none 0 0] (0, 0) _ rfl nA.1.1 Try.underlying40 rfl (by kernel_rfl)) rfl ?_
   first | exact ⟨_, _, _, rfl, made_nil, nA.base⟩ | exact ⟨_, _, rfl, ⟨_, made_nil⟩, nA.base⟩
 have h := H.out
 clear H
 rw [if_neg hm] at h
 obtain ⟨n, An, h⟩ := Option.bind_eq_some_iff.mp h
 obtain ⟨tp, Atp, h⟩ := Option.bind_eq_some_iff.mp h
 obtain ⟨t, At, h⟩ := Option.bind_eq_some_iff.mp h
 replace hm := Bool.not_eq_false _ ▸ hm
 subst hm
 have AN := Aside0.mk An
 replace Atp := Aside0.mk Atp
 have AT := Aside0.mk At
 have H := Aside0.mk h
 clear An At h
 go_upto_if 19 with (fail)
 go_cut [] (fun wc => All w [Ob.box g6 #[.int .i64 0, .int .i64 0, .slice none 0 0, .slice none 0 0] 40, Ob.box g5 #[.int .i64 b0, .int .i64 n, .slice none 0 0, .slice none 0 0] 40, Ob.box g4 #[.int .i64 a0, .int .i64 a1, .slice A2 l2.length c2, .slice A3 l3.length c3] 40] wc)
 case first =>
  by_cases hc : cnd = true
  · have hg := Bool.and_eq_true _ _ ▸ (CN.out.symm.trans hc)
    have hp := of_decide_eq_true hg.2
    have Am : spec_l3Mapped.f l0 a1 = some true := by have := AM.out; rwa [if_pos ⟨hg.1, hp⟩] at this
    have e := AN.out
    rw [if_pos ⟨hg.1, hp⟩] at e
    by_cases hx : ¬ (0 ≤ a1 ∧ a1 < (l0.length : Int))
    · rw [if_neg hx] at e; cases e
    replace hx := Decidable.not_not.mp hx
    rw [if_pos hx] at e
    obtain rfl := Option.some.inj e
    subst hc
    obtain ⟨ad, e0, hx0⟩ := Kd.at_int HR0.out a1 hx.1 hx.2
    cases e0
    have P1 := eq_true hx.1
    have P2 := eq_true hx.2
    clear hp hg AN CN AM e hx
    obtain ⟨ca0, ca1, ca2, ca3⟩ := bc4_ HA.out.2.2.1.1
    go_upto_region 4 with (first | ((with_reducible refine gate_callee (f := 85) rfl ?_); refine goesL_ (some 23) rfl rfl Try.func85 (by kernel_rfl) rfl #[.slice (some ad) l0.length c0, .int .i64 a1] rfl la_ ?_; (refine (spec_l3Mapped.calls _ _ l0 a1 true _ (Kd.C_below HR0.out (by first | exact All.base HA.out | exact pw_below_drewN (All.base HA.out) _ | exact below_drew1 (All.base HA.out))) HC0.out Am).mono ?_); rintro e w42 ⟨rfl, hd⟩; refine ⟨_, rfl, ?_⟩; have hb := below_of_drawn hd; clear hd; have n_ := Aside0.mk (All.below (by first | exact HA.out | exact All.drewN HA.out _ | exact All.drew HA.out) hb); clear HA; have HA := n_; clear n_ hb; obtain ⟨ce0, ce1, ce2, ce3⟩ := bc4_ HA.out.2.2.1.1; obtain ⟨cf0, cf1, cf2, cf3, cf4, cf5, cf6, cf7⟩ := bf4_ HA.out.2.1.1))
    replace hx0 := (HA.out.base.cell (World.block_lt_of_cell? w _ hx0)).trans hx0
    go_wp2
    go_meet
    case rel => exact All.put (l1 := [_]) (by first | exact HA.out | exact All.drewN HA.out _ | exact All.drew HA.out) 1 (.int .i64 (rd l0 a1)) rfl
  · have e := AN.out
    rw [if_neg (fun h => hc (by rw [CN.out, h.1]; exact decide_eq_true h.2))] at e
    obtain rfl := Option.some.inj e
    replace hc := Bool.eq_false_iff.mpr hc
    subst hc
    clear e AN CN AM
    go_wp2
    go_meet
    case rel => exact (by first | exact HA.out | exact All.drewN HA.out _ | exact All.drew HA.out)
 case rest =>
 clear HA
 have HA := Aside0.mk hcut
 clear hcut AN CN cnd AM
 go_upto_region 5 with (fail)
 go_cut [34] (fun v34 wc => v34 = .bool tp ∧ All w [Ob.box g6 #[.int .i64 0, .int .i64 0, .slice none 0 0, .slice none 0 0] 40, Ob.box g5 #[.int .i64 b0, .int .i64 n, .slice none 0 0, .slice none 0 0] 40, Ob.box g4 #[.int .i64 a0, .int .i64 a1, .slice A2 l2.length c2, .slice A3 l3.length c3] 40] wc)
 case first =>
  obtain ⟨ca0, ca1, ca2, ca3⟩ := bc4_ HA.out.2.2.1.1
  go_wp2_with (first | ((with_reducible refine gate_callee (f := 86) rfl ?_); refine goesL_ (some 34) rfl rfl Try.func86 (by kernel_rfl) rfl #[.int .i64 a0] rfl la_ ?_; (refine (spec_l2Typed.calls a0 tp _ Atp.out).mono ?_); rintro e w43 ⟨rfl, hd⟩; refine ⟨_, rfl, ?_⟩; have hb := below_of_drawn hd; clear hd; have n_ := Aside0.mk (All.below (by first | exact HA.out | exact All.drewN HA.out _ | exact All.drew HA.out) hb); clear HA; have HA := n_; clear n_ hb))
  go_meet
  case rel => exact ⟨rfl, (by first | exact HA.out | exact All.drewN HA.out _ | exact All.drew HA.out)⟩
 case rest =>
 obtain ⟨rfl, hA⟩ := hcut
 clear HA
 have HA := Aside0.mk hA
 clear hA
 go_upto_if 34 with (fail)
 by_cases hnil : tp = true ∧ t = []
 · have h := H.out
   clear H
   rw [if_pos hnil] at h
   simp only [Option.some.injEq, Prod.mk.injEq] at h
   obtain ⟨rfl, rfl, rfl, rfl, rfl⟩ := h
   obtain ⟨rfl, rfl⟩ := hnil
   have Am : spec_MapType.f k l0 l2 = some [] := by have := AT.out; rwa [if_pos rfl] at this
   clear AT Atp
   obtain ⟨ca0, ca1, ca2, ca3⟩ := bc4_ HA.out.2.2.1.1
   go_upto_region 7 with (first | ((with_reducible refine gate_callee (f := 87) rfl ?_); refine goesL_ (some 38) rfl rfl Try.func87 (by kernel_rfl) rfl #[.slice A0 l0.length c0, .slice A2 l2.length c2] rfl la_ ?_; (refine (spec_MapType.calls k _ _ l0 _ _ l2 _ _ (Kd.C_below HR0.out (by first | exact All.base HA.out | exact pw_below_drewN (All.base HA.out) _ | exact below_drew1 (All.base HA.out))) HC0.out (Kd.C_below HR2.out (by first | exact All.base HA.out | exact pw_below_drewN (All.base HA.out) _ | exact below_drew1 (All.base HA.out))) HC2.out Am).mono ?_); rintro e w44 ⟨v0, rfl, hr, hb⟩; refine ⟨_, rfl, ?_⟩; obtain ⟨Bt, ct, rfl⟩ := Kd.R_slice hr; have n_ := Aside0.mk (All.pushRow (by first | exact HA.out | exact All.drewN HA.out _ | exact All.drew HA.out) hb hr); clear HA; have HA := n_; clear n_ hb hr; obtain ⟨cb0, cb1, cb2, cb3, cb4, cb5, cb6, cb7⟩ := bf4_ HA.out.2.2.1.1))
   refine gen_wp (All w _) (All.put (l1 := [_, _]) HA.out 2 (.slice Bt ([] : List Int).length ct) (cs' := #[.int .i64 b0, .int .i64 n, .slice Bt ([] : List Int).length ct, .slice none 0 0]) rfl) ?_
   clear HA
   intro w45 hA
   have HA := Aside0.mk hA
   clear hA
   clear cb0 cb1 cb2 cb3 cb4 cb5 cb6 cb7 ca0 ca1 ca2 ca3
   obtain ⟨ca0, ca1, ca2, ca3⟩ := bc4_ HA.out.2.2.1.1
   obtain ⟨cz0, cz1, cz2, cz3, cz4, cz5, cz6, cz7⟩ := bf4_ HA.out.2.1.1
   go_wp2
   have nA := All.set4 (l1 := [_]) HA.out (.int .i64 0) (.int .i64 0) (.slice none 0 0) (.slice none 0 0)
   refine bodyPost_ret (results_ct rfl _ _ g6 40 #[.int .i64 0, .int .i64 0, .slice none 0 0, .slice none 0 0] (0, 0) _ rfl nA.2.1.1 Try.underlying40 rfl (by kernel_rfl)) rfl ?_
   first | exact ⟨_, _, _, rfl, made_nil, nA.base⟩ | exact ⟨_, _, rfl, ⟨_, made_nil⟩, nA.base⟩
 have h := H.out
 clear H
 rw [if_neg hnil] at h
 obtain ⟨res, Al, h⟩ := Option.bind_eq_some_iff.mp h
 have Al := Aside0.mk Al
 have HF := Aside0.mk (Option.some.inj h)
 clear h Atp
 go_cut [] (fun wc => ∃ (BT : Option Addr) (cT rlo rhi : Nat), All w [Ob.row w.heap.size rlo rhi (.slice BT t.length cT) t, Ob.box g6 #[.int .i64 0, .int .i64 0, .slice none 0 0, .slice none 0 0] 40, Ob.box g5 #[.int .i64 b0, .int .i64 n, .slice BT t.length cT, .slice none 0 0] 40, Ob.box g4 #[.int .i64 a0, .int .i64 a1, .slice A2 l2.length c2, .slice A3 l3.length c3] 40] wc)
 case first =>
  by_cases ht : tp = true
  · subst ht
    have Am : spec_MapType.f k l0 l2 = some t := by have := AT.out; rwa [if_pos rfl] at this
    have hl : ((t.length : Int) == 0) = false := by rcases t with _ | ⟨x, t⟩; exact absurd ⟨rfl, rfl⟩ hnil; exact beq_eq_false_iff_ne.mpr (by simp only [List.length_cons]; omega)
    clear AT hnil
    obtain ⟨ca0, ca1, ca2, ca3⟩ := bc4_ HA.out.2.2.1.1
    go_upto_region 7 with (first | ((with_reducible refine gate_callee (f := 87) rfl ?_); refine goesL_ (some 38) rfl rfl Try.func87 (by kernel_rfl) rfl #[.slice A0 l0.length c0, .slice A2 l2.length c2] rfl la_ ?_; (refine (spec_MapType.calls k _ _ l0 _ _ l2 _ _ (Kd.C_below HR0.out (by first | exact All.base HA.out | exact pw_below_drewN (All.base HA.out) _ | exact below_drew1 (All.base HA.out))) HC0.out (Kd.C_below HR2.out (by first | exact All.base HA.out | exact pw_below_drewN (All.base HA.out) _ | exact below_drew1 (All.base HA.out))) HC2.out Am).mono ?_); rintro e w46 ⟨v0, rfl, hr, hb⟩; refine ⟨_, rfl, ?_⟩; obtain ⟨Bt, ct, rfl⟩ := Kd.R_slice hr; have n_ := Aside0.mk (All.pushRow (by first | exact HA.out | exact All.drewN HA.out _ | exact All.drew HA.out) hb hr); clear HA; have HA := n_; clear n_ hb hr; obtain ⟨cb0, cb1, cb2, cb3, cb4, cb5, cb6, cb7⟩ := bf4_ HA.out.2.2.1.1))
    refine gen_wp (All w _) (All.put (l1 := [_, _]) HA.out 2 (.slice Bt t.length ct) (cs' := #[.int .i64 b0, .int .i64 n, .slice Bt t.length ct, .slice none 0 0]) rfl) ?_
    clear HA
    intro w47 hA
    have HA := Aside0.mk hA
    clear hA
    clear cb0 cb1 cb2 cb3 cb4 cb5 cb6 cb7 ca0 ca1 ca2 ca3
    obtain ⟨ca0, ca1, ca2, ca3⟩ := bc4_ HA.out.2.2.1.1
    go_wp2
    go_meet
    case rel => exact ⟨_, _, _, _, (by first | exact HA.out | exact All.drewN HA.out _ | exact All.drew HA.out)⟩
  · have e := AT.out
    rw [if_neg ht] at e
    obtain rfl := Option.some.inj e
    replace ht := Bool.eq_false_iff.mpr ht
    subst ht
    clear e hnil AT
    go_wp2
    go_meet
    case rel => exact ⟨none, 0, _, _, All.pushNilRow (by first | exact HA.out | exact All.drewN HA.out _ | exact All.drew HA.out)⟩
 case rest =>
 clear HA
 obtain ⟨BT, cT, rlo, rhi, hA⟩ := hcut
 have HA := Aside0.mk hA
 clear hA hnil AT
 have HN := Aside0.mk (show ∀ x ∈ ([Ob.row w.heap.size rlo rhi (.slice BT t.length cT) t, Ob.box g6 #[.int .i64 0, .int .i64 0, .slice none 0 0, .slice none 0 0] 40, Ob.box g5 #[.int .i64 b0, .int .i64 n, .slice BT t.length cT, .slice none 0 0] 40, Ob.box g4 #[.int .i64 a0, .int .i64 a1, .slice A2 l2.length c2, .slice A3 l3.length c3] 40]).map Ob.hi, x ≤ wc.heap.size from All.tops HA.out)
 have HW := Aside0.mk (show w.heap.size ≤ wc.heap.size from HA.out.base.size)
 obtain ⟨cc0, cc1, cc2, cc3⟩ := bc4_ HA.out.2.2.2.1.1
 go_wp2
 go_loopg [8] k (fun kq v8 W => ∃ (acc : List S40) (i : Int) (BK : Option Addr) (cK N1 : Nat), v8 = .int .i64 i ∧ Aside0 (spec_l3Map.l0 kq l0 l3 acc i = some res) ∧ Aside0 (kq ≤ k) ∧ Aside0 (wc.heap.size ≤ N1) ∧ Aside0 (All w [Ob.kids w.heap.size wc.heap.size N1 (.slice BK acc.length cK) acc, Ob.row w.heap.size rlo rhi (.slice BT t.length cT) t, Ob.box g6 #[.int .i64 0, .int .i64 0, .slice none 0 0, .slice none 0 0] 40, Ob.box g5 #[.int .i64 b0, .int .i64 n, .slice BT t.length cT, .slice BK acc.length cK] 40, Ob.box g4 #[.int .i64 a0, .int .i64 a1, .slice A2 l2.length c2, .slice A3 l3.length c3] 40] W))
 case atStart => exact ⟨[], 0, none, 0, _, rfl, Al, ⟨Nat.le_refl _⟩, ⟨Nat.le_refl _⟩, ⟨All.pushNilKids HA.out⟩⟩
 case round =>
  clear Al HA cc0 cc1 cc2 cc3
  obtain ⟨acc, i, BK, cK, N1, rfl, HL, HK1, HN1, HA⟩ := hrel
  cases gk with
  | zero => exact absurd HL.out (by simp [spec_l3Map.l0])
  | succ k1 =>
  have H := HL.out
  clear HL
  simp only [spec_l3Map.l0] at H
  by_cases c6 : i < (l3.length : Int)
  · rw [if_pos c6] at H
    have c6b : decide (i < (l3.length : Int)) = true := decide_eq_true c6
    by_cases c7 : ¬ (0 ≤ i)
    · rw [if_neg c7] at H; exact absurd H (by simp)
    replace c7 := Decidable.not_not.mp c7
    rw [if_pos c7] at H
    have c7b : decide (0 ≤ i) = true := decide_eq_true c7
    by_cases c8 : ¬ (acc.length < 2199023255552)
    · rw [if_neg c8] at H; exact absurd H (by simp)
    replace c8 := Decidable.not_not.mp c8
    rw [if_pos c8] at H
    obtain ⟨⟨t1, t2, t3, t4, t5⟩, A8, H⟩ := Option.bind_eq_some_iff.mp H
    dsimp only at H
    have LA := Aside0.mk c8
    replace A8 := Aside0.mk A8
    replace H := Aside0.mk H
    obtain ⟨ad, X2, d2, X3, d3, e1, hx0, hx1, hx2, hx3, hl2, hi2, hl3, hi3⟩ := at_T40 HR3.out i c7 c6
    cases e1
    replace hx0 := (HA.out.base.cell (World.block_lt_of_cell? w _ hx0)).trans hx0
    replace hx1 := (HA.out.base.cell (World.block_lt_of_cell? w _ hx1)).trans hx1
    replace hx2 := (HA.out.base.cell (World.block_lt_of_cell? w _ hx2)).trans hx2
    replace hx3 := (HA.out.base.cell (World.block_lt_of_cell? w _ hx3)).trans hx3
    have HS2 := Aside0.mk hi2
    have HD2 := Aside0.mk hl2
    have HS3 := Aside0.mk hi3
    have HD3 := Aside0.mk hl3
    have p_ := eq_true c7
    have q_ := eq_true c6
    clear hi2 hl2 hi3 hl3 c6 c7 c8
    obtain ⟨cc0, cc1, cc2, cc3⟩ := bc4_ HA.out.2.2.2.2.1.1
    go_upto_region 13 with (first | ((with_reducible refine gate_dst (N := 9) rfl ?_); (try (refine gate_guard (by rfl) ?_; dsimp only)); refine box_event ?hg (N := 9) ?hd (cs := #[.int .i64 0, .int .i64 0, .slice none 0 0, .slice none 0 0]) (t := 40) ?hr ?_; (case hd => rfl); (case hg => rfl); (case hr => first | (go_simp; done) | (go_simp; rfl)); intro gk hg w48 hbox hb; have n_ := Aside0.mk (All.box (by first | exact HA.out | exact All.drewN HA.out _ | exact All.drew HA.out) hg hbox hb); clear HA; have HA := n_; clear n_ hg hbox hb; obtain ⟨cb0, cb1, cb2, cb3, cb4, cb5, cb6, cb7⟩ := bf4_ HA.out.1.1))
    refine gen_wp (All w _) (All.set4 (l1 := []) HA.out (.int .i64 (rd_T40 l3 i).f0) (.int .i64 (rd_T40 l3 i).f1) (.slice X2 (rd_T40 l3 i).f2.length d2) (.slice X3 (rd_T40 l3 i).f3.length d3)) ?_
    clear HA
    intro w49 hA
    have HA := Aside0.mk hA
    clear hA
    clear cb0 cb1 cb2 cb3 cb4 cb5 cb6 cb7 hx0 hx1 hx2 hx3
    clear cc0 cc1 cc2 cc3
    obtain ⟨ca0, ca1, ca2, ca3⟩ := bc4_ HA.out.1.1
    have NL := Aside0.mk (show N1 ≤ w49.heap.size from HA.out.2.1.2.1)
    go_upto_region 14 with (first | ((with_reducible refine gate_callee (f := 61) rfl ?_); refine goesL_ (some 65) rfl rfl Try.func61 (by kernel_rfl) rfl #[.slice A0 l0.length c0, .agg #[.int .i64 (rd_T40 l3 i).f0, .int .i64 (rd_T40 l3 i).f1, .slice X2 (rd_T40 l3 i).f2.length d2, .slice X3 (rd_T40 l3 i).f3.length d3], .agg #[.int .i64 (rd_T40 l3 i).f0, .int .i64 (rd_T40 l3 i).f1, .slice none 0 0, .slice none 0 0]] rfl la_ ?_; (refine (ih k1 (by have := HK1.out; omega) _ _ l0 _ _ _ _ (rd_T40 l3 i).f2 _ _ (rd_T40 l3 i).f3 _ _ t1 t2 t3 t4 t5 _ (Kd.C_below HR0.out (by first | exact All.base HA.out | exact pw_below_drewN (All.base HA.out) _ | exact below_drew1 (All.base HA.out))) HC0.out (Kd.C_below HS2.out (by first | exact All.base HA.out | exact pw_below_drewN (All.base HA.out) _ | exact below_drew1 (All.base HA.out))) HD2.out (Kd.C_below HS3.out (by first | exact All.base HA.out | exact pw_below_drewN (All.base HA.out) _ | exact below_drew1 (All.base HA.out))) HD3.out A8.out).mono ?_); rintro e w50 ⟨v2, v3, f, rfl, hr, hb⟩; refine ⟨_, rfl, ?_⟩; obtain ⟨B2, e2, rfl⟩ := Kd.R_slice hr.1; obtain ⟨B3, e3, rfl⟩ := Kd.S_slice hr.2; have n_ := Aside0.mk (All.pushMade (by first | exact HA.out | exact All.drewN HA.out _ | exact All.drew HA.out) hb hr); clear HA; have HA := n_; clear n_ hb hr) | ((with_reducible refine gate_dst (N := 10) rfl ?_); (try (refine gate_guard (by rfl) ?_; dsimp only)); refine box_event ?hg (N := 10) ?hd (cs := #[.int .i64 0, .int .i64 0, .slice none 0 0, .slice none 0 0]) (t := 40) ?hr ?_; (case hd => rfl); (case hg => rfl); (case hr => first | (go_simp; done) | (go_simp; rfl)); intro gy hg w51 hbox hb; have n_ := Aside0.mk (All.box (by first | exact HA.out | exact All.drewN HA.out _ | exact All.drew HA.out) hg hbox hb); clear HA; have HA := n_; clear n_ hg hbox hb; obtain ⟨cb0, cb1, cb2, cb3, cb4, cb5, cb6, cb7⟩ := bf4_ HA.out.1.1))
    refine gen_wp (All w _) (All.set4 (l1 := []) HA.out (.int .i64 t1) (.int .i64 t2) (.slice B2 t3.length e2) (.slice B3 t4.length e3)) ?_
    clear HA
    intro w52 hA
    have HA := Aside0.mk hA
    clear hA
    clear ca0 ca1 ca2 ca3 cb0 cb1 cb2 cb3 cb4 cb5 cb6 cb7
    by_cases hok : t5 = true
    · subst hok
      have h := H.out
      clear H
      rw [if_pos rfl] at h
      have H := Aside0.mk h
      clear h
      obtain ⟨ca0, ca1, ca2, ca3⟩ := bc4_ HA.out.1.1
      obtain ⟨cc0, cc1, cc2, cc3⟩ := bc4_ HA.out.2.2.2.2.2.2.1.1
      go_wp2_with (first | ((with_reducible refine gate_builtin (b := .append) (xs := #[.tmp 72, .tmp 74]) rfl ?_); at_builtin; refine Kd.S_append kT (w0 := w) w.heap.size rfl (.tmp 72) (.tmp 74) 38 40 (.agg #[.int .i64 0, .int .i64 0, .slice none 0 0, .slice none 0 0]) 64 rfl Try.underlying38 info40 rfl (by decide) (by omega) (.slice BK acc.length cK) acc ⟨t1, t2, t3, t4⟩ [.int .i64 t1, .int .i64 t2, .slice B2 t3.length e2, .slice B3 t4.length e3] (fun k_ => wc.heap.size ≤ k_) (fun k_ => w49.heap.size ≤ k_ ∧ k_ < w50.heap.size) rfl (by first | (go_simp; done) | (go_simp; rfl)) ?aP ?hokp ?aF ?aO ?aB ?aS ?aL ?_; (case aP => exact made_M HA.out.2.1.1 t1 t2); (case hokp => intro k_ hk; have := NL.out; have := HN1.out; exact ⟨by omega, fun he => by have := (HA.out.2.2.2.1.1.choose_spec.1 k_ he.symm).2; omega⟩); (case aF => intro k_ hk; have := HN1.out; have := HA.out.2.2.2.1.2.1; show wc.heap.size ≤ k_; simp only [Ob.kids] at this; omega); (case aO => exact Kd.S_mono HA.out.2.2.2.1.1 (fun k_ hk => ⟨hk.1, fun h2 => by have := NL.out; omega⟩)); (case aB => exact (by first | exact All.base HA.out | exact pw_below_drewN (All.base HA.out) _ | exact below_drew1 (All.base HA.out))); (case aS => exact (All.base HA.out).size); (case aL => have := LA.out; omega); intro v1 w53 ho hb hg hat; obtain ⟨B4, e4, rfl⟩ := Kd.S_slice ho; have HM := Aside0.mk (Nat.le_trans HN1.out (Nat.le_trans HA.out.2.2.2.1.2.1 hg.size)); have n_ := Aside0.mk (All.next HA.out.2.2.2 HN.out HW.out hg hb ho); clear HA; have HA := n_; clear n_ ho hb hg hat; obtain ⟨cb0, cb1, cb2, cb3, cb4, cb5, cb6, cb7⟩ := bf4_ HA.out.2.2.2.1.1))
      go_roundg k1
      case measure => have := HK1.out; omega
      case rel => exact ⟨_, _, _, _, _, rfl, H, ⟨by have := HK1.out; omega⟩, HM, ⟨All.put (l1 := [_, _, _]) HA.out 3 _ (by rw [List.length_append]; rfl)⟩⟩
    · have h := H.out
      clear H
      rw [if_neg hok] at h
      obtain rfl := Option.some.inj h
      replace hok := Bool.eq_false_iff.mpr hok
      subst hok
      have e := HF.out
      simp only [mapFin, Prod.mk.injEq] at e
      obtain ⟨rfl, rfl, rfl, rfl, rfl⟩ := e
      clear h HF
      obtain ⟨cz0, cz1, cz2, cz3, cz4, cz5, cz6, cz7⟩ := bf4_ HA.out.2.2.2.2.2.1.1
      go_wp2
      have nA := All.set4 (l1 := [_, _, _, _, _]) HA.out (.int .i64 0) (.int .i64 0) (.slice none 0 0) (.slice none 0 0)
      refine bodyPost_ret (results_ct rfl _ _ g6 40 #[.int .i64 0, .int .i64 0, .slice none 0 0, .slice none 0 0] (0, 0) _ rfl nA.2.2.2.2.2.1.1 Try.underlying40 rfl (by kernel_rfl)) rfl ?_
      first | exact ⟨_, _, _, rfl, made_nil, nA.base⟩ | exact ⟨_, _, rfl, ⟨_, made_nil⟩, nA.base⟩
  · rw [if_neg c6] at H
    have c6b : decide (i < (l3.length : Int)) = false := decide_eq_false c6
    obtain rfl := Option.some.inj H
    have e := HF.out
    simp only [mapFin, Prod.mk.injEq] at e
    obtain ⟨rfl, rfl, rfl, rfl, rfl⟩ := e
    clear H HF c6
    obtain ⟨cc0, cc1, cc2, cc3⟩ := bc4_ HA.out.2.2.2.2.1.1
    obtain ⟨ca0, ca1, ca2, ca3⟩ := bc4_ HA.out.2.2.2.1.1
    obtain ⟨cz0, cz1, cz2, cz3, cz4, cz5, cz6, cz7⟩ := bf4_ HA.out.2.2.1.1
    go_wp2
    have nA := All.set4 (l1 := [_, _]) HA.out (.int .i64 b0) (.int .i64 n) (.slice BT t.length cT) (.slice BK acc.length cK)
    refine bodyPost_ret (results_ct rfl _ _ g6 40 #[.int .i64 b0, .int .i64 n, .slice BT t.length cT, .slice BK acc.length cK] (0, 0) _ rfl nA.2.2.1.1 Try.underlying40 rfl (by kernel_rfl)) rfl ?_
    obtain ⟨f, hf⟩ := made_of nA.2.1.1 nA.1.1 (Or.inl (HN.out _ List.mem_cons_self))
    first | exact ⟨_, _, f, rfl, hf, nA.base⟩ | exact ⟨_, _, rfl, ⟨f, hf⟩, nA.base⟩
def spec_MapTerm.f (k : Nat) (l0 : List Int) (a0 a1 : Int) (l2 : List Int) (l3 : List S40) : Option (Int × Int × List Int × List S40 × Bool) := (spec_IsWritten.f k a0 a1 l2 l3).bind fun b => if b = true then spec_l3Map.f k l0 a0 a1 l2 l3 a0 a1 else some (0, 0, [], [], false)
set_option maxHeartbeats 8000000 in
set_option maxRecDepth 100000 in
theorem spec_MapTerm.calls (k : Nat) (A0 : Option Addr) (c0 : Nat) (l0 : List Int) (a0 a1 : Int) (A2 : Option Addr) (c2 : Nat) (l2 : List Int) (A3 : Option Addr) (c3 : Nat) (l3 : List S40) (r1 r2 : Int) (r3 : List Int) (r4 : List S40) (r5 : Bool) (w : World) (hr0 : Kd.C (Kd.int .i64) w A0 l0.length l0) (hc0 : l0.length ≤ c0) (hr2 : Kd.C (Kd.int .i64) w A2 l2.length l2) (hc2 : l2.length ≤ c2) (hr3 : Kd.C k40 w A3 l3.length l3) (hc3 : l3.length ≤ c3) (h : spec_MapTerm.f k l0 a0 a1 l2 l3 = some (r1, r2, r3, r4, r5)) :
  Calls Try.prog 16 #[.slice A0 l0.length c0, .agg #[.int .i64 a0, .int .i64 a1, .slice A2 l2.length c2, .slice A3 l3.length c3]] w fun e w' => ∃ (v2 v3 : Value) (f : Nat → Bool), e = .returned (.tuple #[.agg #[.int .i64 r1, .int .i64 r2, v2, v3], .bool r5]) ∧ Made w' w.heap.size f v2 v3 r3 r4 ∧ Below w.heap.size w w' := by
 unfold spec_MapTerm.f at h
 obtain ⟨b, Ab, h⟩ := Option.bind_eq_some_iff.mp h
 have hu40 := Try.underlying40
 have HR0 := Aside0.mk hr0
 have HC0 := Aside0.mk hc0
 clear hr0 hc0
 have HR2 := Aside0.mk hr2
 have HC2 := Aside0.mk hc2
 clear hr2 hc2
 have HR3 := Aside0.mk hr3
 have HC3 := Aside0.mk hc3
 clear hr3 hc3
 replace Ab := Aside0.mk Ab
 have H := Aside0.mk h
 clear h
 have HA := Aside0.mk (show All w [] w from Below.refl w.heap.size w)
 go_enter Try.func16, Try.ntmps16
 go_upto_region 1 with (first | ((with_reducible refine gate_dst (N := 3) rfl ?_); (try (refine gate_guard (by rfl) ?_; dsimp only)); refine box_event ?hg (N := 3) ?hd (cs := #[.int .i64 a0, .int .i64 a1, .slice A2 l2.length c2, .slice A3 l3.length c3]) (t := 40) ?hr ?_; (case hd => rfl); (case hg => rfl); (case hr => first | (go_simp; done) | (go_simp; rfl)); intro g3 hg w54 hbox hb; have n_ := Aside0.mk (All.box (by first | exact HA.out | exact All.drewN HA.out _ | exact All.drew HA.out) hg hbox hb); clear HA; have HA := n_; clear n_ hg hbox hb) | ((with_reducible refine gate_dst (N := 4) rfl ?_); (try (refine gate_guard (by rfl) ?_; dsimp only)); refine box_event ?hg (N := 4) ?hd (cs := #[.int .i64 0, .int .i64 0, .slice none 0 0, .slice none 0 0]) (t := 40) ?hr ?_; (case hd => rfl); (case hg => rfl); (case hr => first | (go_simp; done) | (go_simp; rfl)); intro g4 hg w55 hbox hb; have n_ := Aside0.mk (All.box (by first | exact HA.out | exact All.drewN HA.out _ | exact All.drew HA.out) hg hbox hb); clear HA; have HA := n_; clear n_ hg hbox hb))
 obtain ⟨ca0, ca1, ca2, ca3⟩ := bc4_ HA.out.2.1.1
 go_upto_if 9 with (first | ((with_reducible refine gate_callee (f := 60) rfl ?_); refine goesL_ (some 8) rfl rfl Try.func60 (by kernel_rfl) rfl #[.agg #[.int .i64 a0, .int .i64 a1, .slice A2 l2.length c2, .slice A3 l3.length c3]] rfl la_ ?_; (refine (spec_IsWritten.calls k _ _ _ _ l2 _ _ l3 b _ (Kd.C_below HR2.out (by first | exact All.base HA.out | exact pw_below_drewN (All.base HA.out) _ | exact below_drew1 (All.base HA.out))) HC2.out (Kd.C_below HR3.out (by first | exact All.base HA.out | exact pw_below_drewN (All.base HA.out) _ | exact below_drew1 (All.base HA.out))) HC3.out Ab.out).mono ?_); rintro e w56 ⟨rfl, hb⟩; refine ⟨_, rfl, ?_⟩; have n_ := Aside0.mk (All.below (by first | exact HA.out | exact All.drewN HA.out _ | exact All.drew HA.out) hb); clear HA; have HA := n_; clear n_ hb))
 clear ca0 ca1 ca2 ca3
 by_cases hb : b = true
 · subst hb
   have h := H.out
   clear H
   rw [if_pos rfl] at h
   replace h := Aside0.mk h
   clear Ab
   obtain ⟨ca0, ca1, ca2, ca3⟩ := bc4_ HA.out.2.1.1
   go_upto_region 4 with (first | ((with_reducible refine gate_dst (N := 6) rfl ?_); (try (refine gate_guard (by rfl) ?_; dsimp only)); refine box_event ?hg (N := 6) ?hd (cs := #[.int .i64 0, .int .i64 0, .slice none 0 0, .slice none 0 0]) (t := 40) ?hr ?_; (case hd => rfl); (case hg => rfl); (case hr => first | (go_simp; done) | (go_simp; rfl)); intro g6 hg w57 hbox hb; have n_ := Aside0.mk (All.box (by first | exact HA.out | exact All.drewN HA.out _ | exact All.drew HA.out) hg hbox hb); clear HA; have HA := n_; clear n_ hg hbox hb; obtain ⟨cb0, cb1, cb2, cb3, cb4, cb5, cb6, cb7⟩ := bf4_ HA.out.1.1))
   refine gen_wp (All w _) (All.set4 (l1 := []) HA.out (.int .i64 a0) (.int .i64 a1) (.slice none 0 0) (.slice none 0 0)) ?_
   clear HA
   intro w58 hA
   have HA := Aside0.mk hA
   clear hA
   clear ca0 ca1 ca2 ca3 cb0 cb1 cb2 cb3 cb4 cb5 cb6 cb7
   obtain ⟨ca0, ca1, ca2, ca3⟩ := bc4_ HA.out.1.1
   obtain ⟨cc0, cc1, cc2, cc3⟩ := bc4_ HA.out.2.2.1.1
   go_wp2_with (first | ((with_reducible refine gate_callee (f := 61) rfl ?_); refine goesL_ (some 19) rfl rfl Try.func61 (by kernel_rfl) rfl #[.slice A0 l0.length c0, .agg #[.int .i64 a0, .int .i64 a1, .slice A2 l2.length c2, .slice A3 l3.length c3], .agg #[.int .i64 a0, .int .i64 a1, .slice none 0 0, .slice none 0 0]] rfl la_ ?_; (refine (l3MapT k _ _ l0 _ _ _ _ l2 _ _ l3 _ _ r1 r2 r3 r4 r5 _ (Kd.C_below HR0.out (by first | exact All.base HA.out | exact pw_below_drewN (All.base HA.out) _ | exact below_drew1 (All.base HA.out))) HC0.out (Kd.C_below HR2.out (by first | exact All.base HA.out | exact pw_below_drewN (All.base HA.out) _ | exact below_drew1 (All.base HA.out))) HC2.out (Kd.C_below HR3.out (by first | exact All.base HA.out | exact pw_below_drewN (All.base HA.out) _ | exact below_drew1 (All.base HA.out))) HC3.out h.out).mono ?_); rintro e w59 ⟨v2, v3, f, rfl, hr, hb⟩; refine ⟨_, rfl, ?_⟩; obtain ⟨B2, e2, rfl⟩ := Kd.R_slice hr.1; obtain ⟨B3, e3, rfl⟩ := Kd.S_slice hr.2; have n_ := Aside0.mk (All.pushMade (by first | exact HA.out | exact All.drewN HA.out _ | exact All.drew HA.out) hb hr); clear HA; have HA := n_; clear n_ hb hr; obtain ⟨cz0, cz1, cz2, cz3, cz4, cz5, cz6, cz7⟩ := bf4_ HA.out.2.2.1.1))
   have nA := All.set4 (l1 := [_, _]) HA.out (.int .i64 r1) (.int .i64 r2) (.slice B2 r3.length e2) (.slice B3 r4.length e3)
   refine bodyPost_ret (results_ct rfl _ _ g4 40 #[.int .i64 r1, .int .i64 r2, .slice B2 r3.length e2, .slice B3 r4.length e3] (0, 0) _ rfl nA.2.2.1.1 Try.underlying40 rfl (by kernel_rfl)) rfl ?_
   first | exact ⟨_, _, f, rfl, made_Made nA.1.1, nA.base⟩ | exact ⟨_, _, rfl, ⟨f, made_Made nA.1.1⟩, nA.base⟩
 · have h := H.out
   clear H
   rw [if_neg hb] at h
   simp only [Option.some.injEq, Prod.mk.injEq] at h
   obtain ⟨rfl, rfl, rfl, rfl, rfl⟩ := h
   replace hb := Bool.eq_false_iff.mpr hb
   subst hb
   clear Ab
   obtain ⟨cz0, cz1, cz2, cz3, cz4, cz5, cz6, cz7⟩ := bf4_ HA.out.1.1
   go_wp2
   have nA := All.set4 (l1 := []) HA.out (.int .i64 0) (.int .i64 0) (.slice none 0 0) (.slice none 0 0)
   refine bodyPost_ret (results_ct rfl _ _ g4 40 #[.int .i64 0, .int .i64 0, .slice none 0 0, .slice none 0 0] (0, 0) _ rfl nA.1.1 Try.underlying40 rfl (by kernel_rfl)) rfl ?_
   first | exact ⟨_, _, _, rfl, made_nil, nA.base⟩ | exact ⟨_, _, rfl, ⟨_, made_nil⟩, nA.base⟩
end Go.Proofs.Ytipfkicndjddgaa.P
