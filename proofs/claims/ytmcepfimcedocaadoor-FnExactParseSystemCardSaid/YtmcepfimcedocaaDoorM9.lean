-- Several texts in one (wip/tools/merge.py).
import Derived.Test.YtmcepfimcedocaaDoorM1
import Derived.Test.YtmcepfimcedocaaDoorM4
import Derived.Test.YtmcepfimcedocaaDoorM8
import Derived.IntWalk
import Derived.Test.YtmcepfimcedocaaDoorP0
import Derived.Test.YtmcepfimcedocaaDoorM5
import Derived.Test.YtmcepfimcedocaaDoorM6
import Derived.Laws.EntriesVeiled
section
/- The plain laws: loops, copies, comparisons. -/
set_option linter.unusedSimpArgs false
set_option linter.unusedVariables false
namespace Go.Proofs.YtmcepfimcedocaaDoor.Pure
open Go.RowKit Go.Proofs.YtmcepfimcedocaaDoor.P Go.Proofs.YtmcepfimcedocaaDoorW.PrintWords Go.Proofs.YtmcepfimcedocaaDoorW.PrintLast
theorem evCongr {α : Type} {g f : Nat → Option α} {r : α} (h : ∀ k, g k = f k) (k : Ev f r) : Ev g r := by
  obtain ⟨K, k⟩ := k
  exact ⟨K, fun n hn => (h n).trans (k n hn)⟩
theorem evRounds {α : Type} {g : Nat → Option α} {r : α} (h : Ev g r) : ∃ k, g k = some r := by
  obtain ⟨K, h⟩ := h
  exact ⟨K, h K (Nat.le_refl _)⟩
/-! ## Loops -/
def findO {α : Type} (g : Int → Option α) : Int → Nat → Option α
  | _, 0 => none
  | x, m + 1 => (g x).or (findO g (x + 1) m)
theorem findO_none {α : Type} {g : Int → Option α} : ∀ (m : Nat) (x : Int), findO g x m = none → ∀ y, x ≤ y → y < x + m → g y = none
  | 0, x, _, y, h1, h2 => by omega
  | m + 1, x, h, y, h1, h2 => by
    have h' : (g x).or (findO g (x + 1) m) = none := h
    rw [Option.or_eq_none_iff] at h'
    by_cases e : y = x
    · rw [e]; exact h'.1
    · exact findO_none m (x + 1) h'.2 y (by omega) (by omega)
theorem findO_nil {α : Type} : ∀ (m : Nat) (x : Int), findO (fun _ => (none : Option α)) x m = none
  | 0, _ => rfl
  | m + 1, x => findO_nil m (x + 1)
theorem loop {α : Type} {F : Nat → Int → Option α} {n : Int} {g : Int → Option α} {e : α} (he : Ev (fun k => F k n) e)
    (hs : ∀ x, 0 ≤ x → x < n → ∀ r, Ev (fun k => F k (x + 1)) r → Ev (fun k => F k x) ((g x).getD r)) :
    ∀ (m : Nat) (x : Int), 0 ≤ x → x + m = n → Ev (fun k => F k x) ((findO g x m).getD e)
  | 0, x, _, h => by
    obtain rfl : x = n := by omega
    exact he
  | m + 1, x, h0, h => by
    have ih := loop he hs m (x + 1) (by omega) (by omega)
    have := hs x h0 (by omega) _ ih
    show Ev _ (((g x).or (findO g (x + 1) m)).getD e)
    revert this
    cases g x <;> exact id
theorem loop0 {α : Type} {F : Nat → Int → Option α} {n : Int} {g : Int → Option α} {e : α} (hn : 0 ≤ n) (he : Ev (fun k => F k n) e)
    (hs : ∀ x, 0 ≤ x → x < n → ∀ r, Ev (fun k => F k (x + 1)) r → Ev (fun k => F k x) ((g x).getD r)) : Ev (fun k => F k 0) ((findO g 0 n.toNat).getD e) :=
  loop he hs n.toNat 0 (by omega) (by omega)
theorem loop_hit {α : Type} {F : Nat → Int → Option α} {n : Int} {g : Int → Option α} {v : α}
    (hs : ∀ x, 0 ≤ x → x < n → ∀ r, (g x = none → Ev (fun k => F k (x + 1)) r) → Ev (fun k => F k x) ((g x).getD r)) :
    ∀ (m : Nat) (x : Int), 0 ≤ x → x + m = n → findO g x m = some v → Ev (fun k => F k x) v
  | 0, x, _, _, h => by cases h
  | m + 1, x, h0, h, hf => by
    have hf' : (g x).or (findO g (x + 1) m) = some v := hf
    have := hs x h0 (by omega) v
    cases c : g x with
    | none =>
      rw [c] at hf' this
      exact this fun _ => loop_hit hs m (x + 1) (by omega) (by omega) hf'
    | some u =>
      rw [c] at hf' this
      obtain rfl : u = v := Option.some.inj hf'
      exact this (fun h => by cases h)
theorem w64 {x : Int} (h1 : -9223372036854775808 ≤ x) (h2 : x ≤ 9223372036854775807) : wrap64 x = x := by unfold wrap64; omega
/-! ## Copies and sizes -/
theorem rd_get {l : List Int} {i : Nat} (h : i < l.length) : rd l (i : Int) = l[i] := by
  unfold rd; rw [Int.toNat_natCast, List.getD_eq_getElem?_getD, List.getElem?_eq_getElem h]; rfl
theorem eqIntS (l : List Int) (hl : l.length ≤ 1048576) : Ev (fun k => laws_eqIntS.f k l l) true := by
  unfold laws_eqIntS.f
  refine evCongr (fun k => if_pos rfl) ?_
  have hh : (findO (fun _ => (none : Option Bool)) 0 (l.length : Int).toNat).getD true = true := by rw [findO_nil]; rfl
  rw [← hh]
  refine loop0 (F := fun k x => laws_eqIntS.l0 k l l x) (n := (l.length : Int)) (g := fun _ => none) (e := true) (by omega) ?_ ?_
  · refine Ev.step (f := fun _ => some true) (fun k => ?_) (Ev.now _)
    simp only [laws_eqIntS.l0]; rw [if_neg (by omega)]
  · intro x h0 h1 r hr
    refine Ev.step (fun k => ?_) hr
    simp only [laws_eqIntS.l0]; rw [if_pos h1, if_pos h0, if_pos h1, w64 (by omega) (by omega)]; simp
def inV (x lo hi : Int) : Bool := decide (x ≥ lo) && decide (x ≤ hi)
theorem in_eq (x lo hi : Int) : spec_l1In.f x lo hi = some (inV x lo hi) := by
  unfold spec_l1In.f inV
  by_cases c : x ≥ lo
  · rw [if_pos c]; simp [c]
  · rw [if_neg c]; simp [c]
theorem within_eq (x lo hi : Int) : impl_within.f x lo hi = some (inV x lo hi) := in_eq x lo hi
end Go.Proofs.YtmcepfimcedocaaDoor.Pure
end

section
/-! shorter words -/
namespace Go.Proofs.YtmcepfimcedocaaDoor.P
open Go.RowKit Go.Proofs.YtmcepfimcedocaaDoorW.PrintWords Go.Proofs.YtmcepfimcedocaaDoorW.PrintLast Go.Proofs.YtmcepfimcedocaaDoorW.PrintMore
attribute [local go_sem] max2_int min2_int max_two min_two max_three min_three max_four min_four   -- for this text's walks alone
set_option linter.unusedVariables false
set_option linter.unusedSimpArgs false

/-! ### spec_IsSystem: function 16 -/
mutual
def spec_IsSystem.l0 : Nat → Int → Int → List Int → List Int → List Bool → Option (Bool)
 | 0, _, _, _, _, _ => none
 | k + 1, x3, x270000, x270001, x270002, x270003 => if x3 < x270000 then ((spec_l1One.f x270000 x270001 x270002 x270003 x3).bind fun t271 => (if t271 = true then (spec_IsSystem.l1 k x3 0 x270000 x270001 x270002 x270003) else (some false))) else (some true)
def spec_IsSystem.l1 : Nat → Int → Int → Int → List Int → List Int → List Bool → Option (Bool)
 | 0, _, _, _, _, _, _ => none
 | k + 1, x3, x4, x270000, x270001, x270002, x270003 => if x4 < x270000 then ((spec_l1Two.f k x270000 x270001 x270002 x270003 x3 x4).bind fun t272 => (if t272 = true then (spec_IsSystem.l2 k x3 x4 0 x270000 x270001 x270002 x270003) else (some false))) else (spec_IsSystem.l0 k (wrap64 (x3 + 1)) x270000 x270001 x270002 x270003)
def spec_IsSystem.l2 : Nat → Int → Int → Int → Int → List Int → List Int → List Bool → Option (Bool)
 | 0, _, _, _, _, _, _, _ => none
 | k + 1, x3, x4, x5, x270000, x270001, x270002, x270003 => if x5 < x270000 then ((spec_l1Three.f k x270000 x270001 x270002 x270003 x3 x4 x5).bind fun t273 => (if t273 = true then (spec_IsSystem.l2 k x3 x4 (wrap64 (x5 + 1)) x270000 x270001 x270002 x270003) else (some false))) else (spec_IsSystem.l1 k x3 (wrap64 (x4 + 1)) x270000 x270001 x270002 x270003)
end
def spec_IsSystem.f (k : Nat) (a0_0 : Int) (l0_1 : List Int) (l0_2 : List Int) (l0_3 : List Bool) : Option (Bool) := (spec_l1Tables.f k a0_0 l0_1 l0_2 l0_3).bind fun t270 => (if t270 = true then (spec_IsSystem.l0 k 0 a0_0 l0_1 l0_2 l0_3) else (some false))
set_option maxHeartbeats 8000000 in
set_option maxRecDepth 100000 in
theorem spec_IsSystem.calls (k : Nat) (a0_0 : Int) (A0_1 : Option Addr) (c0_1 : Nat) (l0_1 : List Int) (A0_2 : Option Addr) (c0_2 : Nat) (l0_2 : List Int) (A0_3 : Option Addr) (c0_3 : Nat) (l0_3 : List Bool) (r : Bool) (w : World) (hr0_1 : Kd.C (Kd.int .i64) w A0_1 l0_1.length l0_1) (hc0_1 : l0_1.length ≤ c0_1) (hr0_2 : Kd.C (Kd.int .i64) w A0_2 l0_2.length l0_2) (hc0_2 : l0_2.length ≤ c0_2) (hr0_3 : Kd.C Kd.bool w A0_3 l0_3.length l0_3) (hc0_3 : l0_3.length ≤ c0_3) (h : spec_IsSystem.f k a0_0 l0_1 l0_2 l0_3 = some r) :
  Calls Tryd.prog 16 #[.agg #[.int .i64 a0_0, .slice A0_1 l0_1.length c0_1, .slice A0_2 l0_2.length c0_2, .slice A0_3 l0_3.length c0_3]] w fun e w' => e = .returned (.bool r) ∧ Below w.heap.size w w' := by
 have hu28 := Tryd.underlying28; have HR0_1 := sd_ hr0_1; have HC0_1 := sd_ hc0_1; clear hr0_1 hc0_1; have HR0_2 := sd_ hr0_2; have HC0_2 := sd_ hc0_2; clear hr0_2 hc0_2; have HR0_3 := sd_ hr0_3; have HC0_3 := sd_ hc0_3; clear hr0_3 hc0_3; have HB := sd_ (Below.refl w.heap.size w); have H : ((spec_l1Tables.f k a0_0 l0_1 l0_2 l0_3).bind fun t270 => (if t270 = true then (spec_IsSystem.l0 k 0 a0_0 l0_1 l0_2 l0_3) else (some false))) = some r := h; clear h
 revert H; refine ob_ fun t270 A2 H => ?_
 have HP3 := sd_ H; clear H; go_enter Tryd.func16, Tryd.ntmps16; go_upto_if 8 with (first | ((with_reducible refine gate_dst (N := 1) rfl ?_); refine bx_ (N := 1) (cs := #[.int .i64 a0_0, .slice A0_1 l0_1.length c0_1, .slice A0_2 l0_2.length c0_2, .slice A0_3 l0_3.length c0_3]) (t := 28) ?_; intro gb269 hg w4 hbox hb; have BK269 := sd_ (hbox); have GW269 := sd_ (gs_ hg (bw0_ HB.out)); have GE269 := sd_ (gs_ hg (bw0_ HB.out)); replace HB := sd_ (below_step (bw0_ HB.out) hb); clear hb hbox hg; obtain ⟨z5_0, z5_1, z5_2, z5_3, f5_0, f5_1, f5_2, f5_3⟩ := bf4_ BK269.out) | ((with_reducible refine gate_callee (f := 34) rfl ?_); refine goesL_ (some 7) rfl rfl Tryd.func34 (by kernel_rfl) rfl #[.agg #[.int .i64 a0_0, .slice A0_1 l0_1.length c0_1, .slice A0_2 l0_2.length c0_2, .slice A0_3 l0_3.length c0_3]] rfl la_ ?_; (with_reducible refine (spec_l1Tables.calls k a0_0 _ _ l0_1 _ _ l0_2 _ _ l0_3 t270 _ (kc_ HR0_1.out HB.out) HC0_1.out (kc_ HR0_2.out HB.out) HC0_2.out (kc_ HR0_3.out HB.out) HC0_3.out A2.out).mono ?_); rintro e w6 ⟨rfl, hb⟩; refine ⟨_, rfl, ?_⟩; replace BK269 := sd_ (bb_ BK269.out hb); replace HB := sd_ (below_step (bw1_ HB.out GE269.out) hb); (try clear hb))); have H := HP3.out; clear HP3; obtain rfl | rfl := bt_ t270
 ·replace H := it_ H; have H' := sd_ H; clear H; go_wp2
  go_loopg [3] k (fun kq v3 w' => ∃ (x3_1 : Int), v3 = .int .i64 x3_1 ∧ Aside0 (spec_IsSystem.l0 kq x3_1 a0_0 l0_1 l0_2 l0_3 = some r) ∧ Aside0 (kq ≤ k) ∧ Aside0 (w'.heap[gb269]? = some (.cells #[.int .i64 a0_0, (.slice A0_1 l0_1.length c0_1), (.slice A0_2 l0_2.length c0_2), (.slice A0_3 l0_3.length c0_3)] 28 (0, 0))) ∧ Aside0 (Below w.heap.size w w'))
  case atStart => exact ⟨(0), sm_, H', ⟨Nat.le_refl _⟩, ⟨bz_ BK269.out⟩, ⟨bw1_ HB.out GE269.out⟩⟩
  case round =>
   clear H'; (try clear c1); (try clear p2); (try clear c3); (try clear c7); (try clear z5_0 z5_1 z5_2 z5_3 f5_0 f5_1 f5_2 f5_3); obtain ⟨x3_1, rfl, HA, HK1, BK269, HB⟩ := hrel
   cases gk with
   | zero => exact absurd HA.out (by simp [spec_IsSystem.l0])
   | succ k1 =>
    have H := HA.out; clear HA; simp only [spec_IsSystem.l0] at H; revert H; refine ic_ (fun c8b0 H => ?_) (fun c8b0 H => ?_)
    ·(first | rw [c8b0] | (simp only [i64_w, i32_w]; rw [c8b0]) | skip)
     revert H; refine ob_ fun t271 A9 H => ?_
     have HP10 := sd_ H; clear H; obtain ⟨z11_0, z11_1, z11_2, z11_3, f11_0, f11_1, f11_2, f11_3⟩ := bf4_ BK269.out; go_upto_if 18 with (first | ((with_reducible refine gate_callee (f := 35) rfl ?_); refine goesL_ (some 17) rfl rfl Tryd.func35 (by kernel_rfl) rfl #[.agg #[.int .i64 a0_0, .slice A0_1 l0_1.length c0_1, .slice A0_2 l0_2.length c0_2, .slice A0_3 l0_3.length c0_3], .int .i64 x3_1] rfl la_ ?_; (with_reducible refine (spec_l1One.calls a0_0 _ _ l0_1 _ _ l0_2 _ _ l0_3 x3_1 t271 _ (kc_ HR0_1.out HB.out) HC0_1.out (kc_ HR0_2.out HB.out) HC0_2.out (kc_ HR0_3.out HB.out) HC0_3.out A9.out).mono ?_); rintro e w12 ⟨rfl, hb⟩; refine ⟨_, rfl, ?_⟩; replace BK269 := sd_ (bb_ BK269.out hb); replace HB := sd_ (below_step (bw1_ HB.out GE269.out) hb); (try clear hb))); have H := HP10.out; clear HP10; obtain rfl | rfl := bt_ t271
     ·replace H := it_ H; have H' := sd_ H; clear H; go_wp2
      go_loopg [4] k1 (fun kq v4 w' => ∃ (x4_2 : Int), v4 = .int .i64 x4_2 ∧ Aside0 (spec_IsSystem.l1 kq x3_1 x4_2 a0_0 l0_1 l0_2 l0_3 = some r) ∧ Aside0 (kq ≤ k1) ∧ Aside0 (w'.heap[gb269]? = some (.cells #[.int .i64 a0_0, (.slice A0_1 l0_1.length c0_1), (.slice A0_2 l0_2.length c0_2), (.slice A0_3 l0_3.length c0_3)] 28 (0, 0))) ∧ Aside0 (Below w.heap.size w w'))
      case atStart => exact ⟨(0), sm_, H', ⟨Nat.le_refl _⟩, ⟨bz_ BK269.out⟩, ⟨bw1_ HB.out GE269.out⟩⟩
      case round =>
       clear H'; (try clear c1); (try clear p2); (try clear c3); (try clear c7); (try clear c8); (try clear c8b0); (try clear c13); (try clear z11_0 z11_1 z11_2 z11_3); (try clear z5_0 z5_1 z5_2 z5_3); (try clear f11_0 f11_1 f11_2 f11_3); (try clear f5_0 f5_1 f5_2 f5_3); (try clear p2); obtain ⟨x4_2, rfl, HA, HK2, BK269, HB⟩ := hrel
       cases gk with
       | zero => exact absurd HA.out (by simp [spec_IsSystem.l1])
       | succ k2 =>
        have H := HA.out; clear HA; simp only [spec_IsSystem.l1] at H; revert H; refine ic_ (fun c14b0 H => ?_) (fun c14b0 H => ?_)
        ·(first | rw [c14b0] | (simp only [i64_w, i32_w]; rw [c14b0]) | skip)
         revert H; refine ob_ fun t272 A15 H => ?_
         have HP16 := sd_ H; clear H; obtain ⟨z17_0, z17_1, z17_2, z17_3, f17_0, f17_1, f17_2, f17_3⟩ := bf4_ BK269.out; go_upto_if 29 with (first | ((with_reducible refine gate_callee (f := 36) rfl ?_); refine goesL_ (some 28) rfl rfl Tryd.func36 (by kernel_rfl) rfl #[.agg #[.int .i64 a0_0, .slice A0_1 l0_1.length c0_1, .slice A0_2 l0_2.length c0_2, .slice A0_3 l0_3.length c0_3], .int .i64 x3_1, .int .i64 x4_2] rfl la_ ?_; (with_reducible refine (spec_l1Two.calls k2 a0_0 _ _ l0_1 _ _ l0_2 _ _ l0_3 x3_1 x4_2 t272 _ (kc_ HR0_1.out HB.out) HC0_1.out (kc_ HR0_2.out HB.out) HC0_2.out (kc_ HR0_3.out HB.out) HC0_3.out A15.out).mono ?_); rintro e w18 ⟨rfl, hb⟩; refine ⟨_, rfl, ?_⟩; replace BK269 := sd_ (bb_ BK269.out hb); replace HB := sd_ (below_step (bw1_ HB.out GE269.out) hb); (try clear hb))); have H := HP16.out; clear HP16; obtain rfl | rfl := bt_ t272
         ·replace H := it_ H; have H' := sd_ H; clear H; go_wp2
          go_loopg [5] k2 (fun kq v5 w' => ∃ (x5_3 : Int), v5 = .int .i64 x5_3 ∧ Aside0 (spec_IsSystem.l2 kq x3_1 x4_2 x5_3 a0_0 l0_1 l0_2 l0_3 = some r) ∧ Aside0 (kq ≤ k2) ∧ Aside0 (w'.heap[gb269]? = some (.cells #[.int .i64 a0_0, (.slice A0_1 l0_1.length c0_1), (.slice A0_2 l0_2.length c0_2), (.slice A0_3 l0_3.length c0_3)] 28 (0, 0))) ∧ Aside0 (Below w.heap.size w w'))
          case atStart => exact ⟨(0), sm_, H', ⟨Nat.le_refl _⟩, ⟨bz_ BK269.out⟩, ⟨bw1_ HB.out GE269.out⟩⟩
          case round =>
           clear H'; (try clear c1); (try clear p2); (try clear c3); (try clear c7); (try clear c8); (try clear c8b0); (try clear c13); (try clear c14); (try clear c14b0); (try clear c16); (try clear c19); (try clear z11_0 z11_1 z11_2 z11_3); (try clear z17_0 z17_1 z17_2 z17_3); (try clear z5_0 z5_1 z5_2 z5_3); (try clear f11_0 f11_1 f11_2 f11_3); (try clear f17_0 f17_1 f17_2 f17_3); (try clear f5_0 f5_1 f5_2 f5_3); (try clear p2); obtain ⟨x5_3, rfl, HA, HK3, BK269, HB⟩ := hrel
           cases gk with
           | zero => exact absurd HA.out (by simp [spec_IsSystem.l2])
           | succ k3 =>
            have H := HA.out; clear HA; simp only [spec_IsSystem.l2] at H; revert H; refine ic_ (fun c20b0 H => ?_) (fun c20b0 H => ?_)
            ·(first | rw [c20b0] | (simp only [i64_w, i32_w]; rw [c20b0]) | skip)
             revert H; refine ob_ fun t273 A21 H => ?_
             have HP22 := sd_ H; clear H; obtain ⟨z23_0, z23_1, z23_2, z23_3, f23_0, f23_1, f23_2, f23_3⟩ := bf4_ BK269.out; go_upto_if 41 with (first | ((with_reducible refine gate_callee (f := 37) rfl ?_); refine goesL_ (some 40) rfl rfl Tryd.func37 (by kernel_rfl) rfl #[.agg #[.int .i64 a0_0, .slice A0_1 l0_1.length c0_1, .slice A0_2 l0_2.length c0_2, .slice A0_3 l0_3.length c0_3], .int .i64 x3_1, .int .i64 x4_2, .int .i64 x5_3] rfl la_ ?_; (with_reducible refine (spec_l1Three.calls k3 a0_0 _ _ l0_1 _ _ l0_2 _ _ l0_3 x3_1 x4_2 x5_3 t273 _ (kc_ HR0_1.out HB.out) HC0_1.out (kc_ HR0_2.out HB.out) HC0_2.out (kc_ HR0_3.out HB.out) HC0_3.out A21.out).mono ?_); rintro e w24 ⟨rfl, hb⟩; refine ⟨_, rfl, ?_⟩; replace BK269 := sd_ (bb_ BK269.out hb); replace HB := sd_ (below_step (bw1_ HB.out GE269.out) hb); (try clear hb))); have H := HP22.out; clear HP22; obtain rfl | rfl := bt_ t273
             ·replace H := it_ H; have H' := sd_ H; clear H; go_wp2; go_roundg k3
              case measure => have := HK1.out; have := HK2.out; have := HK3.out; omega
              case rel => exact ⟨(wrap64 (x5_3 + 1)), sm_, H', ⟨by have := HK1.out; have := HK2.out; have := HK3.out; omega⟩, ⟨bz_ BK269.out⟩, ⟨bw1_ HB.out GE269.out⟩⟩
             replace H := if_ H; obtain rfl := Option.some.inj H; go_wp2; go_ret; exact ⟨an_, bw1_ HB.out GE269.out⟩
            (first | rw [c20b0] | (simp only [i64_w, i32_w]; rw [c20b0]) | skip); have H' := sd_ H; clear H; obtain ⟨z26_0, z26_1, z26_2, z26_3, f26_0, f26_1, f26_2, f26_3⟩ := bf4_ BK269.out; go_wp2; go_roundg k3
            case measure => have := HK1.out; have := HK2.out; have := HK3.out; omega
            case rel => exact ⟨(wrap64 (x4_2 + 1)), sm_, H', ⟨by have := HK1.out; have := HK2.out; have := HK3.out; omega⟩, ⟨bz_ BK269.out⟩, ⟨bw1_ HB.out GE269.out⟩⟩
         replace H := if_ H; obtain rfl := Option.some.inj H; go_wp2; go_ret; exact ⟨an_, bw1_ HB.out GE269.out⟩
        (first | rw [c14b0] | (simp only [i64_w, i32_w]; rw [c14b0]) | skip); have H' := sd_ H; clear H; obtain ⟨z27_0, z27_1, z27_2, z27_3, f27_0, f27_1, f27_2, f27_3⟩ := bf4_ BK269.out; go_wp2; go_roundg k2
        case measure => have := HK1.out; have := HK2.out; omega
        case rel => exact ⟨(wrap64 (x3_1 + 1)), sm_, H', ⟨by have := HK1.out; have := HK2.out; omega⟩, ⟨bz_ BK269.out⟩, ⟨bw1_ HB.out GE269.out⟩⟩
     replace H := if_ H; obtain rfl := Option.some.inj H; go_wp2; go_ret; exact ⟨an_, bw1_ HB.out GE269.out⟩
    (first | rw [c8b0] | (simp only [i64_w, i32_w]; rw [c8b0]) | skip); obtain rfl := Option.some.inj H; obtain ⟨z28_0, z28_1, z28_2, z28_3, f28_0, f28_1, f28_2, f28_3⟩ := bf4_ BK269.out; go_wp2; go_ret; exact ⟨an_, bw1_ HB.out GE269.out⟩
 replace H := if_ H; obtain rfl := Option.some.inj H; go_wp2; go_ret; exact ⟨an_, bw1_ HB.out GE269.out⟩

end Go.Proofs.YtmcepfimcedocaaDoor.P
end

section
/-! shorter words -/
namespace Go.Proofs.YtmcepfimcedocaaDoor.P
open Go.RowKit Go.Proofs.YtmcepfimcedocaaDoorW.PrintWords Go.Proofs.YtmcepfimcedocaaDoorW.PrintLast Go.Proofs.YtmcepfimcedocaaDoorW.PrintMore
attribute [local go_sem] max2_int min2_int max_two min_two max_three min_three max_four min_four   -- for this text's walks alone
set_option linter.unusedVariables false
set_option linter.unusedSimpArgs false

/-! ### spec_l1Product: function 43 -/
def spec_l1Product.f (k : Nat) (a0_0 : Int) (l0_1 : List Int) (l0_2 : List Int) (l0_3 : List Bool) (a1_0 : Int) (l1_1 : List Int) (l1_2 : List Int) (l1_3 : List Bool) : Option (Bool) := (spec_IsSystem.f k a0_0 l0_1 l0_2 l0_3).bind fun t276 => (if t276 = true then ((spec_IsSystem.f k a1_0 l1_1 l1_2 l1_3).bind fun t277 => (if t277 = true then (some (decide ((wrap64 (a0_0 * a1_0)) ≤ 16))) else (some false))) else (some false))
set_option maxHeartbeats 8000000 in
set_option maxRecDepth 100000 in
theorem spec_l1Product.calls (k : Nat) (a0_0 : Int) (A0_1 : Option Addr) (c0_1 : Nat) (l0_1 : List Int) (A0_2 : Option Addr) (c0_2 : Nat) (l0_2 : List Int) (A0_3 : Option Addr) (c0_3 : Nat) (l0_3 : List Bool) (a1_0 : Int) (A1_1 : Option Addr) (c1_1 : Nat) (l1_1 : List Int) (A1_2 : Option Addr) (c1_2 : Nat) (l1_2 : List Int) (A1_3 : Option Addr) (c1_3 : Nat) (l1_3 : List Bool) (r : Bool) (w : World) (hr0_1 : Kd.C (Kd.int .i64) w A0_1 l0_1.length l0_1) (hc0_1 : l0_1.length ≤ c0_1) (hr0_2 : Kd.C (Kd.int .i64) w A0_2 l0_2.length l0_2) (hc0_2 : l0_2.length ≤ c0_2) (hr0_3 : Kd.C Kd.bool w A0_3 l0_3.length l0_3) (hc0_3 : l0_3.length ≤ c0_3) (hr1_1 : Kd.C (Kd.int .i64) w A1_1 l1_1.length l1_1) (hc1_1 : l1_1.length ≤ c1_1) (hr1_2 : Kd.C (Kd.int .i64) w A1_2 l1_2.length l1_2) (hc1_2 : l1_2.length ≤ c1_2) (hr1_3 : Kd.C Kd.bool w A1_3 l1_3.length l1_3) (hc1_3 : l1_3.length ≤ c1_3) (h : spec_l1Product.f k a0_0 l0_1 l0_2 l0_3 a1_0 l1_1 l1_2 l1_3 = some r) :
  Calls Tryd.prog 43 #[.agg #[.int .i64 a0_0, .slice A0_1 l0_1.length c0_1, .slice A0_2 l0_2.length c0_2, .slice A0_3 l0_3.length c0_3], .agg #[.int .i64 a1_0, .slice A1_1 l1_1.length c1_1, .slice A1_2 l1_2.length c1_2, .slice A1_3 l1_3.length c1_3]] w fun e w' => e = .returned (.bool r) ∧ Below w.heap.size w w' := by
 have hu28 := Tryd.underlying28; have HR0_1 := sd_ hr0_1; have HC0_1 := sd_ hc0_1; clear hr0_1 hc0_1; have HR0_2 := sd_ hr0_2; have HC0_2 := sd_ hc0_2; clear hr0_2 hc0_2; have HR0_3 := sd_ hr0_3; have HC0_3 := sd_ hc0_3; clear hr0_3 hc0_3; have HR1_1 := sd_ hr1_1; have HC1_1 := sd_ hc1_1; clear hr1_1 hc1_1; have HR1_2 := sd_ hr1_2; have HC1_2 := sd_ hc1_2; clear hr1_2 hc1_2; have HR1_3 := sd_ hr1_3; have HC1_3 := sd_ hc1_3; clear hr1_3 hc1_3; have HB := sd_ (Below.refl w.heap.size w); have H : ((spec_IsSystem.f k a0_0 l0_1 l0_2 l0_3).bind fun t276 => (if t276 = true then ((spec_IsSystem.f k a1_0 l1_1 l1_2 l1_3).bind fun t277 => (if t277 = true then (some (decide ((wrap64 (a0_0 * a1_0)) ≤ 16))) else (some false))) else (some false))) = some r := h; clear h
 revert H; refine ob_ fun t276 A3 H => ?_
 obtain rfl | rfl := bt_ t276
 ·replace H := it_ H
  revert H; refine ob_ fun t277 A5 H => ?_
  obtain rfl | rfl := bt_ t277
  ·replace H := it_ H; obtain rfl := Option.some.inj H; go_enter Tryd.func43, Tryd.ntmps43; go_wp2_with (first | ((with_reducible refine gate_dst (N := 2) rfl ?_); refine bx_ (N := 2) (cs := #[.int .i64 a0_0, .slice A0_1 l0_1.length c0_1, .slice A0_2 l0_2.length c0_2, .slice A0_3 l0_3.length c0_3]) (t := 28) ?_; intro gb274 hg w7 hbox hb; have BK274 := sd_ (hbox); have GW274 := sd_ (gs_ hg (bw0_ HB.out)); have GE274 := sd_ (gs_ hg (bw0_ HB.out)); replace HB := sd_ (below_step (bw0_ HB.out) hb); clear hb hbox hg) | ((with_reducible refine gate_dst (N := 3) rfl ?_); refine bx_ (N := 3) (cs := #[.int .i64 a1_0, .slice A1_1 l1_1.length c1_1, .slice A1_2 l1_2.length c1_2, .slice A1_3 l1_3.length c1_3]) (t := 28) ?_; intro gb275 hg w8 hbox hb; have BK275 := sd_ (hbox); have GW275 := sd_ (gs_ hg (bw1_ HB.out GE274.out)); have GE275 := sd_ (gs_ hg (bw1_ HB.out GE274.out)); replace HB := sd_ (below_step (bw1_ HB.out GE274.out) hb); have NB274_275 := sd_ (nl_ hg (bl_ BK274.out)); have NB275_274 := sd_ (ng_ hg (bl_ BK274.out)); replace BK274 := sd_ (bb_ BK274.out hb); clear hb hbox hg; have hnb9 := NB274_275.out; have hnc9 := NB275_274.out; obtain ⟨z10_0, z10_1, z10_2, z10_3, f10_0, f10_1, f10_2, f10_3⟩ := bf4_ BK274.out) | ((with_reducible refine gate_callee (f := 16) rfl ?_); refine goesL_ (some 6) rfl rfl Tryd.func16 (by kernel_rfl) rfl #[.agg #[.int .i64 a0_0, .slice A0_1 l0_1.length c0_1, .slice A0_2 l0_2.length c0_2, .slice A0_3 l0_3.length c0_3]] rfl la_ ?_; (with_reducible refine (spec_IsSystem.calls k a0_0 _ _ l0_1 _ _ l0_2 _ _ l0_3 true _ (kc_ HR0_1.out HB.out) HC0_1.out (kc_ HR0_2.out HB.out) HC0_2.out (kc_ HR0_3.out HB.out) HC0_3.out A3.out).mono ?_); rintro e w11 ⟨rfl, hb⟩; refine ⟨_, rfl, ?_⟩; replace BK274 := sd_ (bb_ BK274.out hb); replace BK275 := sd_ (bb_ BK275.out hb); replace HB := sd_ (below_step (bw2_ HB.out GE274.out GE275.out) hb); (try clear hb); obtain ⟨z12_0, z12_1, z12_2, z12_3, f12_0, f12_1, f12_2, f12_3⟩ := bf4_ BK275.out) | (go_at_call 16; (with_reducible refine (spec_IsSystem.calls k a1_0 _ _ l1_1 _ _ l1_2 _ _ l1_3 true _ (kc_ HR1_1.out HB.out) HC1_1.out (kc_ HR1_2.out HB.out) HC1_2.out (kc_ HR1_3.out HB.out) HC1_3.out A5.out).mono ?_); rintro e w13 ⟨rfl, hb⟩; replace BK274 := sd_ (bb_ BK274.out hb); replace BK275 := sd_ (bb_ BK275.out hb); replace HB := sd_ (below_step (bw2_ HB.out GE274.out GE275.out) hb); (try clear hb); obtain ⟨z14_0, z14_1, z14_2, z14_3, f14_0, f14_1, f14_2, f14_3⟩ := bf4_ BK274.out; obtain ⟨z15_0, z15_1, z15_2, z15_3, f15_0, f15_1, f15_2, f15_3⟩ := bf4_ BK275.out)); go_ret; exact ⟨an_, bw2_ HB.out GE274.out GE275.out⟩
  replace H := if_ H; obtain rfl := Option.some.inj H; go_enter Tryd.func43, Tryd.ntmps43; go_wp2_with (first | ((with_reducible refine gate_dst (N := 2) rfl ?_); refine bx_ (N := 2) (cs := #[.int .i64 a0_0, .slice A0_1 l0_1.length c0_1, .slice A0_2 l0_2.length c0_2, .slice A0_3 l0_3.length c0_3]) (t := 28) ?_; intro gb274 hg w16 hbox hb; have BK274 := sd_ (hbox); have GW274 := sd_ (gs_ hg (bw0_ HB.out)); have GE274 := sd_ (gs_ hg (bw0_ HB.out)); replace HB := sd_ (below_step (bw0_ HB.out) hb); clear hb hbox hg) | ((with_reducible refine gate_dst (N := 3) rfl ?_); refine bx_ (N := 3) (cs := #[.int .i64 a1_0, .slice A1_1 l1_1.length c1_1, .slice A1_2 l1_2.length c1_2, .slice A1_3 l1_3.length c1_3]) (t := 28) ?_; intro gb275 hg w17 hbox hb; have BK275 := sd_ (hbox); have GW275 := sd_ (gs_ hg (bw1_ HB.out GE274.out)); have GE275 := sd_ (gs_ hg (bw1_ HB.out GE274.out)); replace HB := sd_ (below_step (bw1_ HB.out GE274.out) hb); have NB274_275 := sd_ (nl_ hg (bl_ BK274.out)); have NB275_274 := sd_ (ng_ hg (bl_ BK274.out)); replace BK274 := sd_ (bb_ BK274.out hb); clear hb hbox hg; have hnb18 := NB274_275.out; have hnc18 := NB275_274.out; obtain ⟨z19_0, z19_1, z19_2, z19_3, f19_0, f19_1, f19_2, f19_3⟩ := bf4_ BK274.out) | ((with_reducible refine gate_callee (f := 16) rfl ?_); refine goesL_ (some 6) rfl rfl Tryd.func16 (by kernel_rfl) rfl #[.agg #[.int .i64 a0_0, .slice A0_1 l0_1.length c0_1, .slice A0_2 l0_2.length c0_2, .slice A0_3 l0_3.length c0_3]] rfl la_ ?_; (with_reducible refine (spec_IsSystem.calls k a0_0 _ _ l0_1 _ _ l0_2 _ _ l0_3 true _ (kc_ HR0_1.out HB.out) HC0_1.out (kc_ HR0_2.out HB.out) HC0_2.out (kc_ HR0_3.out HB.out) HC0_3.out A3.out).mono ?_); rintro e w20 ⟨rfl, hb⟩; refine ⟨_, rfl, ?_⟩; replace BK274 := sd_ (bb_ BK274.out hb); replace BK275 := sd_ (bb_ BK275.out hb); replace HB := sd_ (below_step (bw2_ HB.out GE274.out GE275.out) hb); (try clear hb); obtain ⟨z21_0, z21_1, z21_2, z21_3, f21_0, f21_1, f21_2, f21_3⟩ := bf4_ BK275.out) | (go_at_call 16; (with_reducible refine (spec_IsSystem.calls k a1_0 _ _ l1_1 _ _ l1_2 _ _ l1_3 false _ (kc_ HR1_1.out HB.out) HC1_1.out (kc_ HR1_2.out HB.out) HC1_2.out (kc_ HR1_3.out HB.out) HC1_3.out A5.out).mono ?_); rintro e w22 ⟨rfl, hb⟩; replace BK274 := sd_ (bb_ BK274.out hb); replace BK275 := sd_ (bb_ BK275.out hb); replace HB := sd_ (below_step (bw2_ HB.out GE274.out GE275.out) hb); (try clear hb))); go_ret; exact ⟨an_, bw2_ HB.out GE274.out GE275.out⟩
 replace H := if_ H; obtain rfl := Option.some.inj H; go_enter Tryd.func43, Tryd.ntmps43; go_wp2_with (first | ((with_reducible refine gate_dst (N := 2) rfl ?_); refine bx_ (N := 2) (cs := #[.int .i64 a0_0, .slice A0_1 l0_1.length c0_1, .slice A0_2 l0_2.length c0_2, .slice A0_3 l0_3.length c0_3]) (t := 28) ?_; intro gb274 hg w23 hbox hb; have BK274 := sd_ (hbox); have GW274 := sd_ (gs_ hg (bw0_ HB.out)); have GE274 := sd_ (gs_ hg (bw0_ HB.out)); replace HB := sd_ (below_step (bw0_ HB.out) hb); clear hb hbox hg) | ((with_reducible refine gate_dst (N := 3) rfl ?_); refine bx_ (N := 3) (cs := #[.int .i64 a1_0, .slice A1_1 l1_1.length c1_1, .slice A1_2 l1_2.length c1_2, .slice A1_3 l1_3.length c1_3]) (t := 28) ?_; intro gb275 hg w24 hbox hb; have BK275 := sd_ (hbox); have GW275 := sd_ (gs_ hg (bw1_ HB.out GE274.out)); have GE275 := sd_ (gs_ hg (bw1_ HB.out GE274.out)); replace HB := sd_ (below_step (bw1_ HB.out GE274.out) hb); have NB274_275 := sd_ (nl_ hg (bl_ BK274.out)); have NB275_274 := sd_ (ng_ hg (bl_ BK274.out)); replace BK274 := sd_ (bb_ BK274.out hb); clear hb hbox hg; have hnb25 := NB274_275.out; have hnc25 := NB275_274.out; obtain ⟨z26_0, z26_1, z26_2, z26_3, f26_0, f26_1, f26_2, f26_3⟩ := bf4_ BK274.out) | ((with_reducible refine gate_callee (f := 16) rfl ?_); refine goesL_ (some 6) rfl rfl Tryd.func16 (by kernel_rfl) rfl #[.agg #[.int .i64 a0_0, .slice A0_1 l0_1.length c0_1, .slice A0_2 l0_2.length c0_2, .slice A0_3 l0_3.length c0_3]] rfl la_ ?_; (with_reducible refine (spec_IsSystem.calls k a0_0 _ _ l0_1 _ _ l0_2 _ _ l0_3 false _ (kc_ HR0_1.out HB.out) HC0_1.out (kc_ HR0_2.out HB.out) HC0_2.out (kc_ HR0_3.out HB.out) HC0_3.out A3.out).mono ?_); rintro e w27 ⟨rfl, hb⟩; refine ⟨_, rfl, ?_⟩; replace BK274 := sd_ (bb_ BK274.out hb); replace BK275 := sd_ (bb_ BK275.out hb); replace HB := sd_ (below_step (bw2_ HB.out GE274.out GE275.out) hb); (try clear hb))); go_ret; exact ⟨an_, bw2_ HB.out GE274.out GE275.out⟩

/-! ### impl_CountSystem_1: function 76 -/
def impl_CountSystem_1.f (a0 : Int) (a1 : Int) (a2_0 : Int) : Option (Bool) := if a0 = a1 then (some true) else (some (a1 == (wrap64 (a2_0 + 1))))
set_option maxHeartbeats 8000000 in
set_option maxRecDepth 100000 in
theorem impl_CountSystem_1.calls (a0 : Int) (a1 : Int) (g2 : Nat) (a2_0 : Int) (r : Bool) (w : World) (hb2 : w.heap[g2]? = some (.cells #[.int .i64 a2_0] 3 (0, 0))) (h : impl_CountSystem_1.f a0 a1 a2_0 = some r) :
  Calls Tryd.prog 76 #[.int .i64 a0, .int .i64 a1, .pointer (some ⟨g2, 0, none⟩)] w fun e w' => e = .returned (.bool r) ∧ Drawn0 w w' := by
 have BK2 := sd_ hb2; clear hb2; have H : (if a0 = a1 then (some true) else (some (a1 == (wrap64 (a2_0 + 1))))) = some r := h; clear h; by_cases c4 : a0 = a1
 ·rw [if_pos c4] at H; have c4b0 : (a0 == a1) = true := beq_iff_eq.mpr c4; have c4b1 : (a0 != a1) = false := bne_eq_false_iff_eq.mpr c4; clear c4; obtain rfl := Option.some.inj H; go_enter Tryd.func76, Tryd.ntmps76; go_wp2; go_ret; exact ⟨by first | rfl | (simp; done) | (simp [*]; done), by repeat (first | exact Drawn0.refl _ | apply Drawn0.step)⟩
 rw [if_neg c4] at H; have c4b0 : (a0 == a1) = false := beq_eq_false_iff_ne.mpr c4; have c4b1 : (a0 != a1) = true := bne_iff_ne.mpr c4; obtain rfl := Option.some.inj H; have z5_0 : w.cell? ⟨g2, 0, none⟩ = some (.int .i64 a2_0) := bk_ BK2 0; have f5_0 := blk_frozen BK2.out 0; go_enter Tryd.func76, Tryd.ntmps76; go_wp2; go_ret; exact ⟨by first | rfl | (simp; done) | (simp [*]; done), by repeat (first | exact Drawn0.refl _ | apply Drawn0.step)⟩

/-! ### impl_LevelSystem_1: function 78 -/
def impl_LevelSystem_1.f (a0 : Int) (a1_0 : Int) : Option (Int) := if a0 = 0 then (some 0) else (some (wrap64 ((wrap64 (a1_0 + 1)) - a0)))
set_option maxHeartbeats 8000000 in
set_option maxRecDepth 100000 in
theorem impl_LevelSystem_1.calls (a0 : Int) (g1 : Nat) (a1_0 : Int) (r : Int) (w : World) (hb1 : w.heap[g1]? = some (.cells #[.int .i64 a1_0] 3 (0, 0))) (h : impl_LevelSystem_1.f a0 a1_0 = some r) :
  Calls Tryd.prog 78 #[.int .i64 a0, .pointer (some ⟨g1, 0, none⟩)] w fun e w' => e = .returned (.int .i64 r) ∧ Drawn0 w w' := by
 have BK1 := sd_ hb1; clear hb1; have H : (if a0 = 0 then (some 0) else (some (wrap64 ((wrap64 (a1_0 + 1)) - a0)))) = some r := h; clear h; by_cases c3 : a0 = 0
 ·rw [if_pos c3] at H; have c3b0 : (a0 == 0) = true := beq_iff_eq.mpr c3; have c3b1 : (a0 != 0) = false := bne_eq_false_iff_eq.mpr c3; clear c3; obtain rfl := Option.some.inj H; go_enter Tryd.func78, Tryd.ntmps78; go_wp2; go_ret; exact ⟨by first | rfl | (simp; done) | (simp [*]; done), by repeat (first | exact Drawn0.refl _ | apply Drawn0.step)⟩
 rw [if_neg c3] at H; have c3b0 : (a0 == 0) = false := beq_eq_false_iff_ne.mpr c3; have c3b1 : (a0 != 0) = true := bne_iff_ne.mpr c3; obtain rfl := Option.some.inj H; have z4_0 : w.cell? ⟨g1, 0, none⟩ = some (.int .i64 a1_0) := bk_ BK1 0; have f4_0 := blk_frozen BK1.out 0; go_enter Tryd.func78, Tryd.ntmps78; go_wp2; go_ret; exact ⟨by first | rfl | (simp; done) | (simp [*]; done), by repeat (first | exact Drawn0.refl _ | apply Drawn0.step)⟩

/-! ### impl_LevelSystem_4: function 81 -/
def impl_LevelSystem_4.f (a0 : Int) (a1 : Int) (x2_0 : (Int → Option (Int))) : Option (Bool) := (x2_0 a0).bind fun t551 => ((x2_0 a1).bind fun t552 => (some (decide (t551 ≤ t552))))
def impl_LevelSystem_4.T1 : Bool × List (List Nat × List Nat) := (true, [([], []), ([], []), ([0, 1], [0, 1]), ([], []), ([], []), ([3, 4, 2], [3, 4]), ([2, 5], [2, 5]), ([6, 5, 0, 1, 2, 3, 4, 5, 6], [6])])
def impl_LevelSystem_4.B1 : List Nat := [0, 0, 3, 0, 0, 31, 63, 127]
theorem impl_LevelSystem_4.tab1 : rtab .any (opsOf Tryd.f81 1) = impl_LevelSystem_4.T1 := by kernel_rfl
theorem impl_LevelSystem_4.bits1 : waitsOk impl_LevelSystem_4.T1.2 impl_LevelSystem_4.B1 = true := by kernel_rfl
set_option maxHeartbeats 8000000 in
set_option maxRecDepth 100000 in
theorem impl_LevelSystem_4.calls (a0 : Int) (a1 : Int) (g2 : Nat) (x2_0 : (Int → Option (Int))) (K2_0_ : Nat) (F2_0_ C2_0_ : Array Value) (r : Bool) (w : World) (hG2_0 : OFn K2_0_) (hF2_0 : OC71 w x2_0 K2_0_ F2_0_ C2_0_) (hb2 : w.heap[g2]? = some (.cells #[.func (.func K2_0_) F2_0_ C2_0_] 71 (0, 0))) (h : impl_LevelSystem_4.f a0 a1 x2_0 = some r) :
  Calls Tryd.prog 81 #[.int .i64 a0, .int .i64 a1, .pointer (some ⟨g2, 0, none⟩)] w fun e w' => e = .returned (.bool r) ∧ Below w.heap.size w w' := by
 have HG2_0 := sd_ hG2_0; have HF2_0 := sd_ hF2_0; clear hG2_0 hF2_0; have BK2 := sd_ hb2; clear hb2; have HB := sd_ (Below.refl w.heap.size w); have H : ((x2_0 a0).bind fun t551 => ((x2_0 a1).bind fun t552 => (some (decide (t551 ≤ t552))))) = some r := h; clear h
 revert H; refine ob_ fun t551 A4 H => ?_
 revert H; refine ob_ fun t552 A5 H => ?_
 obtain rfl := Option.some.inj H; go_enter Tryd.func81, Tryd.ntmps81
 try go_wp2
 replace BK2 := sd_ (blk_drew BK2.out); replace HB := sd_ (below_drew1 HB.out); refine start_ (n := 8) (S := fun w' => w'.cell? ⟨g2, 0, none⟩ = some (.func (.func K2_0_) F2_0_ C2_0_)) (ds := []) #[false, false, false, false, false, false, false, false] (by kernel_rfl) rfl rfl (bk_ BK2 0) (fun hHeld => ?_); refine with_tabW impl_LevelSystem_4.tab1 impl_LevelSystem_4.bits1 (fun HT_ HW_ => ?_); generalize w.drew = w6 at BK2 HB hHeld ⊢; refine pv_ 1 rfl rfl (any_of HT_.out (by kernel_rfl)) ?_; refine pv_ 4 rfl rfl (any_of HT_.out (by kernel_rfl)) ?_; refine take_ (i := 0) (N := some 6) (v := ?_) (a' := ?_) #[true, true, false, false, true, false, false, false] rfl rfl (take_ofW HT_.out HW_.out (by kernel_rfl)) (fun _ _ _ h => h) (Or.inl ⟨by rfl, ?_⟩) hHeld ?_ ?_; rotate_left
 ·intro w' s0; go_simp
  with_reducible rfl
 rotate_left
 ·simp only [Act.put, List.setIfInBounds_toArray, List.set_cons_zero, List.set_cons_succ, i64_w, i32_w]; rfl
 refine take_ (i := 3) (N := some 9) (v := ?_) (a' := ?_) #[true, true, false, true, true, false, false, false] rfl rfl (take_ofW HT_.out HW_.out (by kernel_rfl)) (fun _ _ _ h => h) (Or.inl ⟨by rfl, ?_⟩) hHeld ?_ ?_; rotate_left
 ·intro w' s0; go_simp
  with_reducible rfl
 rotate_left
 ·simp only [Act.put, List.setIfInBounds_toArray, List.set_cons_zero, List.set_cons_succ, i64_w, i32_w]; rfl
 refine on_ 2 rfl rfl (one_of HT_.out (by kernel_rfl)) fun K hK => ?_
 refine goesO_ HG2_0.out #[.int .i64 a0] (by rfl) rfl rfl la_ rfl ?_
 with_reducible refine (HF2_0.out a0 t551 _ ?side1 A4.out).mono ?_
 (case side1 => exact (bw0_ HB.out)); rintro e w7 ⟨rfl, hb⟩; refine ⟨_, rfl, ?_⟩; replace BK2 := sd_ (bb_ BK2.out hb); replace HB := sd_ (below_step (bw0_ HB.out) hb); (try clear hb); (try clear hb2); (try clear hk); (try clear hi); refine hK.out _ _ (bk_ BK2 0) (fun hHeld => ?_); clear hK K; refine nm_ ?_
 refine on_ 5 rfl rfl (one_of HT_.out (by kernel_rfl)) fun K hK => ?_
 refine goesO_ HG2_0.out #[.int .i64 a1] (by rfl) rfl rfl la_ rfl ?_
 with_reducible refine (HF2_0.out a1 t552 _ ?side1 A5.out).mono ?_
 (case side1 => exact (bw0_ HB.out)); rintro e w8 ⟨rfl, hb⟩; refine ⟨_, rfl, ?_⟩; replace BK2 := sd_ (bb_ BK2.out hb); replace HB := sd_ (below_step (bw0_ HB.out) hb); (try clear hb); (try clear hb2); (try clear hk); (try clear hi); refine hK.out _ _ (bk_ BK2 0) (fun hHeld => ?_); clear hK K; refine nm_ ?_; refine pv_ 6 rfl rfl (any_of HT_.out (by kernel_rfl)) ?_; refine pv_ 7 rfl rfl (any_of HT_.out (by kernel_rfl)) ?_; refine done_ (done_of HT_.out (by kernel_rfl)) ?_
 try go_wp2
 go_ret; exact ⟨an_, bw0_ HB.out⟩

end Go.Proofs.YtmcepfimcedocaaDoor.P
end
