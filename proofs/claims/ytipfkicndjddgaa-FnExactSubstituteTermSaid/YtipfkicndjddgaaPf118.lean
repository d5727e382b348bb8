-- Printed by this session's own program (wip/tools/mkprint.py) out of the translation. Not trusted: Lean checks it.
import Derived.Test.YtipfkicndjddgaaP0
import Derived.Test.YtipfkicndjddgaaM2
import Derived.Test.YtipfkicndjddgaaM8
import Derived.Test.YtipfkicndjddgaaM5
import Derived.Laws.EntriesVeiled
/-! short words -/
namespace Go.Proofs.Ytipfkicndjddgaa.P
open Go.RowKit Go.Proofs.YtipfkicndjddgaaW.PrintWords Go.Proofs.YtipfkicndjddgaaW.PrintLast Go.Proofs.YtipfkicndjddgaaW.PrintMore
attribute [local go_sem] max2_int min2_int max_two min_two max_three min_three max_four min_four   -- for this text's walks alone
set_option linter.unusedVariables false
set_option linter.unusedSimpArgs false

/-! ### impl_check: function 118 -/
mutual
def impl_check.j0 : Nat → Int → (Int → Option (Bool)) → ((List Int) → Option (Bool)) → Int → Bool → Int → Int → List Int → List (S40) → ByteArray → Int → Bool → Bool → Option (Int)
 | 0, _, _, _, _, _, _, _, _, _, _, _, _, _ => none
 | k + 1, x1, x2, x3, x4, x36, x275000, x275001, x275002, x275003, x281000, x281001, x281002, x281003 => if x36 = true then (some 401) else (if x275000 = 0 then ((impl_within.f x275001 0 (wrap64 (x1 - 1))).bind fun t281 => (impl_check.j1 k x1 x2 x3 x4 t281 x275000 x275001 x275002 x275003 x281000 x281001 x281002 x281003)) else (if x275000 = 1 then ((impl_within.f x275001 0 2).bind fun t282 => (impl_check.j1 k x1 x2 x3 x4 t282 x275000 x275001 x275002 x275003 x281000 x281001 x281002 x281003)) else (if x281002 = true then ((x2 x275001).bind fun t283 => (impl_check.j1 k x1 x2 x3 x4 t283 x275000 x275001 x275002 x275003 x281000 x281001 x281002 x281003)) else (impl_check.j1 k x1 x2 x3 x4 (x275001 == 0) x275000 x275001 x275002 x275003 x281000 x281001 x281002 x281003))))
def impl_check.j1 : Nat → Int → (Int → Option (Bool)) → ((List Int) → Option (Bool)) → Int → Bool → Int → Int → List Int → List (S40) → ByteArray → Int → Bool → Bool → Option (Int)
 | 0, _, _, _, _, _, _, _, _, _, _, _, _, _ => none
 | k + 1, x1, x2, x3, x4, x12, x275000, x275001, x275002, x275003, x281000, x281001, x281002, x281003 => if x281003 = true then (if x12 = true then ((x3 x275002).bind fun t284 => (impl_check.j2 k x1 x2 x3 x4 t284 x275000 x275001 x275002 x275003)) else (impl_check.j2 k x1 x2 x3 x4 false x275000 x275001 x275002 x275003)) else (if x12 = true then (impl_check.j2 k x1 x2 x3 x4 ((x275002.length : Int) == 0) x275000 x275001 x275002 x275003) else (impl_check.j2 k x1 x2 x3 x4 false x275000 x275001 x275002 x275003))
def impl_check.j2 : Nat → Int → (Int → Option (Bool)) → ((List Int) → Option (Bool)) → Int → Bool → Int → Int → List Int → List (S40) → Option (Int)
 | 0, _, _, _, _, _, _, _, _, _ => none
 | k + 1, x1, x2, x3, x4, x12, x275000, x275001, x275002, x275003 => if x12 = true then (impl_check.l0 k x1 x2 x3 x4 x275003 (x275003.length : Int) 0 x275000 x275001 x275002 x275003) else (some 401)
def impl_check.l0 : Nat → Int → (Int → Option (Bool)) → ((List Int) → Option (Bool)) → Int → List (S40) → Int → Int → Int → Int → List Int → List (S40) → Option (Int)
 | 0, _, _, _, _, _, _, _, _, _, _, _ => none
 | k + 1, x1, x2, x3, x4, x82, x83, x84, x275000, x275001, x275002, x275003 => if x84 < x83 then (if 0 ≤ x84 then (if x84 < (x82.length : Int) then ((impl_adds.f k x275000 x84).bind fun t287 => ((impl_check.f k ((rd_T40 x82 x84).f0) ((rd_T40 x82 x84).f1) ((rd_T40 x82 x84).f2) ((rd_T40 x82 x84).f3) (wrap64 (x1 + t287)) x2 x3 x4).bind fun t288 => (if t288 > 400 then (some 401) else (impl_check.l0 k x1 x2 x3 t288 x82 x83 (wrap64 (x84 + 1)) x275000 x275001 x275002 x275003)))) else (none)) else (none)) else (some x4)
def impl_check.f : Nat → Int → Int → List Int → List (S40) → Int → (Int → Option (Bool)) → ((List Int) → Option (Bool)) → Int → Option (Int)
 | 0, _, _, _, _, _, _, _, _ => none
 | k + 1, a0_0, a0_1, l0_2, l0_3, a1, x2, x3, a4 => (impl_formOf.f a0_0).bind fun bt275 => (if bt275.2.2.2.2 = true then (if (wrap64 (a4 + 1)) > 400 then (impl_check.j0 k a1 x2 x3 (wrap64 (a4 + 1)) true a0_0 a0_1 l0_2 l0_3 bt275.1 bt275.2.1 bt275.2.2.1 bt275.2.2.2.1) else (impl_check.j0 k a1 x2 x3 (wrap64 (a4 + 1)) ((l0_3.length : Int) != bt275.2.1) a0_0 a0_1 l0_2 l0_3 bt275.1 bt275.2.1 bt275.2.2.1 bt275.2.2.2.1)) else (impl_check.j0 k a1 x2 x3 (wrap64 (a4 + 1)) true a0_0 a0_1 l0_2 l0_3 bt275.1 bt275.2.1 bt275.2.2.1 bt275.2.2.2.1))
end
set_option maxHeartbeats 8000000 in
set_option maxRecDepth 100000 in
theorem impl_check.calls (k : Nat) : ∀ (a0_0 : Int) (a0_1 : Int) (A0_2 : Option Addr) (c0_2 : Nat) (l0_2 : List Int) (A0_3 : Option Addr) (c0_3 : Nat) (l0_3 : List (S40)) (a1 : Int) (x2 : (Int → Option (Bool))) (K2_ : Nat) (F2_ C2_ : Array Value) (x3 : ((List Int) → Option (Bool))) (K3_ : Nat) (F3_ C3_ : Array Value) (a4 : Int) (r : Int) (w : World) (hr0_2 : Kd.C (Kd.int .i64) w A0_2 l0_2.length l0_2) (hc0_2 : l0_2.length ≤ c0_2) (hr0_3 : Kd.C k40 w A0_3 l0_3.length l0_3) (hc0_3 : l0_3.length ≤ c0_3) (hG2 : OFn K2_) (hF2 : OC88 w x2 K2_ F2_ C2_) (hG3 : OFn K3_) (hF3 : OC105 w x3 K3_ F3_ C3_) (h : impl_check.f k a0_0 a0_1 l0_2 l0_3 a1 x2 x3 a4 = some r),
  Calls Try.prog 118 #[.agg #[.int .i64 a0_0, .int .i64 a0_1, .slice A0_2 l0_2.length c0_2, .slice A0_3 l0_3.length c0_3], .int .i64 a1, .func (.func K2_) F2_ C2_, .func (.func K3_) F3_ C3_, .int .i64 a4] w fun e w' => e = .returned (.int .i64 r) ∧ Below w.heap.size w w' := by
 induction k using Nat.strongRecOn with
 | _ k ih =>
 intro a0_0 a0_1 A0_2 c0_2 l0_2 A0_3 c0_3 l0_3 a1 x2 K2_ F2_ C2_ x3 K3_ F3_ C3_ a4 r w hr0_2 hc0_2 hr0_3 hc0_3 hG2 hF2 hG3 hF3 h
 cases k with
 | zero => exact absurd h (by simp [impl_check.f])
 | succ k =>
 simp only [impl_check.f] at h
 have hu40 := Try.underlying40
 have hu93 := Try.underlying93
 have HR0_2 := sd_ hr0_2
 have HC0_2 := sd_ hc0_2
 clear hr0_2 hc0_2
 have HR0_3 := sd_ hr0_3
 have HC0_3 := sd_ hc0_3
 clear hr0_3 hc0_3
 have HG2 := sd_ hG2
 have hcf2 := fun (xs : Array Value) (w : World) => OFn.run HG2.out xs w
 have HF2 := sd_ hF2
 clear hG2 hF2
 have HG3 := sd_ hG3
 have hcf3 := fun (xs : Array Value) (w : World) => OFn.run HG3.out xs w
 have HF3 := sd_ hF3
 clear hG3 hF3
 have HB := sd_ (Below.refl w.heap.size w)
 have H : ((impl_formOf.f a0_0).bind fun bt275 => (if bt275.2.2.2.2 = true then (if (wrap64 (a4 + 1)) > 400 then (impl_check.j0 k a1 x2 x3 (wrap64 (a4 + 1)) true a0_0 a0_1 l0_2 l0_3 bt275.1 bt275.2.1 bt275.2.2.1 bt275.2.2.2.1) else (impl_check.j0 k a1 x2 x3 (wrap64 (a4 + 1)) ((l0_3.length : Int) != bt275.2.1) a0_0 a0_1 l0_2 l0_3 bt275.1 bt275.2.1 bt275.2.2.1 bt275.2.2.2.1)) else (impl_check.j0 k a1 x2 x3 (wrap64 (a4 + 1)) true a0_0 a0_1 l0_2 l0_3 bt275.1 bt275.2.1 bt275.2.2.1 bt275.2.2.2.1))) = some r := h
 clear h
 replace H := Option.bind_eq_some_iff.mp H
 obtain ⟨⟨t275, t276, t277, t278, t279⟩, A60, H⟩ := H
 try dsimp only at H
 have A6 := sd_ A60
 clear A60
 have HC7 := sd_ H
 clear H
 go_enter Try.func118, Try.ntmps118
 go_upto_region 3 with (first | ((with_reducible refine gate_dst (N := 5) rfl ?_); (try (refine gate_guard (by rfl) ?_; dsimp only)); refine bx_ (N := 5) (cs := #[.int .i64 a0_0, .int .i64 a0_1, .slice A0_2 l0_2.length c0_2, .slice A0_3 l0_3.length c0_3]) (t := 40) ?_; intro gb274 hg w8 hbox hb; have BK274 := sd_ (hbox); have GW274 := sd_ (gs_ hg (bw0_ HB.out)); have GE274 := sd_ (gs_ hg (bw0_ HB.out)); replace HB := sd_ (below_step (bw0_ HB.out) hb); clear hb hbox hg; obtain ⟨hcz9_0, hcz9_1, hcz9_2, hcz9_3, hfz9_0, hfz9_1, hfz9_2, hfz9_3⟩ := bf4_ BK274.out) | ((with_reducible refine gate_callee (f := 89) rfl ?_); refine goesL_ (some 20) rfl rfl Try.func89 (by kernel_rfl) rfl #[.int .i64 a0_0] rfl la_ ?_; (with_reducible refine (impl_formOf.calls a0_0 t275 t276 t277 t278 t279 _ A6.out).mono ?_); rintro e w10 ⟨rfl, hb⟩; refine ⟨_, rfl, ?_⟩; replace BK274 := sd_ (bb_ BK274.out hb); replace HB := sd_ (below_step (bw1_ HB.out GE274.out) hb); (try clear hb)) | ((with_reducible refine gate_dst (N := 11) rfl ?_); (try (refine gate_guard (by rfl) ?_; dsimp only)); refine bx_ (N := 11) (cs := #[.string (⟨#[]⟩ : ByteArray), .int .i64 0, .bool false, .bool false]) (t := 93) ?_; intro gb280 hg w11 hbox hb; have BK280 := sd_ (hbox); have GW280 := sd_ (gs_ hg (bw1_ HB.out GE274.out)); have GE280 := sd_ (gs_ hg (bw1_ HB.out GE274.out)); replace HB := sd_ (below_step (bw1_ HB.out GE274.out) hb); have NB274_280 := sd_ (nl_ hg (bl_ BK274.out)); have NB280_274 := sd_ (ng_ hg (bl_ BK274.out)); replace BK274 := sd_ (bb_ BK274.out hb); clear hb hbox hg; have hnb12 := NB280_274.out; have hnc12 := NB274_280.out; obtain ⟨hcz13_0, hcz13_1, hcz13_2, hcz13_3, hfz13_0, hfz13_1, hfz13_2, hfz13_3⟩ := bf4_ BK280.out))
 (try simp only [Act.put, List.setIfInBounds_toArray, List.set_cons_zero, List.set_cons_succ])
 go_cut [36] (fun v36 wc => ∃ (kq : Nat) (x36_6 : Bool), v36 = .bool x36_6 ∧ Aside0 (impl_check.j0 kq a1 x2 x3 (wrap64 (a4 + 1)) x36_6 a0_0 a0_1 l0_2 l0_3 t275 t276 t277 t278 = some r) ∧ Aside0 (kq ≤ k) ∧ Aside0 (wc.heap[gb274]? = some (.cells #[.int .i64 a0_0, .int .i64 a0_1, (.slice A0_2 l0_2.length c0_2), (.slice A0_3 l0_3.length c0_3)] 40 (0, 0))) ∧ Aside0 (wc.heap[gb280]? = some (.cells #[.string t275, .int .i64 t276, .bool t277, .bool t278] 93 (0, 0))) ∧ Aside0 (Below w.heap.size w wc))
 case first =>
  have H := HC7.out
  clear HC7
  by_cases c14 : t279 = true
  ·subst c14
   have H1 : (if (wrap64 (a4 + 1)) > 400 then (impl_check.j0 k a1 x2 x3 (wrap64 (a4 + 1)) true a0_0 a0_1 l0_2 l0_3 t275 t276 t277 t278) else (impl_check.j0 k a1 x2 x3 (wrap64 (a4 + 1)) ((l0_3.length : Int) != t276) a0_0 a0_1 l0_2 l0_3 t275 t276 t277 t278)) = some r := by rw [if_pos rfl] at H; exact H
   clear H
   have H := H1
   clear H1
   by_cases c15 : (wrap64 (a4 + 1)) > 400
   ·rw [if_pos c15] at H
    have c15b0 : decide (400 < (wrap64 (a4 + 1))) = true := decide_eq_true c15
    clear c15
    (first | rw [c15b0] | (simp only [i64_w, i32_w]; rw [c15b0]) | skip)
    have H' := sd_ H
    clear H
    go_wp2
    go_meet
    case rel => exact ⟨_, (true), sm_, H', ⟨by first | omega | exact Nat.le_refl _⟩, ⟨by (with_reducible repeat (first | refine blk_drewN ?_ _ | refine blk_drew ?_ | refine blk_alloc ?_ _)); refine blk_far ?_ NB274_280.out _; (with_reducible repeat (first | refine blk_drewN ?_ _ | refine blk_drew ?_ | refine blk_alloc ?_ _)); refine blk_far ?_ NB274_280.out _; (with_reducible repeat (first | refine blk_drewN ?_ _ | refine blk_drew ?_ | refine blk_alloc ?_ _)); refine blk_far ?_ NB274_280.out _; (with_reducible repeat (first | refine blk_drewN ?_ _ | refine blk_drew ?_ | refine blk_alloc ?_ _)); refine blk_far ?_ NB274_280.out _; (with_reducible repeat (first | refine blk_drewN ?_ _ | refine blk_drew ?_ | refine blk_alloc ?_ _)); exact BK274.out⟩, ⟨by (with_reducible repeat (first | refine blk_drewN ?_ _ | refine blk_drew ?_ | refine blk_alloc ?_ _)); refine blk_put (cs := #[.string t275, .int .i64 t276, .bool t277, .bool false]) ?_ 3 _ rfl; (with_reducible repeat (first | refine blk_drewN ?_ _ | refine blk_drew ?_ | refine blk_alloc ?_ _)); refine blk_put (cs := #[.string t275, .int .i64 t276, .bool false, .bool false]) ?_ 2 _ rfl; (with_reducible repeat (first | refine blk_drewN ?_ _ | refine blk_drew ?_ | refine blk_alloc ?_ _)); refine blk_put (cs := #[.string t275, .int .i64 0, .bool false, .bool false]) ?_ 1 _ rfl; (with_reducible repeat (first | refine blk_drewN ?_ _ | refine blk_drew ?_ | refine blk_alloc ?_ _)); refine blk_put (cs := #[.string (⟨#[]⟩ : ByteArray), .int .i64 0, .bool false, .bool false]) ?_ 0 _ rfl; exact bz_ BK280.out⟩, ⟨bw2_ HB.out GE274.out GE280.out⟩⟩
   rw [if_neg c15] at H
   have c15b0 : decide (400 < (wrap64 (a4 + 1))) = false := decide_eq_false c15
   clear c15
   (first | rw [c15b0] | (simp only [i64_w, i32_w]; rw [c15b0]) | skip)
   have H' := sd_ H
   clear H
   have hnb16 := NB274_280.out
   have hnc16 := NB280_274.out
   obtain ⟨hcz17_0, hcz17_1, hcz17_2, hcz17_3, hfz17_0, hfz17_1, hfz17_2, hfz17_3⟩ := bf4_ BK274.out
   obtain ⟨hcz18_0, hcz18_1, hcz18_2, hcz18_3, hfz18_0, hfz18_1, hfz18_2, hfz18_3⟩ := bf4_ BK280.out
   go_wp2
   go_meet
   case rel => exact ⟨_, (((l0_3.length : Int) != t276)), sm_, H', ⟨by first | omega | exact Nat.le_refl _⟩, ⟨by (with_reducible repeat (first | refine blk_drewN ?_ _ | refine blk_drew ?_ | refine blk_alloc ?_ _)); refine blk_far ?_ NB274_280.out _; (with_reducible repeat (first | refine blk_drewN ?_ _ | refine blk_drew ?_ | refine blk_alloc ?_ _)); refine blk_far ?_ NB274_280.out _; (with_reducible repeat (first | refine blk_drewN ?_ _ | refine blk_drew ?_ | refine blk_alloc ?_ _)); refine blk_far ?_ NB274_280.out _; (with_reducible repeat (first | refine blk_drewN ?_ _ | refine blk_drew ?_ | refine blk_alloc ?_ _)); refine blk_far ?_ NB274_280.out _; (with_reducible repeat (first | refine blk_drewN ?_ _ | refine blk_drew ?_ | refine blk_alloc ?_ _)); exact BK274.out⟩, ⟨by (with_reducible repeat (first | refine blk_drewN ?_ _ | refine blk_drew ?_ | refine blk_alloc ?_ _)); refine blk_put (cs := #[.string t275, .int .i64 t276, .bool t277, .bool false]) ?_ 3 _ rfl; (with_reducible repeat (first | refine blk_drewN ?_ _ | refine blk_drew ?_ | refine blk_alloc ?_ _)); refine blk_put (cs := #[.string t275, .int .i64 t276, .bool false, .bool false]) ?_ 2 _ rfl; (with_reducible repeat (first | refine blk_drewN ?_ _ | refine blk_drew ?_ | refine blk_alloc ?_ _)); refine blk_put (cs := #[.string t275, .int .i64 0, .bool false, .bool false]) ?_ 1 _ rfl; (with_reducible repeat (first | refine blk_drewN ?_ _ | refine blk_drew ?_ | refine blk_alloc ?_ _)); refine blk_put (cs := #[.string (⟨#[]⟩ : ByteArray), .int .i64 0, .bool false, .bool false]) ?_ 0 _ rfl; exact bz_ BK280.out⟩, ⟨bw2_ HB.out GE274.out GE280.out⟩⟩
  replace c14 := Bool.eq_false_iff.mpr c14
  subst c14
  have H1 : (impl_check.j0 k a1 x2 x3 (wrap64 (a4 + 1)) true a0_0 a0_1 l0_2 l0_3 t275 t276 t277 t278) = some r := by rw [if_neg (show ¬ (false = true) by decide)] at H; exact H
  clear H
  have H := H1
  clear H1
  have H' := sd_ H
  clear H
  go_wp2
  go_meet
  case rel => exact ⟨_, (true), sm_, H', ⟨by first | omega | exact Nat.le_refl _⟩, ⟨by (with_reducible repeat (first | refine blk_drewN ?_ _ | refine blk_drew ?_ | refine blk_alloc ?_ _)); refine blk_far ?_ NB274_280.out _; (with_reducible repeat (first | refine blk_drewN ?_ _ | refine blk_drew ?_ | refine blk_alloc ?_ _)); refine blk_far ?_ NB274_280.out _; (with_reducible repeat (first | refine blk_drewN ?_ _ | refine blk_drew ?_ | refine blk_alloc ?_ _)); refine blk_far ?_ NB274_280.out _; (with_reducible repeat (first | refine blk_drewN ?_ _ | refine blk_drew ?_ | refine blk_alloc ?_ _)); refine blk_far ?_ NB274_280.out _; (with_reducible repeat (first | refine blk_drewN ?_ _ | refine blk_drew ?_ | refine blk_alloc ?_ _)); exact BK274.out⟩, ⟨by (with_reducible repeat (first | refine blk_drewN ?_ _ | refine blk_drew ?_ | refine blk_alloc ?_ _)); refine blk_put (cs := #[.string t275, .int .i64 t276, .bool t277, .bool false]) ?_ 3 _ rfl; (with_reducible repeat (first | refine blk_drewN ?_ _ | refine blk_drew ?_ | refine blk_alloc ?_ _)); refine blk_put (cs := #[.string t275, .int .i64 t276, .bool false, .bool false]) ?_ 2 _ rfl; (with_reducible repeat (first | refine blk_drewN ?_ _ | refine blk_drew ?_ | refine blk_alloc ?_ _)); refine blk_put (cs := #[.string t275, .int .i64 0, .bool false, .bool false]) ?_ 1 _ rfl; (with_reducible repeat (first | refine blk_drewN ?_ _ | refine blk_drew ?_ | refine blk_alloc ?_ _)); refine blk_put (cs := #[.string (⟨#[]⟩ : ByteArray), .int .i64 0, .bool false, .bool false]) ?_ 0 _ rfl; exact bz_ BK280.out⟩, ⟨bw2_ HB.out GE274.out GE280.out⟩⟩
 case rest =>
  clear HC7
  try clear c1
  try clear p6
  try clear c8
  try clear c11
  try clear c12
  try clear hcz13_0
  try clear hcz13_1
  try clear hcz13_2
  try clear hcz13_3
  try clear hcz9_0
  try clear hcz9_1
  try clear hcz9_2
  try clear hcz9_3
  try clear hfz13_0
  try clear hfz13_1
  try clear hfz13_2
  try clear hfz13_3
  try clear hfz9_0
  try clear hfz9_1
  try clear hfz9_2
  try clear hfz9_3
  obtain ⟨kq, x36_6, rfl, HA, HJ6, BK274, BK280, HB⟩ := hcut
  cases kq with
  | zero => exact absurd HA.out (by simp [impl_check.j0])
  | succ kj6 =>
   have H := HA.out
   clear HA
   simp only [impl_check.j0] at H
   by_cases c19 : x36_6 = true
   ·subst c19
    have H1 : (some 401) = some r := by rw [if_pos rfl] at H; exact H
    clear H
    have H := H1
    clear H1
    obtain rfl := Option.some.inj H
    go_wp2
    go_ret
    exact ⟨an_, bw2_ HB.out GE274.out GE280.out⟩
   replace c19 := Bool.eq_false_iff.mpr c19
   subst c19
   have H1 : (if a0_0 = 0 then ((impl_within.f a0_1 0 (wrap64 (a1 - 1))).bind fun t281 => (impl_check.j1 kj6 a1 x2 x3 (wrap64 (a4 + 1)) t281 a0_0 a0_1 l0_2 l0_3 t275 t276 t277 t278)) else (if a0_0 = 1 then ((impl_within.f a0_1 0 2).bind fun t282 => (impl_check.j1 kj6 a1 x2 x3 (wrap64 (a4 + 1)) t282 a0_0 a0_1 l0_2 l0_3 t275 t276 t277 t278)) else (if t277 = true then ((x2 a0_1).bind fun t283 => (impl_check.j1 kj6 a1 x2 x3 (wrap64 (a4 + 1)) t283 a0_0 a0_1 l0_2 l0_3 t275 t276 t277 t278)) else (impl_check.j1 kj6 a1 x2 x3 (wrap64 (a4 + 1)) (a0_1 == 0) a0_0 a0_1 l0_2 l0_3 t275 t276 t277 t278)))) = some r := by rw [if_neg (show ¬ (false = true) by decide)] at H; exact H
   clear H
   have H := H1
   clear H1
   have HC20 := sd_ H
   clear H
   go_upto_block 0 with (fail)
   go_cut [12] (fun v12 wc => ∃ (kq : Nat) (x12_19 : Bool), v12 = .bool x12_19 ∧ Aside0 (impl_check.j1 kq a1 x2 x3 (wrap64 (a4 + 1)) x12_19 a0_0 a0_1 l0_2 l0_3 t275 t276 t277 t278 = some r) ∧ Aside0 (kq ≤ kj6) ∧ Aside0 (wc.heap[gb274]? = some (.cells #[.int .i64 a0_0, .int .i64 a0_1, (.slice A0_2 l0_2.length c0_2), (.slice A0_3 l0_3.length c0_3)] 40 (0, 0))) ∧ Aside0 (wc.heap[gb280]? = some (.cells #[.string t275, .int .i64 t276, .bool t277, .bool t278] 93 (0, 0))) ∧ Aside0 (Below w.heap.size w wc))
   case first =>
    have H := HC20.out
    clear HC20
    by_cases c21 : a0_0 = 0
    ·rw [if_pos c21] at H
     have c21b0 : (a0_0 == 0) = true := beq_iff_eq.mpr c21
     have c21b1 : (a0_0 != 0) = false := bne_eq_false_iff_eq.mpr c21
     clear c21
     (first | rw [c21b0] | (simp only [i64_w, i32_w]; rw [c21b0]) | skip)
     replace H := Option.bind_eq_some_iff.mp H
     obtain ⟨t281, A220, H⟩ := H
     try dsimp only at H
     have A22 := sd_ A220
     clear A220
     have H' := sd_ H
     clear H
     have hnb23 := NB274_280.out
     have hnc23 := NB280_274.out
     obtain ⟨hcz24_0, hcz24_1, hcz24_2, hcz24_3, hfz24_0, hfz24_1, hfz24_2, hfz24_3⟩ := bf4_ BK274.out
     go_wp2_with (first | ((with_reducible refine gate_callee (f := 104) rfl ?_); refine goesL_ (some 48) rfl rfl Try.func104 (by kernel_rfl) rfl #[.int .i64 a0_1, .int .i64 0, .int .i64 (wrap64 (a1 - 1))] rfl la_ ?_; (with_reducible refine (impl_within.calls a0_1 0 (wrap64 (a1 - 1)) t281 _ A22.out).mono ?_); rintro e w' ⟨rfl, ⟨nd, rfl⟩⟩; refine ⟨_, rfl, ?_⟩))
     go_meet
     case rel => exact ⟨_, (t281), sm_, H', ⟨by have := HJ6.out; first | omega | exact Nat.le_refl _⟩, ⟨by exact bz_ BK274.out⟩, ⟨by exact bz_ BK280.out⟩, ⟨bw2_ HB.out GE274.out GE280.out⟩⟩
    rw [if_neg c21] at H
    have c21b0 : (a0_0 == 0) = false := beq_eq_false_iff_ne.mpr c21
    have c21b1 : (a0_0 != 0) = true := bne_iff_ne.mpr c21
    (first | rw [c21b0] | (simp only [i64_w, i32_w]; rw [c21b0]) | skip)
    by_cases c25 : a0_0 = 1
    ·rw [if_pos c25] at H
     have c25b0 : (a0_0 == 1) = true := beq_iff_eq.mpr c25
     have c25b1 : (a0_0 != 1) = false := bne_eq_false_iff_eq.mpr c25
     clear c25
     replace H := Option.bind_eq_some_iff.mp H
     obtain ⟨t282, A260, H⟩ := H
     try dsimp only at H
     have A26 := sd_ A260
     clear A260
     have H' := sd_ H
     clear H
     have hnb27 := NB274_280.out
     have hnc27 := NB280_274.out
     obtain ⟨hcz28_0, hcz28_1, hcz28_2, hcz28_3, hfz28_0, hfz28_1, hfz28_2, hfz28_3⟩ := bf4_ BK274.out
     go_wp2_with (first | ((with_reducible refine gate_callee (f := 104) rfl ?_); refine goesL_ (some 55) rfl rfl Try.func104 (by kernel_rfl) rfl #[.int .i64 a0_1, .int .i64 0, .int .i64 2] rfl la_ ?_; (with_reducible refine (impl_within.calls a0_1 0 2 t282 _ A26.out).mono ?_); rintro e w' ⟨rfl, ⟨nd, rfl⟩⟩; refine ⟨_, rfl, ?_⟩))
     go_meet
     case rel => exact ⟨_, (t282), sm_, H', ⟨by have := HJ6.out; first | omega | exact Nat.le_refl _⟩, ⟨by exact bz_ BK274.out⟩, ⟨by exact bz_ BK280.out⟩, ⟨bw2_ HB.out GE274.out GE280.out⟩⟩
    rw [if_neg c25] at H
    have c25b0 : (a0_0 == 1) = false := beq_eq_false_iff_ne.mpr c25
    have c25b1 : (a0_0 != 1) = true := bne_iff_ne.mpr c25
    by_cases c29 : t277 = true
    ·subst c29
     have H1 : ((x2 a0_1).bind fun t283 => (impl_check.j1 kj6 a1 x2 x3 (wrap64 (a4 + 1)) t283 a0_0 a0_1 l0_2 l0_3 t275 t276 true t278)) = some r := by rw [if_pos rfl] at H; exact H
     clear H
     have H := H1
     clear H1
     replace H := Option.bind_eq_some_iff.mp H
     obtain ⟨t283, A300, H⟩ := H
     try dsimp only at H
     have A30 := sd_ A300
     clear A300
     have H' := sd_ H
     clear H
     have hnb31 := NB274_280.out
     have hnc31 := NB280_274.out
     obtain ⟨hcz32_0, hcz32_1, hcz32_2, hcz32_3, hfz32_0, hfz32_1, hfz32_2, hfz32_3⟩ := bf4_ BK274.out
     obtain ⟨hcz33_0, hcz33_1, hcz33_2, hcz33_3, hfz33_0, hfz33_1, hfz33_2, hfz33_3⟩ := bf4_ BK280.out
     go_wp2_with (first | ((with_reducible refine gate_calleeO (t := 59) rfl ?_); refine goesOL_ (some 62) rfl rfl HG2.out #[.int .i64 a0_1] rfl la_ rfl ?_; (with_reducible refine (HF2.out a0_1 t283 _ ?side1 A30.out).mono ?_); (case side1 => exact (bw2_ HB.out GE274.out GE280.out)); rintro e w34 ⟨rfl, hb⟩; refine ⟨_, rfl, ?_⟩; replace BK274 := sd_ (bb_ BK274.out hb); replace BK280 := sd_ (bb_ BK280.out hb); replace HB := sd_ (below_step (bw2_ HB.out GE274.out GE280.out) hb); (try clear hb)))
     go_meet
     case rel => exact ⟨_, (t283), sm_, H', ⟨by have := HJ6.out; first | omega | exact Nat.le_refl _⟩, ⟨by exact bz_ BK274.out⟩, ⟨by exact bz_ BK280.out⟩, ⟨bw2_ HB.out GE274.out GE280.out⟩⟩
    replace c29 := Bool.eq_false_iff.mpr c29
    subst c29
    have H1 : (impl_check.j1 kj6 a1 x2 x3 (wrap64 (a4 + 1)) (a0_1 == 0) a0_0 a0_1 l0_2 l0_3 t275 t276 false t278) = some r := by rw [if_neg (show ¬ (false = true) by decide)] at H; exact H
    clear H
    have H := H1
    clear H1
    have H' := sd_ H
    clear H
    have hnb35 := NB274_280.out
    have hnc35 := NB280_274.out
    obtain ⟨hcz36_0, hcz36_1, hcz36_2, hcz36_3, hfz36_0, hfz36_1, hfz36_2, hfz36_3⟩ := bf4_ BK274.out
    obtain ⟨hcz37_0, hcz37_1, hcz37_2, hcz37_3, hfz37_0, hfz37_1, hfz37_2, hfz37_3⟩ := bf4_ BK280.out
    go_wp2
    go_meet
    case rel => exact ⟨_, ((a0_1 == 0)), sm_, H', ⟨by have := HJ6.out; first | omega | exact Nat.le_refl _⟩, ⟨by exact bz_ BK274.out⟩, ⟨by exact bz_ BK280.out⟩, ⟨bw2_ HB.out GE274.out GE280.out⟩⟩
   case rest =>
    clear HC20
    try clear c1
    try clear p6
    try clear c8
    try clear c11
    try clear c12
    try clear c19
    try clear hcz13_0
    try clear hcz13_1
    try clear hcz13_2
    try clear hcz13_3
    try clear hcz9_0
    try clear hcz9_1
    try clear hcz9_2
    try clear hcz9_3
    try clear hfz13_0
    try clear hfz13_1
    try clear hfz13_2
    try clear hfz13_3
    try clear hfz9_0
    try clear hfz9_1
    try clear hfz9_2
    try clear hfz9_3
    try clear p6
    obtain ⟨kq, x12_19, rfl, HA, HJ19, BK274, BK280, HB⟩ := hcut
    cases kq with
    | zero => exact absurd HA.out (by simp [impl_check.j1])
    | succ kj19 =>
     have H := HA.out
     clear HA
     simp only [impl_check.j1] at H
     have HC38 := sd_ H
     clear H
     have hnb39 := NB280_274.out
     have hnc39 := NB274_280.out
     obtain ⟨hcz40_0, hcz40_1, hcz40_2, hcz40_3, hfz40_0, hfz40_1, hfz40_2, hfz40_3⟩ := bf4_ BK280.out
     go_upto_if 64 with (fail)
     go_cut [12] (fun v12 wc => ∃ (kq : Nat) (x12_37 : Bool), v12 = .bool x12_37 ∧ Aside0 (impl_check.j2 kq a1 x2 x3 (wrap64 (a4 + 1)) x12_37 a0_0 a0_1 l0_2 l0_3 = some r) ∧ Aside0 (kq ≤ kj19) ∧ Aside0 (wc.heap[gb274]? = some (.cells #[.int .i64 a0_0, .int .i64 a0_1, (.slice A0_2 l0_2.length c0_2), (.slice A0_3 l0_3.length c0_3)] 40 (0, 0))) ∧ Aside0 (wc.heap[gb280]? = some (.cells #[.string t275, .int .i64 t276, .bool t277, .bool t278] 93 (0, 0))) ∧ Aside0 (Below w.heap.size w wc))
     case first =>
      have H := HC38.out
      clear HC38
      by_cases c41 : t278 = true
      ·subst c41
       have H1 : (if x12_19 = true then ((x3 l0_2).bind fun t284 => (impl_check.j2 kj19 a1 x2 x3 (wrap64 (a4 + 1)) t284 a0_0 a0_1 l0_2 l0_3)) else (impl_check.j2 kj19 a1 x2 x3 (wrap64 (a4 + 1)) false a0_0 a0_1 l0_2 l0_3)) = some r := by rw [if_pos rfl] at H; exact H
       clear H
       have H := H1
       clear H1
       by_cases c42 : x12_19 = true
       ·subst c42
        have H1 : ((x3 l0_2).bind fun t284 => (impl_check.j2 kj19 a1 x2 x3 (wrap64 (a4 + 1)) t284 a0_0 a0_1 l0_2 l0_3)) = some r := by rw [if_pos rfl] at H; exact H
        clear H
        have H := H1
        clear H1
        replace H := Option.bind_eq_some_iff.mp H
        obtain ⟨t284, A430, H⟩ := H
        try dsimp only at H
        have A43 := sd_ A430
        clear A430
        have H' := sd_ H
        clear H
        have hnb44 := NB274_280.out
        have hnc44 := NB280_274.out
        obtain ⟨hcz45_0, hcz45_1, hcz45_2, hcz45_3, hfz45_0, hfz45_1, hfz45_2, hfz45_3⟩ := bf4_ BK274.out
        go_wp2_with (first | (refine calls_of_args (args' := F3_ ++ #[.slice A0_2 l0_2.length c0_2] ++ C3_) (by simp) ?_; (with_reducible refine (HF3.out _ _ l0_2 t284 _ ?side1 ?side2 ?side3 A43.out).mono ?_); (case side1 => exact kc_ HR0_2.out HB.out); (case side2 => exact HC0_2.out); (case side3 => exact (bw2_ HB.out GE274.out GE280.out)); rintro e w46 ⟨rfl, hb⟩; replace BK274 := sd_ (bb_ BK274.out hb); replace BK280 := sd_ (bb_ BK280.out hb); replace HB := sd_ (below_step (bw2_ HB.out GE274.out GE280.out) hb); (try clear hb)))
        go_meet
        case rel => exact ⟨_, (t284), sm_, H', ⟨by have := HJ6.out; have := HJ19.out; first | omega | exact Nat.le_refl _⟩, ⟨by exact bz_ BK274.out⟩, ⟨by exact bz_ BK280.out⟩, ⟨bw2_ HB.out GE274.out GE280.out⟩⟩
       replace c42 := Bool.eq_false_iff.mpr c42
       subst c42
       have H1 : (impl_check.j2 kj19 a1 x2 x3 (wrap64 (a4 + 1)) false a0_0 a0_1 l0_2 l0_3) = some r := by rw [if_neg (show ¬ (false = true) by decide)] at H; exact H
       clear H
       have H := H1
       clear H1
       have H' := sd_ H
       clear H
       go_wp2
       go_meet
       case rel => exact ⟨_, (false), sm_, H', ⟨by have := HJ6.out; have := HJ19.out; first | omega | exact Nat.le_refl _⟩, ⟨by exact bz_ BK274.out⟩, ⟨by exact bz_ BK280.out⟩, ⟨bw2_ HB.out GE274.out GE280.out⟩⟩
      replace c41 := Bool.eq_false_iff.mpr c41
      subst c41
      have H1 : (if x12_19 = true then (impl_check.j2 kj19 a1 x2 x3 (wrap64 (a4 + 1)) ((l0_2.length : Int) == 0) a0_0 a0_1 l0_2 l0_3) else (impl_check.j2 kj19 a1 x2 x3 (wrap64 (a4 + 1)) false a0_0 a0_1 l0_2 l0_3)) = some r := by rw [if_neg (show ¬ (false = true) by decide)] at H; exact H
      clear H
      have H := H1
      clear H1
      by_cases c47 : x12_19 = true
      ·subst c47
       have H1 : (impl_check.j2 kj19 a1 x2 x3 (wrap64 (a4 + 1)) ((l0_2.length : Int) == 0) a0_0 a0_1 l0_2 l0_3) = some r := by rw [if_pos rfl] at H; exact H
       clear H
       have H := H1
       clear H1
       have H' := sd_ H
       clear H
       have hnb48 := NB274_280.out
       have hnc48 := NB280_274.out
       obtain ⟨hcz49_0, hcz49_1, hcz49_2, hcz49_3, hfz49_0, hfz49_1, hfz49_2, hfz49_3⟩ := bf4_ BK274.out
       go_wp2
       go_meet
       case rel => exact ⟨_, (((l0_2.length : Int) == 0)), sm_, H', ⟨by have := HJ6.out; have := HJ19.out; first | omega | exact Nat.le_refl _⟩, ⟨by exact bz_ BK274.out⟩, ⟨by exact bz_ BK280.out⟩, ⟨bw2_ HB.out GE274.out GE280.out⟩⟩
      replace c47 := Bool.eq_false_iff.mpr c47
      subst c47
      have H1 : (impl_check.j2 kj19 a1 x2 x3 (wrap64 (a4 + 1)) false a0_0 a0_1 l0_2 l0_3) = some r := by rw [if_neg (show ¬ (false = true) by decide)] at H; exact H
      clear H
      have H := H1
      clear H1
      have H' := sd_ H
      clear H
      go_wp2
      go_meet
      case rel => exact ⟨_, (false), sm_, H', ⟨by have := HJ6.out; have := HJ19.out; first | omega | exact Nat.le_refl _⟩, ⟨by exact bz_ BK274.out⟩, ⟨by exact bz_ BK280.out⟩, ⟨bw2_ HB.out GE274.out GE280.out⟩⟩
     case rest =>
      clear HC38
      try clear c1
      try clear c3
      try clear p6
      try clear c8
      try clear c11
      try clear c12
      try clear c19
      try clear c39
      try clear hcz13_0
      try clear hcz13_1
      try clear hcz13_2
      try clear hcz13_3
      try clear hcz40_0
      try clear hcz40_1
      try clear hcz40_2
      try clear hcz40_3
      try clear hcz9_0
      try clear hcz9_1
      try clear hcz9_2
      try clear hcz9_3
      try clear hfz13_0
      try clear hfz13_1
      try clear hfz13_2
      try clear hfz13_3
      try clear hfz40_0
      try clear hfz40_1
      try clear hfz40_2
      try clear hfz40_3
      try clear hfz9_0
      try clear hfz9_1
      try clear hfz9_2
      try clear hfz9_3
      try clear p6
      obtain ⟨kq, x12_37, rfl, HA, HJ37, BK274, BK280, HB⟩ := hcut
      cases kq with
      | zero => exact absurd HA.out (by simp [impl_check.j2])
      | succ kj37 =>
       have H := HA.out
       clear HA
       simp only [impl_check.j2] at H
       by_cases c50 : x12_37 = true
       ·subst c50
        have H1 : (impl_check.l0 kj37 a1 x2 x3 (wrap64 (a4 + 1)) l0_3 (l0_3.length : Int) 0 a0_0 a0_1 l0_2 l0_3) = some r := by rw [if_pos rfl] at H; exact H
        clear H
        have H := H1
        clear H1
        have H' := sd_ H
        clear H
        have hnb51 := NB274_280.out
        have hnc51 := NB280_274.out
        obtain ⟨hcz52_0, hcz52_1, hcz52_2, hcz52_3, hfz52_0, hfz52_1, hfz52_2, hfz52_3⟩ := bf4_ BK274.out
        go_wp2
        go_loopg [4, 84] kj37 (fun kq v4 v84 w' => ∃ (x4_4 : Int) (x84_4 : Int), v4 = .int .i64 x4_4 ∧ v84 = .int .i64 x84_4 ∧ Aside0 (impl_check.l0 kq a1 x2 x3 x4_4 l0_3 (l0_3.length : Int) x84_4 a0_0 a0_1 l0_2 l0_3 = some r) ∧ Aside0 (kq ≤ kj37) ∧ Aside0 (w'.heap[gb274]? = some (.cells #[.int .i64 a0_0, .int .i64 a0_1, (.slice A0_2 l0_2.length c0_2), (.slice A0_3 l0_3.length c0_3)] 40 (0, 0))) ∧ Aside0 (w'.heap[gb280]? = some (.cells #[.string t275, .int .i64 t276, .bool t277, .bool t278] 93 (0, 0))) ∧ Aside0 (Below w.heap.size w w'))
        case atStart => exact ⟨((wrap64 (a4 + 1))), (0), sm_, sm_, H', ⟨Nat.le_refl _⟩, ⟨by exact bz_ BK274.out⟩, ⟨by exact bz_ BK280.out⟩, ⟨bw2_ HB.out GE274.out GE280.out⟩⟩
        case round =>
         clear H'
         try clear c1
         try clear p2
         try clear c3
         try clear c5
         try clear p6
         try clear c8
         try clear c11
         try clear c12
         try clear c19
         try clear c39
         try clear c50
         try clear c51
         try clear hcz13_0
         try clear hcz13_1
         try clear hcz13_2
         try clear hcz13_3
         try clear hcz40_0
         try clear hcz40_1
         try clear hcz40_2
         try clear hcz40_3
         try clear hcz52_0
         try clear hcz52_1
         try clear hcz52_2
         try clear hcz52_3
         try clear hcz9_0
         try clear hcz9_1
         try clear hcz9_2
         try clear hcz9_3
         try clear hfz13_0
         try clear hfz13_1
         try clear hfz13_2
         try clear hfz13_3
         try clear hfz40_0
         try clear hfz40_1
         try clear hfz40_2
         try clear hfz40_3
         try clear hfz52_0
         try clear hfz52_1
         try clear hfz52_2
         try clear hfz52_3
         try clear hfz9_0
         try clear hfz9_1
         try clear hfz9_2
         try clear hfz9_3
         try clear p6
         obtain ⟨x4_4, x84_4, rfl, rfl, HA, HK4, BK274, BK280, HB⟩ := hrel
         cases gk with
         | zero => exact absurd HA.out (by simp [impl_check.l0])
         | succ k4 =>
          have H := HA.out
          clear HA
          simp only [impl_check.l0] at H
          by_cases c53 : x84_4 < (l0_3.length : Int)
          ·rw [if_pos c53] at H
           have c53b0 : decide (x84_4 < (l0_3.length : Int)) = true := decide_eq_true c53
           clear c53
           by_cases c54 : 0 ≤ x84_4
           ·rw [if_pos c54] at H
            have c54b0 : decide (0 ≤ x84_4) = true := decide_eq_true c54
            clear c54
            by_cases c55 : x84_4 < (l0_3.length : Int)
            ·rw [if_pos c55] at H
             have c55b0 : decide (x84_4 < (l0_3.length : Int)) = true := decide_eq_true c55
             clear c55
             replace H := Option.bind_eq_some_iff.mp H
             obtain ⟨t287, A560, H⟩ := H
             try dsimp only at H
             have A56 := sd_ A560
             clear A560
             replace H := Option.bind_eq_some_iff.mp H
             obtain ⟨t288, A570, H⟩ := H
             try dsimp only at H
             have A57 := sd_ A570
             clear A570
             by_cases c58 : t288 > 400
             ·rw [if_pos c58] at H
              have c58b0 : decide (400 < t288) = true := decide_eq_true c58
              clear c58
              obtain rfl := Option.some.inj H
              have p285 : 0 ≤ (x84_4 : Int) := dt_
              have q285 : x84_4 < (l0_3.length : Int) := dt_
              obtain ⟨ad285, A285_2, c285_2, A285_3, c285_3, e285, hx285_0, hx285_1, hx285_2, hx285_3, hl285_2, hi285_2, hl285_3, hi285_3⟩ := at_T40 HR0_3.out x84_4 p285 q285
              cases e285
              replace hx285_0 := (HB.out.cell (World.block_lt_of_cell? w _ hx285_0)).trans hx285_0
              replace hx285_1 := (HB.out.cell (World.block_lt_of_cell? w _ hx285_1)).trans hx285_1
              replace hx285_2 := (HB.out.cell (World.block_lt_of_cell? w _ hx285_2)).trans hx285_2
              replace hx285_3 := (HB.out.cell (World.block_lt_of_cell? w _ hx285_3)).trans hx285_3
              have HR285_2 := sd_ hi285_2
              have HC285_2 := sd_ hl285_2
              clear hi285_2 hl285_2
              have HR285_3 := sd_ hi285_3
              have HC285_3 := sd_ hl285_3
              clear hi285_3 hl285_3
              replace p285 := eq_true p285
              replace q285 := eq_true q285
              try go_wp2_with (first | ((with_reducible refine gate_dst (N := 14) rfl ?_); (try (refine gate_guard (by rfl) ?_; dsimp only)); refine bx_ (N := 14) (cs := #[.int .i64 0, .int .i64 0, .slice none 0 0, .slice none 0 0]) (t := 40) ?_; intro gb286 hg w59 hbox hb; have BK286 := sd_ (hbox); have GW286 := sd_ (gs_ hg (bw2_ HB.out GE274.out GE280.out)); have GE286 := sd_ (gs_ hg (bw2_ HB.out GE274.out GE280.out)); replace HB := sd_ (below_step (bw2_ HB.out GE274.out GE280.out) hb); have NB274_286 := sd_ (nl_ hg (bl_ BK274.out)); have NB286_274 := sd_ (ng_ hg (bl_ BK274.out)); replace BK274 := sd_ (bb_ BK274.out hb); have NB280_286 := sd_ (nl_ hg (bl_ BK280.out)); have NB286_280 := sd_ (ng_ hg (bl_ BK280.out)); replace BK280 := sd_ (bb_ BK280.out hb); clear hb hbox hg; have hnb60 := NB286_274.out; have hnc60 := NB274_286.out; have hnb61 := NB286_280.out; have hnc61 := NB280_286.out; obtain ⟨hcz62_0, hcz62_1, hcz62_2, hcz62_3, hfz62_0, hfz62_1, hfz62_2, hfz62_3⟩ := bf4_ BK286.out))
              have n0_ : Aside0 (((((w59.setCell ⟨gb286, 0, none⟩ (.int .i64 ((rd_T40 l0_3 x84_4).f0))).setCell ⟨gb286, 1, none⟩ (.int .i64 ((rd_T40 l0_3 x84_4).f1))).setCell ⟨gb286, 2, none⟩ (.slice A285_2 ((rd_T40 l0_3 x84_4).f2).length c285_2)).setCell ⟨gb286, 3, none⟩ (.slice A285_3 ((rd_T40 l0_3 x84_4).f3).length c285_3)).heap[gb274]? = some (.cells #[.int .i64 a0_0, .int .i64 a0_1, .slice A0_2 l0_2.length c0_2, .slice (some ad285) l0_3.length c0_3] 40 (0, 0))) := ⟨by (with_reducible repeat (first | refine blk_drewN ?_ _ | refine blk_drew ?_ | refine blk_alloc ?_ _)); refine blk_far ?_ NB274_286.out _; (with_reducible repeat (first | refine blk_drewN ?_ _ | refine blk_drew ?_ | refine blk_alloc ?_ _)); refine blk_far ?_ NB274_286.out _; (with_reducible repeat (first | refine blk_drewN ?_ _ | refine blk_drew ?_ | refine blk_alloc ?_ _)); refine blk_far ?_ NB274_286.out _; (with_reducible repeat (first | refine blk_drewN ?_ _ | refine blk_drew ?_ | refine blk_alloc ?_ _)); refine blk_far ?_ NB274_286.out _; (with_reducible repeat (first | refine blk_drewN ?_ _ | refine blk_drew ?_ | refine blk_alloc ?_ _)); exact BK274.out⟩
              have n1_ : Aside0 (((((w59.setCell ⟨gb286, 0, none⟩ (.int .i64 ((rd_T40 l0_3 x84_4).f0))).setCell ⟨gb286, 1, none⟩ (.int .i64 ((rd_T40 l0_3 x84_4).f1))).setCell ⟨gb286, 2, none⟩ (.slice A285_2 ((rd_T40 l0_3 x84_4).f2).length c285_2)).setCell ⟨gb286, 3, none⟩ (.slice A285_3 ((rd_T40 l0_3 x84_4).f3).length c285_3)).heap[gb280]? = some (.cells #[.string t275, .int .i64 t276, .bool t277, .bool t278] 93 (0, 0))) := ⟨by (with_reducible repeat (first | refine blk_drewN ?_ _ | refine blk_drew ?_ | refine blk_alloc ?_ _)); refine blk_far ?_ NB280_286.out _; (with_reducible repeat (first | refine blk_drewN ?_ _ | refine blk_drew ?_ | refine blk_alloc ?_ _)); refine blk_far ?_ NB280_286.out _; (with_reducible repeat (first | refine blk_drewN ?_ _ | refine blk_drew ?_ | refine blk_alloc ?_ _)); refine blk_far ?_ NB280_286.out _; (with_reducible repeat (first | refine blk_drewN ?_ _ | refine blk_drew ?_ | refine blk_alloc ?_ _)); refine blk_far ?_ NB280_286.out _; (with_reducible repeat (first | refine blk_drewN ?_ _ | refine blk_drew ?_ | refine blk_alloc ?_ _)); exact BK280.out⟩
              have n2_ : Aside0 (((((w59.setCell ⟨gb286, 0, none⟩ (.int .i64 ((rd_T40 l0_3 x84_4).f0))).setCell ⟨gb286, 1, none⟩ (.int .i64 ((rd_T40 l0_3 x84_4).f1))).setCell ⟨gb286, 2, none⟩ (.slice A285_2 ((rd_T40 l0_3 x84_4).f2).length c285_2)).setCell ⟨gb286, 3, none⟩ (.slice A285_3 ((rd_T40 l0_3 x84_4).f3).length c285_3)).heap[gb286]? = some (.cells #[.int .i64 ((rd_T40 l0_3 x84_4).f0), .int .i64 ((rd_T40 l0_3 x84_4).f1), .slice A285_2 ((rd_T40 l0_3 x84_4).f2).length c285_2, .slice A285_3 ((rd_T40 l0_3 x84_4).f3).length c285_3] 40 (0, 0))) := ⟨by (with_reducible repeat (first | refine blk_drewN ?_ _ | refine blk_drew ?_ | refine blk_alloc ?_ _)); refine blk_put (cs := #[.int .i64 ((rd_T40 l0_3 x84_4).f0), .int .i64 ((rd_T40 l0_3 x84_4).f1), .slice A285_2 ((rd_T40 l0_3 x84_4).f2).length c285_2, .slice none 0 0]) ?_ 3 _ rfl; (with_reducible repeat (first | refine blk_drewN ?_ _ | refine blk_drew ?_ | refine blk_alloc ?_ _)); refine blk_put (cs := #[.int .i64 ((rd_T40 l0_3 x84_4).f0), .int .i64 ((rd_T40 l0_3 x84_4).f1), .slice none 0 0, .slice none 0 0]) ?_ 2 _ rfl; (with_reducible repeat (first | refine blk_drewN ?_ _ | refine blk_drew ?_ | refine blk_alloc ?_ _)); refine blk_put (cs := #[.int .i64 ((rd_T40 l0_3 x84_4).f0), .int .i64 0, .slice none 0 0, .slice none 0 0]) ?_ 1 _ rfl; (with_reducible repeat (first | refine blk_drewN ?_ _ | refine blk_drew ?_ | refine blk_alloc ?_ _)); refine blk_put (cs := #[.int .i64 0, .int .i64 0, .slice none 0 0, .slice none 0 0]) ?_ 0 _ rfl; exact bz_ BK286.out⟩
              have n3_ : Aside0 (Below w.heap.size w ((((w59.setCell ⟨gb286, 0, none⟩ (.int .i64 ((rd_T40 l0_3 x84_4).f0))).setCell ⟨gb286, 1, none⟩ (.int .i64 ((rd_T40 l0_3 x84_4).f1))).setCell ⟨gb286, 2, none⟩ (.slice A285_2 ((rd_T40 l0_3 x84_4).f2).length c285_2)).setCell ⟨gb286, 3, none⟩ (.slice A285_3 ((rd_T40 l0_3 x84_4).f3).length c285_3))) := ⟨bw3_ HB.out GE274.out GE280.out GE286.out⟩
              (try clear BK274)
              (try clear BK280)
              (try clear BK286)
              (try clear HB)
              generalize ((((w59.setCell ⟨gb286, 0, none⟩ (.int .i64 ((rd_T40 l0_3 x84_4).f0))).setCell ⟨gb286, 1, none⟩ (.int .i64 ((rd_T40 l0_3 x84_4).f1))).setCell ⟨gb286, 2, none⟩ (.slice A285_2 ((rd_T40 l0_3 x84_4).f2).length c285_2)).setCell ⟨gb286, 3, none⟩ (.slice A285_3 ((rd_T40 l0_3 x84_4).f3).length c285_3)) = w63 at n0_ n1_ n2_ n3_ ⊢
              have BK274 := n0_
              have BK280 := n1_
              have BK286 := n2_
              have HB := n3_
              clear n0_ n1_ n2_ n3_
              refine qb_region (by kernel_rfl) (by kernel_rfl) ?_
              have HQ := fun (wq : World) (hq : Below w63.heap.size w63 wq) => below_step HB.out hq
              repeat ((first | (apply qb_skip; (focus rfl)) | (refine qb_callN 94 rfl ?_; apply qb_call 94 rfl Try.func123 (by kernel_rfl) rfl rfl; (focus rfl); (focus (exact fun wq9 hb9 => qb_d hb9 (impl_adds.calls k4 a0_0 x84_4 t287 _ A56.out))); (focus (rfl))) | (refine qb_callN 99 rfl ?_; apply qb_call 99 rfl Try.func118 (by kernel_rfl) rfl rfl; (focus rfl); (focus (exact fun wq9 hb9 => qb_b hb9 (ih k4 (by have := HJ6.out; have := HJ19.out; have := HJ37.out; have := HK4.out; omega) ((rd_T40 l0_3 x84_4).f0) ((rd_T40 l0_3 x84_4).f1) _ _ ((rd_T40 l0_3 x84_4).f2) _ _ ((rd_T40 l0_3 x84_4).f3) (wrap64 (a1 + t287)) x2 K2_ F2_ C2_ x3 K3_ F3_ C3_ x4_4 t288 _ (Kd.C_below HR285_2.out (HQ _ hb9)) HC285_2.out (Kd.C_below HR285_3.out (HQ _ hb9)) HC285_3.out HG2.out (OC88.step HF2.out (by repeat (first | (with_reducible first | exact (HQ _ hb9) | apply below_alloc | apply pw_below_drewN | apply below_drew1 | refine below_set ?_ GE274.out | refine below_set ?_ GE280.out | refine below_set ?_ GE286.out) | exact (HQ _ hb9)))) HG3.out (OC105.step HF3.out (by repeat (first | (with_reducible first | exact (HQ _ hb9) | apply below_alloc | apply pw_below_drewN | apply below_drew1 | refine below_set ?_ GE274.out | refine below_set ?_ GE280.out | refine below_set ?_ GE286.out) | exact (HQ _ hb9)))) A57.out))); (focus (rfl))) | (apply qb_val; (focus rfl); (focus (intro wq9 _; go_simp; with_reducible rfl))) | (apply qb_val; (focus rfl); (focus (intro wq9 hb9_; have hb9 : Below w63.heap.size w63 wq9 := hb9_; have BK274 := sd_ (blk_below BK274.out hb9); have BK286 := sd_ (blk_below BK286.out hb9); have hc9_274_0 : wq9.cell? ⟨gb274, 0, none⟩ = some (.int .i64 a0_0) := (blk_cell BK274.out 0).trans rfl; have hc9_274_1 : wq9.cell? ⟨gb274, 1, none⟩ = some (.int .i64 a0_1) := (blk_cell BK274.out 1).trans rfl; have hc9_274_2 : wq9.cell? ⟨gb274, 2, none⟩ = some (.slice A0_2 l0_2.length c0_2) := (blk_cell BK274.out 2).trans rfl; have hc9_274_3 : wq9.cell? ⟨gb274, 3, none⟩ = some (.slice (some ad285) l0_3.length c0_3) := (blk_cell BK274.out 3).trans rfl; have hc9_286_0 : wq9.cell? ⟨gb286, 0, none⟩ = some (.int .i64 ((rd_T40 l0_3 x84_4).f0)) := (blk_cell BK286.out 0).trans rfl; have hc9_286_1 : wq9.cell? ⟨gb286, 1, none⟩ = some (.int .i64 ((rd_T40 l0_3 x84_4).f1)) := (blk_cell BK286.out 1).trans rfl; have hc9_286_2 : wq9.cell? ⟨gb286, 2, none⟩ = some (.slice A285_2 ((rd_T40 l0_3 x84_4).f2).length c285_2) := (blk_cell BK286.out 2).trans rfl; have hc9_286_3 : wq9.cell? ⟨gb286, 3, none⟩ = some (.slice A285_3 ((rd_T40 l0_3 x84_4).f3).length c285_3) := (blk_cell BK286.out 3).trans rfl; go_simp; with_reducible rfl)))); (focus (simp only [Act.put, List.setIfInBounds_toArray, List.set_cons_zero, List.set_cons_succ, i64_w, i32_w]; rfl)))
              refine qb_nil ?_
              intro w65 hb
              replace BK274 := sd_ (blk_below BK274.out hb)
              replace BK280 := sd_ (blk_below BK280.out hb)
              replace BK286 := sd_ (blk_below BK286.out hb)
              replace HB := sd_ (below_step HB.out hb)
              clear hb
              (try clear HQ)
              try go_wp2
              go_ret
              exact ⟨an_, bw3_ HB.out GE274.out GE280.out GE286.out⟩
             rw [if_neg c58] at H
             have c58b0 : decide (400 < t288) = false := decide_eq_false c58
             clear c58
             have H' := sd_ H
             clear H
             have p285 : 0 ≤ (x84_4 : Int) := dt_
             have q285 : x84_4 < (l0_3.length : Int) := dt_
             obtain ⟨ad285, A285_2, c285_2, A285_3, c285_3, e285, hx285_0, hx285_1, hx285_2, hx285_3, hl285_2, hi285_2, hl285_3, hi285_3⟩ := at_T40 HR0_3.out x84_4 p285 q285
             cases e285
             replace hx285_0 := (HB.out.cell (World.block_lt_of_cell? w _ hx285_0)).trans hx285_0
             replace hx285_1 := (HB.out.cell (World.block_lt_of_cell? w _ hx285_1)).trans hx285_1
             replace hx285_2 := (HB.out.cell (World.block_lt_of_cell? w _ hx285_2)).trans hx285_2
             replace hx285_3 := (HB.out.cell (World.block_lt_of_cell? w _ hx285_3)).trans hx285_3
             have HR285_2 := sd_ hi285_2
             have HC285_2 := sd_ hl285_2
             clear hi285_2 hl285_2
             have HR285_3 := sd_ hi285_3
             have HC285_3 := sd_ hl285_3
             clear hi285_3 hl285_3
             replace p285 := eq_true p285
             replace q285 := eq_true q285
             try go_wp2_with (first | ((with_reducible refine gate_dst (N := 14) rfl ?_); (try (refine gate_guard (by rfl) ?_; dsimp only)); refine bx_ (N := 14) (cs := #[.int .i64 0, .int .i64 0, .slice none 0 0, .slice none 0 0]) (t := 40) ?_; intro gb286 hg w66 hbox hb; have BK286 := sd_ (hbox); have GW286 := sd_ (gs_ hg (bw2_ HB.out GE274.out GE280.out)); have GE286 := sd_ (gs_ hg (bw2_ HB.out GE274.out GE280.out)); replace HB := sd_ (below_step (bw2_ HB.out GE274.out GE280.out) hb); have NB274_286 := sd_ (nl_ hg (bl_ BK274.out)); have NB286_274 := sd_ (ng_ hg (bl_ BK274.out)); replace BK274 := sd_ (bb_ BK274.out hb); have NB280_286 := sd_ (nl_ hg (bl_ BK280.out)); have NB286_280 := sd_ (ng_ hg (bl_ BK280.out)); replace BK280 := sd_ (bb_ BK280.out hb); clear hb hbox hg; have hnb67 := NB286_274.out; have hnc67 := NB274_286.out; have hnb68 := NB286_280.out; have hnc68 := NB280_286.out; obtain ⟨hcz69_0, hcz69_1, hcz69_2, hcz69_3, hfz69_0, hfz69_1, hfz69_2, hfz69_3⟩ := bf4_ BK286.out))
             have n0_ : Aside0 (((((w66.setCell ⟨gb286, 0, none⟩ (.int .i64 ((rd_T40 l0_3 x84_4).f0))).setCell ⟨gb286, 1, none⟩ (.int .i64 ((rd_T40 l0_3 x84_4).f1))).setCell ⟨gb286, 2, none⟩ (.slice A285_2 ((rd_T40 l0_3 x84_4).f2).length c285_2)).setCell ⟨gb286, 3, none⟩ (.slice A285_3 ((rd_T40 l0_3 x84_4).f3).length c285_3)).heap[gb274]? = some (.cells #[.int .i64 a0_0, .int .i64 a0_1, .slice A0_2 l0_2.length c0_2, .slice (some ad285) l0_3.length c0_3] 40 (0, 0))) := ⟨by (with_reducible repeat (first | refine blk_drewN ?_ _ | refine blk_drew ?_ | refine blk_alloc ?_ _)); refine blk_far ?_ NB274_286.out _; (with_reducible repeat (first | refine blk_drewN ?_ _ | refine blk_drew ?_ | refine blk_alloc ?_ _)); refine blk_far ?_ NB274_286.out _; (with_reducible repeat (first | refine blk_drewN ?_ _ | refine blk_drew ?_ | refine blk_alloc ?_ _)); refine blk_far ?_ NB274_286.out _; (with_reducible repeat (first | refine blk_drewN ?_ _ | refine blk_drew ?_ | refine blk_alloc ?_ _)); refine blk_far ?_ NB274_286.out _; (with_reducible repeat (first | refine blk_drewN ?_ _ | refine blk_drew ?_ | refine blk_alloc ?_ _)); exact BK274.out⟩
             have n1_ : Aside0 (((((w66.setCell ⟨gb286, 0, none⟩ (.int .i64 ((rd_T40 l0_3 x84_4).f0))).setCell ⟨gb286, 1, none⟩ (.int .i64 ((rd_T40 l0_3 x84_4).f1))).setCell ⟨gb286, 2, none⟩ (.slice A285_2 ((rd_T40 l0_3 x84_4).f2).length c285_2)).setCell ⟨gb286, 3, none⟩ (.slice A285_3 ((rd_T40 l0_3 x84_4).f3).length c285_3)).heap[gb280]? = some (.cells #[.string t275, .int .i64 t276, .bool t277, .bool t278] 93 (0, 0))) := ⟨by (with_reducible repeat (first | refine blk_drewN ?_ _ | refine blk_drew ?_ | refine blk_alloc ?_ _)); refine blk_far ?_ NB280_286.out _; (with_reducible repeat (first | refine blk_drewN ?_ _ | refine blk_drew ?_ | refine blk_alloc ?_ _)); refine blk_far ?_ NB280_286.out _; (with_reducible repeat (first | refine blk_drewN ?_ _ | refine blk_drew ?_ | refine blk_alloc ?_ _)); refine blk_far ?_ NB280_286.out _; (with_reducible repeat (first | refine blk_drewN ?_ _ | refine blk_drew ?_ | refine blk_alloc ?_ _)); refine blk_far ?_ NB280_286.out _; (with_reducible repeat (first | refine blk_drewN ?_ _ | refine blk_drew ?_ | refine blk_alloc ?_ _)); exact BK280.out⟩
             have n2_ : Aside0 (((((w66.setCell ⟨gb286, 0, none⟩ (.int .i64 ((rd_T40 l0_3 x84_4).f0))).setCell ⟨gb286, 1, none⟩ (.int .i64 ((rd_T40 l0_3 x84_4).f1))).setCell ⟨gb286, 2, none⟩ (.slice A285_2 ((rd_T40 l0_3 x84_4).f2).length c285_2)).setCell ⟨gb286, 3, none⟩ (.slice A285_3 ((rd_T40 l0_3 x84_4).f3).length c285_3)).heap[gb286]? = some (.cells #[.int .i64 ((rd_T40 l0_3 x84_4).f0), .int .i64 ((rd_T40 l0_3 x84_4).f1), .slice A285_2 ((rd_T40 l0_3 x84_4).f2).length c285_2, .slice A285_3 ((rd_T40 l0_3 x84_4).f3).length c285_3] 40 (0, 0))) := ⟨by (with_reducible repeat (first | refine blk_drewN ?_ _ | refine blk_drew ?_ | refine blk_alloc ?_ _)); refine blk_put (cs := #[.int .i64 ((rd_T40 l0_3 x84_4).f0), .int .i64 ((rd_T40 l0_3 x84_4).f1), .slice A285_2 ((rd_T40 l0_3 x84_4).f2).length c285_2, .slice none 0 0]) ?_ 3 _ rfl; (with_reducible repeat (first | refine blk_drewN ?_ _ | refine blk_drew ?_ | refine blk_alloc ?_ _)); refine blk_put (cs := #[.int .i64 ((rd_T40 l0_3 x84_4).f0), .int .i64 ((rd_T40 l0_3 x84_4).f1), .slice none 0 0, .slice none 0 0]) ?_ 2 _ rfl; (with_reducible repeat (first | refine blk_drewN ?_ _ | refine blk_drew ?_ | refine blk_alloc ?_ _)); refine blk_put (cs := #[.int .i64 ((rd_T40 l0_3 x84_4).f0), .int .i64 0, .slice none 0 0, .slice none 0 0]) ?_ 1 _ rfl; (with_reducible repeat (first | refine blk_drewN ?_ _ | refine blk_drew ?_ | refine blk_alloc ?_ _)); refine blk_put (cs := #[.int .i64 0, .int .i64 0, .slice none 0 0, .slice none 0 0]) ?_ 0 _ rfl; exact bz_ BK286.out⟩
             have n3_ : Aside0 (Below w.heap.size w ((((w66.setCell ⟨gb286, 0, none⟩ (.int .i64 ((rd_T40 l0_3 x84_4).f0))).setCell ⟨gb286, 1, none⟩ (.int .i64 ((rd_T40 l0_3 x84_4).f1))).setCell ⟨gb286, 2, none⟩ (.slice A285_2 ((rd_T40 l0_3 x84_4).f2).length c285_2)).setCell ⟨gb286, 3, none⟩ (.slice A285_3 ((rd_T40 l0_3 x84_4).f3).length c285_3))) := ⟨bw3_ HB.out GE274.out GE280.out GE286.out⟩
             (try clear BK274)
             (try clear BK280)
             (try clear BK286)
             (try clear HB)
             generalize ((((w66.setCell ⟨gb286, 0, none⟩ (.int .i64 ((rd_T40 l0_3 x84_4).f0))).setCell ⟨gb286, 1, none⟩ (.int .i64 ((rd_T40 l0_3 x84_4).f1))).setCell ⟨gb286, 2, none⟩ (.slice A285_2 ((rd_T40 l0_3 x84_4).f2).length c285_2)).setCell ⟨gb286, 3, none⟩ (.slice A285_3 ((rd_T40 l0_3 x84_4).f3).length c285_3)) = w70 at n0_ n1_ n2_ n3_ ⊢
             have BK274 := n0_
             have BK280 := n1_
             have BK286 := n2_
             have HB := n3_
             clear n0_ n1_ n2_ n3_
             refine qb_region (by kernel_rfl) (by kernel_rfl) ?_
             have HQ := fun (wq : World) (hq : Below w70.heap.size w70 wq) => below_step HB.out hq
             repeat ((first | (apply qb_skip; (focus rfl)) | (refine qb_callN 94 rfl ?_; apply qb_call 94 rfl Try.func123 (by kernel_rfl) rfl rfl; (focus rfl); (focus (exact fun wq9 hb9 => qb_d hb9 (impl_adds.calls k4 a0_0 x84_4 t287 _ A56.out))); (focus (rfl))) | (refine qb_callN 99 rfl ?_; apply qb_call 99 rfl Try.func118 (by kernel_rfl) rfl rfl; (focus rfl); (focus (exact fun wq9 hb9 => qb_b hb9 (ih k4 (by have := HJ6.out; have := HJ19.out; have := HJ37.out; have := HK4.out; omega) ((rd_T40 l0_3 x84_4).f0) ((rd_T40 l0_3 x84_4).f1) _ _ ((rd_T40 l0_3 x84_4).f2) _ _ ((rd_T40 l0_3 x84_4).f3) (wrap64 (a1 + t287)) x2 K2_ F2_ C2_ x3 K3_ F3_ C3_ x4_4 t288 _ (Kd.C_below HR285_2.out (HQ _ hb9)) HC285_2.out (Kd.C_below HR285_3.out (HQ _ hb9)) HC285_3.out HG2.out (OC88.step HF2.out (by repeat (first | (with_reducible first | exact (HQ _ hb9) | apply below_alloc | apply pw_below_drewN | apply below_drew1 | refine below_set ?_ GE274.out | refine below_set ?_ GE280.out | refine below_set ?_ GE286.out) | exact (HQ _ hb9)))) HG3.out (OC105.step HF3.out (by repeat (first | (with_reducible first | exact (HQ _ hb9) | apply below_alloc | apply pw_below_drewN | apply below_drew1 | refine below_set ?_ GE274.out | refine below_set ?_ GE280.out | refine below_set ?_ GE286.out) | exact (HQ _ hb9)))) A57.out))); (focus (rfl))) | (apply qb_val; (focus rfl); (focus (intro wq9 _; go_simp; with_reducible rfl))) | (apply qb_val; (focus rfl); (focus (intro wq9 hb9_; have hb9 : Below w70.heap.size w70 wq9 := hb9_; have BK274 := sd_ (blk_below BK274.out hb9); have BK286 := sd_ (blk_below BK286.out hb9); have hc9_274_0 : wq9.cell? ⟨gb274, 0, none⟩ = some (.int .i64 a0_0) := (blk_cell BK274.out 0).trans rfl; have hc9_274_1 : wq9.cell? ⟨gb274, 1, none⟩ = some (.int .i64 a0_1) := (blk_cell BK274.out 1).trans rfl; have hc9_274_2 : wq9.cell? ⟨gb274, 2, none⟩ = some (.slice A0_2 l0_2.length c0_2) := (blk_cell BK274.out 2).trans rfl; have hc9_274_3 : wq9.cell? ⟨gb274, 3, none⟩ = some (.slice (some ad285) l0_3.length c0_3) := (blk_cell BK274.out 3).trans rfl; have hc9_286_0 : wq9.cell? ⟨gb286, 0, none⟩ = some (.int .i64 ((rd_T40 l0_3 x84_4).f0)) := (blk_cell BK286.out 0).trans rfl; have hc9_286_1 : wq9.cell? ⟨gb286, 1, none⟩ = some (.int .i64 ((rd_T40 l0_3 x84_4).f1)) := (blk_cell BK286.out 1).trans rfl; have hc9_286_2 : wq9.cell? ⟨gb286, 2, none⟩ = some (.slice A285_2 ((rd_T40 l0_3 x84_4).f2).length c285_2) := (blk_cell BK286.out 2).trans rfl; have hc9_286_3 : wq9.cell? ⟨gb286, 3, none⟩ = some (.slice A285_3 ((rd_T40 l0_3 x84_4).f3).length c285_3) := (blk_cell BK286.out 3).trans rfl; go_simp; with_reducible rfl)))); (focus (simp only [Act.put, List.setIfInBounds_toArray, List.set_cons_zero, List.set_cons_succ, i64_w, i32_w]; rfl)))
             refine qb_nil ?_
             intro w72 hb
             replace BK274 := sd_ (blk_below BK274.out hb)
             replace BK280 := sd_ (blk_below BK280.out hb)
             replace BK286 := sd_ (blk_below BK286.out hb)
             replace HB := sd_ (below_step HB.out hb)
             clear hb
             (try clear HQ)
             try go_wp2
             go_roundg k4
             case measure => have := HJ6.out; have := HJ19.out; have := HJ37.out; have := HK4.out; omega
             case rel => exact ⟨(t288), (wrap64 (x84_4 + 1)), sm_, sm_, H', ⟨by have := HJ6.out; have := HJ19.out; have := HJ37.out; have := HK4.out; omega⟩, ⟨by exact bz_ BK274.out⟩, ⟨by exact bz_ BK280.out⟩, ⟨bw3_ HB.out GE274.out GE280.out GE286.out⟩⟩
            rw [if_neg c55] at H
            exact absurd H (by simp)
           rw [if_neg c54] at H
           exact absurd H (by simp)
          rw [if_neg c53] at H
          have c53b0 : decide (x84_4 < (l0_3.length : Int)) = false := decide_eq_false c53
          clear c53
          obtain rfl := Option.some.inj H
          go_wp2
          go_ret
          exact ⟨an_, bw2_ HB.out GE274.out GE280.out⟩
       replace c50 := Bool.eq_false_iff.mpr c50
       subst c50
       have H1 : (some 401) = some r := by rw [if_neg (show ¬ (false = true) by decide)] at H; exact H
       clear H
       have H := H1
       clear H1
       obtain rfl := Option.some.inj H
       go_wp2
       go_ret
       exact ⟨an_, bw2_ HB.out GE274.out GE280.out⟩

end Go.Proofs.Ytipfkicndjddgaa.P
