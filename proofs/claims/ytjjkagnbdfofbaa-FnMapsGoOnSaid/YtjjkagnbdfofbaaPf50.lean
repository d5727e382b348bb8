-- by hand: spec.ViewsOf
import Derived.Test.YtjjkagnbdfofbaaM12
import Derived.Test.YtjjkagnbdfofbaaPf71
import Derived.Test.YtjjkagnbdfofbaaM9
import Derived.Laws.EntriesVeiled
import Derived.Laws.CopyOwn
import Derived.Deep.RegionLaw
import Derived.Deep.CutBlock
import Derived.StillTailTactics
namespace Go.Proofs.Ytjjkagnbdfofbaa.P
open Go.RowKit Go.Proofs.YtjjkagnbdfofbaaW.PrintWords Go.Proofs.YtjjkagnbdfofbaaW.PrintLast Go.Proofs.YtjjkagnbdfofbaaW.PrintMore
attribute [local go_sem] max2_int min2_int max_two min_two
set_option linter.unusedVariables false
set_option linter.unusedSimpArgs false
def spec_ViewsOf.l1 : Nat → List Int → List (List Int) → Int → Option Int
  | 0, _, _, _ => none
  | n + 1, x, out, k => if k > 0 then (if 0 ≤ wrap64 (k - 1) then (if wrap64 (k - 1) < (out.length : Int) then ((spec_l1Less.f n x (rd_L3 out (wrap64 (k - 1)))).bind fun t => if t = true then spec_ViewsOf.l1 n x out (wrap64 (k - 1)) else some k) else none) else none) else some k
def spec_ViewsOf.l0 : Nat → List (List Int) → List (List Int) → Int → Option (List (List Int))
  | 0, _, _, _ => none
  | n + 1, all, out, i => if i < (all.length : Int) then (if 0 ≤ i then (if out.length < 5864062014804 then ((spec_ViewsOf.l1 n (rd_L3 all i) out (out.length : Int)).bind fun k => if 0 ≤ k ∧ k ≤ (out.length : Int) then spec_ViewsOf.l0 n all (out.take k.toNat ++ rd_L3 all i :: out.drop k.toNat) (wrap64 (i + 1)) else none) else none) else none) else some out
def spec_ViewsOf.f (k : Nat) (a0_0 : Int) (l0_1 : List Int) (l0_2 : List Int) (l0_3 : List Bool) : Option (List (List Int)) := (spec_IsSystem.f k a0_0 l0_1 l0_2 l0_3).bind fun t => if t = true then (if a0_0.toNat ≤ 281474976710656 ∧ 1 < a0_0 then ((spec_l1Views.f k a0_0 l0_1 l0_2 l0_3 ((List.replicate a0_0.toNat false).set 1 true) 2).bind fun all => spec_ViewsOf.l0 k all [] 0) else none) else some []
abbrev KSL : Kd (List Int) := Kd.slice 3 (Kd.int .i64)
/-- The rows put so far: their own row is new; what they lead to was there at w1. -/
def OutP (B : Nat) (w1 W : World) (v : Value) (xs : List (List Int)) : Prop := ∃ rows : List (List Value), rows.length = xs.length ∧ (Kd.raw 1).R 24 W w1.heap.size (fun _ => True) v rows ∧ ∀ (j : Nat) (x : List Int) (c : List Value), xs[j]? = some x → rows[j]? = some c → Kd.FK KSL w1 (fun k => B ≤ k ∧ k < w1.heap.size) x c
theorem OutP.N {B : Nat} {w1 W : World} {v : Value} {xs : List (List Int)} (h : OutP B w1 W v xs) (hB : B ≤ w1.heap.size) (hb : Below w1.heap.size w1 W) : Kd.N KSL 24 W w1.heap.size (fun k => B ≤ k) v xs := by
  obtain ⟨rows, hl, hR, hF⟩ := h
  refine ⟨fun k hk => Nat.le_trans hB (Kd.R_base hR k hk), rows, hl, Kd.R_tight rfl hR, fun j x c hx hc => ?_⟩
  refine Kd.FK_mono (Kd.FK_step (hF j x c hx hc) (fun k hk _ => hb.block k hk.2)) fun k hk => ⟨hk.1, fun e => ?_⟩
  have := Kd.R_base hR k e.symm
  omega
theorem OutP.step {B : Nat} {w1 W W' : World} {v : Value} {xs : List (List Int)} (h : OutP B w1 W v xs) (hb : Below W.heap.size W W') : OutP B w1 W' v xs := by
  obtain ⟨rows, hl, hR, hF⟩ := h
  exact ⟨rows, hl, Kd.R_below hR hb, hF⟩
theorem addr_add_ (g o n : Nat) : (⟨g, o, none⟩ : Addr).add n = ⟨g, o + n, none⟩ := by unfold Addr.add; split <;> simp_all
theorem raw_cells {W : World} {b : Nat} {ok : Nat → Prop} {g n cap : Nat} {rows : List (List Value)} (h : (Kd.raw 1).R 24 W b ok (.slice (some ⟨g, 0, none⟩) n cap) rows) (hn : 0 < n) : n = rows.length ∧ b ≤ g ∧ ∃ cur : Array Value, W.heap[g]? = some (.cells cur 24 (0, 0)) ∧ n ≤ cap ∧ cap ≤ maxLen ∧ cur.size = cap ∧ ∀ (j : Nat) (c : List Value), rows[j]? = some c → ∃ u, c = [u] ∧ cur[j]? = some u ∧ u.oneCell' = true := by
  have hnl := (Kd.R_reads' h).1
  obtain ⟨_, inner, ⟨hlen, hv | ⟨g', cap', cur, hv, hg, hh, h1, h2, h3, h4⟩⟩, hr⟩ := h
  · exact absurd hv.2 (by omega)
  injection hv with e1 e2 e3
  injection e1 with e1
  injection e1 with e1
  subst e1 e3
  rw [show (Kd.raw 1).sz = 1 from rfl, Nat.mul_one] at hlen h3 h4
  refine ⟨hnl, hg, cur, hh, by omega, h2, h3, fun j c hj => ?_⟩
  obtain ⟨m1, m2, m3⟩ := hr.2 j c hj
  have hjl := (List.getElem?_eq_some_iff.1 hj).1
  rw [show (Kd.raw 1).sz = 1 from rfl, Nat.mul_one, List.drop_eq_getElem_cons (by omega), List.take_succ_cons, List.take_zero] at m1
  refine ⟨inner[j]'(by omega), m1.symm, ?_, ?_⟩
  · have : inner[j]? = some (inner[j]'(by omega)) := List.getElem?_eq_getElem _
    rw [← this, ← h4, List.getElem?_take_of_lt hjl, Array.getElem?_toList]
  · refine m3 _ ?_
    rw [show (Kd.raw 1).sz = 1 from rfl, Nat.mul_one, List.drop_eq_getElem_cons (by omega), List.take_succ_cons]
    exact List.mem_cons_self
/-- One put between the others: the cells behind it went on by one, then it was stored. -/
theorem out_put {W : World} {b g n cap k : Nat} {cur cur3 : Array Value} {rows : List (List Value)} {u : Value} (hb : b ≤ g) (hl : rows.length = n) (hn : n + 1 ≤ cap) (hc : cap ≤ maxLen) (hk : k ≤ n) (hsz : cur.size = cap) (hu : u.oneCell' = true)
    (hrows : ∀ (j : Nat) (c : List Value), rows[j]? = some c → ∃ u, c = [u] ∧ cur[j]? = some u ∧ u.oneCell' = true)
    (h3 : cur3 = (splice cur.toList (k + 1) ((cur.toList.drop k).take (n - k))).toArray.setIfInBounds k u) (hW : W.heap[g]? = some (.cells cur3 24 (0, 0))) :
    (Kd.raw 1).R 24 W b (fun _ => True) (.slice (some ⟨g, 0, none⟩) (n + 1) cap) (rows.take k ++ [u] :: rows.drop k) := by
  have hcl : cur.toList.length = cap := by simpa using hsz
  have hcs : ((cur.toList.drop k).take (n - k)).length = n - k := by rw [List.length_take, List.length_drop]; omega
  have hsp : (splice cur.toList (k + 1) ((cur.toList.drop k).take (n - k))).length = cap := by rw [length_splice _ _ _ (by rw [hcs]; omega)]; exact hcl
  have hc3 : cur3.size = cap := by rw [h3, Array.size_setIfInBounds]; simpa using hsp
  have at3 : ∀ j, j < n + 1 → cur3[j]? = if j < k then cur[j]? else if j = k then some u else cur[j - 1]? := by
    intro j hj
    rw [h3, Array.getElem?_setIfInBounds]
    by_cases e : k = j
    · subst e
      rw [if_pos rfl, if_pos (by simp [hsp]; omega), if_neg (by omega), if_pos rfl]
    · rw [if_neg e, List.getElem?_toArray]
      unfold splice
      by_cases c1 : j < k + 1
      · rw [List.getElem?_append_left (by rw [List.length_take]; omega), List.getElem?_take_of_lt c1, Array.getElem?_toList, if_pos (by omega)]
      · have tlen : (List.take (k + 1) cur.toList).length = k + 1 := by rw [List.length_take]; omega
        rw [List.getElem?_append_right (by omega), tlen, List.getElem?_append_left (by rw [hcs]; omega), List.getElem?_take_of_lt (by omega), List.getElem?_drop, Array.getElem?_toList, if_neg (by omega), if_neg (by omega), show k + (j - (k + 1)) = j - 1 by omega]
  have rl : (rows.take k ++ [u] :: rows.drop k).length = n + 1 := by simp [hl]; omega
  have rat : ∀ (j : Nat) (c : List Value), (rows.take k ++ [u] :: rows.drop k)[j]? = some c → ∃ u, c = [u] ∧ cur3[j]? = some u ∧ u.oneCell' = true := by
    intro j c hj
    have hjl := (List.getElem?_eq_some_iff.1 hj).1
    rw [rl] at hjl
    rw [at3 j hjl]
    have tl : (rows.take k).length = k := by rw [List.length_take]; omega
    by_cases c1 : j < k
    · rw [List.getElem?_append_left (by omega), List.getElem?_take_of_lt c1] at hj
      rw [if_pos c1]; exact hrows j c hj
    · rw [List.getElem?_append_right (by omega), tl] at hj
      rw [if_neg c1]
      by_cases c2 : j = k
      · rw [show j - k = 0 by omega] at hj
        rw [if_pos c2]
        exact ⟨u, (Option.some.inj hj).symm, rfl, hu⟩
      · rw [show j - k = (j - k - 1) + 1 by omega, List.getElem?_cons_succ, List.getElem?_drop, show k + (j - k - 1) = j - 1 by omega] at hj
        rw [if_neg c2]; exact hrows _ c hj
  refine ⟨fun _ _ => trivial, cur3.toList.take (n + 1), ⟨?_, Or.inr ⟨g, cap, cur3, ?_, hb, hW, ?_, hc, ?_, ?_⟩⟩, ?_, ?_⟩
  · rw [rl, List.length_take]; simp [Kd.raw]; omega
  · rw [rl]
  · rw [rl]; exact hn
  · rw [hc3]; simp [Kd.raw]
  · rw [rl]; simp [Kd.raw]
  · rw [rl, List.length_take]; simp [Kd.raw]; omega
  · intro j c hj
    obtain ⟨u', rfl, h5, h6⟩ := rat j c hj
    have hjl := (List.getElem?_eq_some_iff.1 hj).1
    rw [rl] at hjl
    have e : ((cur3.toList.take (n + 1)).drop (j * (Kd.raw 1).sz)).take (Kd.raw 1).sz = [u'] := by
      have hlen : j < (cur3.toList.take (n + 1)).length := by rw [List.length_take]; simp; omega
      rw [show (Kd.raw 1).sz = 1 from rfl, Nat.mul_one, List.drop_eq_getElem_cons hlen, List.take_succ_cons, List.take_zero]
      have : (cur3.toList.take (n + 1))[j]? = some u' := by rw [List.getElem?_take_of_lt hjl, Array.getElem?_toList]; exact h5
      rw [(List.getElem?_eq_some_iff.1 this).2]
    rw [e]
    exact ⟨rfl, rfl, fun x hx => by rw [List.mem_singleton.1 hx]; exact h6⟩
theorem OutP.put {B : Nat} {w1 : World} {xs : List (List Int)} {rows : List (List Value)} {k : Nat} {x : List Int} {u : Value} (hl : rows.length = xs.length) (hF : ∀ (j : Nat) (x : List Int) (c : List Value), xs[j]? = some x → rows[j]? = some c → Kd.FK KSL w1 (fun k => B ≤ k ∧ k < w1.heap.size) x c) (hx : Kd.FK KSL w1 (fun k => B ≤ k ∧ k < w1.heap.size) x [u]) :
    (rows.take k ++ [u] :: rows.drop k).length = (xs.take k ++ x :: xs.drop k).length ∧ ∀ (j : Nat) (x' : List Int) (c : List Value), (xs.take k ++ x :: xs.drop k)[j]? = some x' → (rows.take k ++ [u] :: rows.drop k)[j]? = some c → Kd.FK KSL w1 (fun k => B ≤ k ∧ k < w1.heap.size) x' c := by
  refine ⟨by simp [hl], fun j x' c h1 h2 => ?_⟩
  have tl : (rows.take k).length = (xs.take k).length := by rw [List.length_take, List.length_take, hl]
  by_cases c1 : j < (xs.take k).length
  · rw [List.getElem?_append_left c1] at h1
    rw [List.getElem?_append_left (by omega)] at h2
    have hjk : j < k := by rw [List.length_take] at c1; omega
    rw [List.getElem?_take_of_lt hjk] at h1 h2
    exact hF j x' c h1 h2
  · rw [List.getElem?_append_right (by omega)] at h1
    rw [List.getElem?_append_right (by omega), tl] at h2
    generalize j - (xs.take k).length = q at h1 h2
    cases q with
    | zero => obtain rfl := Option.some.inj h1; obtain rfl := Option.some.inj h2; exact hx
    | succ q =>
      rw [List.getElem?_cons_succ, List.getElem?_drop] at h1 h2
      exact hF _ x' c h1 h2
set_option maxHeartbeats 8000000 in
set_option maxRecDepth 100000 in
theorem spec_ViewsOf.calls (k : Nat) (a0_0 : Int) (A0_1 : Option Addr) (c0_1 : Nat) (l0_1 : List Int) (A0_2 : Option Addr) (c0_2 : Nat) (l0_2 : List Int) (A0_3 : Option Addr) (c0_3 : Nat) (l0_3 : List Bool) (r : List (List Int)) (w : World) (hr0_1 : Kd.C (Kd.int .i64) w A0_1 l0_1.length l0_1) (hc0_1 : l0_1.length ≤ c0_1) (hr0_2 : Kd.C (Kd.int .i64) w A0_2 l0_2.length l0_2) (hc0_2 : l0_2.length ≤ c0_2) (hr0_3 : Kd.C Kd.bool w A0_3 l0_3.length l0_3) (hc0_3 : l0_3.length ≤ c0_3) (h : spec_ViewsOf.f k a0_0 l0_1 l0_2 l0_3 = some r) :
  Calls Try.prog 50 #[.agg #[.int .i64 a0_0, .slice A0_1 l0_1.length c0_1, .slice A0_2 l0_2.length c0_2, .slice A0_3 l0_3.length c0_3]] w fun e w' => ∃ v0_ : Value, e = .returned (v0_) ∧ Kd.N (Kd.slice 3 (Kd.int .i64)) 24 w' w.heap.size (fun k_ => (w.heap.size ≤ k_)) v0_ r ∧ Below w.heap.size w w' := by
 have hu27 := Try.underlying27
 have HR0_1 := sd_ hr0_1
 have HC0_1 := sd_ hc0_1
 clear hr0_1 hc0_1
 have HR0_2 := sd_ hr0_2
 have HC0_2 := sd_ hc0_2
 clear hr0_2 hc0_2
 have HR0_3 := sd_ hr0_3
 have HC0_3 := sd_ hc0_3
 clear hr0_3 hc0_3
 have HB := sd_ (Below.refl w.heap.size w)
 unfold spec_ViewsOf.f at h
 obtain ⟨J0, A20, H⟩ := Option.bind_eq_some_iff.mp h
 clear h
 try dsimp only at H
 have A2 := sd_ A20
 clear A20
 have HP3 := sd_ H
 clear H
 go_enter Try.func50, Try.ntmps50
 go_upto_if 10 with (first | ((with_reducible refine gate_dst (N := 1) rfl ?_); refine bx_ (N := 1) (cs := #[.int .i64 a0_0, .slice A0_1 l0_1.length c0_1, .slice A0_2 l0_2.length c0_2, .slice A0_3 l0_3.length c0_3]) (t := 27) ?_; intro gb1 hg w4 hbox hb; have BK1 := sd_ (hbox); have GE1 := sd_ (gs_ hg (bw0_ HB.out)); replace HB := sd_ (below_step (bw0_ HB.out) hb); clear hb hbox hg; obtain ⟨hcz5_0, hcz5_1, hcz5_2, hcz5_3, hfz5_0, hfz5_1, hfz5_2, hfz5_3⟩ := bf4_ BK1.out) | ((with_reducible refine gate_callee (f := 44) rfl ?_); refine goesL_ (some 9) rfl rfl Try.func44 (by kernel_rfl) rfl #[.agg #[.int .i64 a0_0, .slice A0_1 l0_1.length c0_1, .slice A0_2 l0_2.length c0_2, .slice A0_3 l0_3.length c0_3]] rfl la_ ?_; (with_reducible refine (spec_IsSystem.calls k a0_0 _ _ l0_1 _ _ l0_2 _ _ l0_3 J0 _ (kc_ HR0_1.out HB.out) HC0_1.out (kc_ HR0_2.out HB.out) HC0_2.out (kc_ HR0_3.out HB.out) HC0_3.out A2.out).mono ?_); rintro e w6 ⟨rfl, hb⟩; refine ⟨_, rfl, ?_⟩; replace BK1 := sd_ (bb_ BK1.out hb); replace HB := sd_ (below_step (bw1_ HB.out GE1.out) hb); (try clear hb)))
 have H := HP3.out
 clear HP3
 by_cases c7 : J0 = true
 rotate_left
 · replace c7 := Bool.eq_false_iff.mpr c7
   subst c7
   rw [if_neg (by decide)] at H
   obtain rfl := Option.some.inj H
   go_wp2
   go_ret
   exact ⟨_, rfl, Kd.N_nil _ _ _ _ _, bw1_ HB.out GE1.out⟩
 subst c7
 rw [if_pos rfl] at H
 split at H
 case isFalse => cases H
 rename_i hsz
 obtain ⟨hz1, hz2⟩ := hsz
 obtain ⟨all, A30, H⟩ := Option.bind_eq_some_iff.mp H
 have A3 := sd_ A30
 clear A30
 have HL := sd_ H
 clear H
 clear hcz5_0 hcz5_1 hcz5_2 hcz5_3 hfz5_0 hfz5_1 hfz5_2 hfz5_3
 have z0 : 0 ≤ a0_0 := by omega
 have z0b0 := eq_true z0
 have z0b1 : decide (0 ≤ a0_0) = true := decide_eq_true z0
 have z1b0 := eq_true hz1
 have z1b1 : decide ((a0_0 : Int).toNat ≤ 281474976710656) = true := decide_eq_true hz1
 obtain ⟨y1, hy1⟩ : ∃ y_ : List Bool, y_ = (List.replicate (a0_0 : Int).toNat false) := ⟨_, rfl⟩
 have hy1l : 1 < (y1.length : Int) := by rw [hy1, List.length_replicate]; omega
 rw [← hy1] at A3
 have Ny1 := sd_ hy1
 clear hy1
 obtain ⟨hcz5_0, hcz5_1, hcz5_2, hcz5_3, hfz5_0, hfz5_1, hfz5_2, hfz5_3⟩ := bf4_ BK1.out
 go_upto_region 4 with (first | ((with_reducible refine gate_dst (N := 13) rfl ?_); refine Kd.R_make Kd.bool _ 4 rfl (N := 13) rfl 25 _ _ rfl a0_0 rfl rfl Try.underlying25 (.bool false) 1 info4 rfl (by decide) (by omega) false (ok := fun _ => True) (okp := fun _ => True) rfl (fun _ hk => hk) trivial z0 (Nat.le_trans (Nat.mul_le_mul_right _ hz1) (by omega)) (Below.refl _ _) (Nat.le_refl _) ?_; intro v387 w14 ho15 hb hg_ hnew_; clear hg_ hnew_; (first | rw [← Ny1.out] at ho15 | (simp only [Int.reduceToNat] at ho15; rw [← Ny1.out] at ho15)); have HO3 := sd_ (Kd.R_lower ho15 (below_size (bw1_ HB.out GE1.out))); replace BK1 := sd_ (bb_ BK1.out hb); replace HB := sd_ (below_step (bw1_ HB.out GE1.out) hb); clear hb ho15; obtain ⟨J2, J1, eo16⟩ := Kd.R_slice HO3.out; subst eo16))
 obtain ⟨go, co, eo, gb, gl, cl, HG⟩ := Kd.R_form HO3.out (by omega)
 injection eo with ea_ en_ ec_
 subst ea_
 subst ec_
 clear en_
 have GB := sd_ gb
 clear gb gl HG
 obtain ⟨hx22_0, hf22_0⟩ := Kd.R_celln false HO3.out (1 : Int) (by decide) hy1l
 have HP24 := Kd.R_putg HO3.out (1 : Int) true
 have hl1 : (1 : Int) < (y1.length : Int) := hy1l
 have hl1b := eq_true hl1
 have hl2 : 1 < y1.length := by omega
 have hl2b := eq_true hl2

 have hx1 : w14.cell? ⟨go, 1, none⟩ = some (.bool (rdOf false y1 1)) := hx22_0
 have hf1 : w14.frozen? ⟨go, 1, none⟩ = false := hf22_0
 clear hx22_0 hf22_0
 go_upto_region 5 with (first | ((with_reducible refine gate_store (t := 4) (p := 15) rfl ?_); refine store_event (t := 4) (p := 15) (v := ?vo) (w1 := (w14.setCell ⟨go, 1, none⟩ (.bool true))) ?hg ?ho ?hn ?hr ?_; (case ho => rfl); (case hg => rfl); (case hn => rfl); (case hr => first | (go_simp; done) | (go_simp; rfl)); intro w25 hw; have hg : w14.grownBy w25 (some go) := (by rw [hw]; exact HP24.2); have hp_ : Kd.R Kd.bool 4 w25 w.heap.size (fun _ => True) (.slice (some ⟨go, 0, none⟩) y1.length J1) (y1.set 1 true) := (by rw [hw]; exact HP24.1); clear HP24; have HO5 := sd_ hp_; replace BK1 := sd_ (blk_grown (g := gb1) (o := .cells #[.int .i64 a0_0, .slice A0_1 l0_1.length c0_1, .slice A0_2 l0_2.length c0_2, .slice A0_3 l0_3.length c0_3] 27 (0, 0)) (bz_ BK1.out) hg (Kd.R_ne HO3.out BK1.out (by decide))); replace HB := sd_ ((by rw [hw]; exact below_set (HB.out) GB.out : Below w.heap.size w w25)); clear hg hw hp_))
 clear hcz5_0 hcz5_1 hcz5_2 hcz5_3 hfz5_0 hfz5_1 hfz5_2 hfz5_3 hx1 hf1
 obtain ⟨hcz5_0, hcz5_1, hcz5_2, hcz5_3, hfz5_0, hfz5_1, hfz5_2, hfz5_3⟩ := bf4_ BK1.out
 go_upto_region 6 with (first | ((with_reducible refine gate_callee (f := 71) rfl ?_); refine goesL_ (some 18) rfl rfl Try.func71 (by kernel_rfl) rfl #[.agg #[.int .i64 a0_0, .slice A0_1 l0_1.length c0_1, .slice A0_2 l0_2.length c0_2, .slice A0_3 l0_3.length c0_3], .slice (some ⟨go, 0, none⟩) (y1.set 1 true).length J1, .int .i64 2] rfl (by (try simp only [List.map_toArray, List.map_cons, List.map_nil, List.length_set]); first | done | rfl) ?_; (with_reducible refine (spec_l1Views.calls k a0_0 _ _ l0_1 _ _ l0_2 _ _ l0_3 _ _ (y1.set 1 true) 2 all _ (kc_ HR0_1.out HB.out) HC0_1.out (kc_ HR0_2.out HB.out) HC0_2.out (kc_ HR0_3.out HB.out) HC0_3.out ?side1 ?side2 A3.out).mono ?_); (case side1 => exact (Kd.R_reads' HO5.out).2.2); (case side2 => have q_ := Kd.R_reads' HO5.out; omega); rintro e w31 ⟨v0, rfl, ho0, hb⟩; refine ⟨_, rfl, ?_⟩; have HW := sd_ HB.out.size; have HALL := sd_ ho0; replace HB := sd_ (below_step HB.out hb); clear ho0 hb))
 clear hcz5_0 hcz5_1 hcz5_2 hcz5_3 hfz5_0 hfz5_1 hfz5_2 hfz5_3
 have HALb := sd_ (Kd.N_bound HALL.out)
 clear HALL HO5 HO3 BK1 A3
 obtain ⟨Aa, ca, eo⟩ := Kd.N_slice HALb.out
 subst eo
 have HS := sd_ HB.out.size
 have HAR := sd_ (Kd.N_reads' HALb.out)
 go_upto_region 7 with (first | ((with_reducible refine gate_dst (N := 19) rfl ?_); refine Kd.R_lit (Kd.raw 1) _ 24 ?hg (N := 19) ?hd (xs := ([] : List (List Value))) (inner := []) (ok := fun _ => True) (okp := fun _ => True) ?hr ?hp (fun _ hk => hk) trivial (Below.refl _ _) (Nat.le_refl _) (by simp) ?_; (case hd => rfl); (case hg => rfl); (case hr => first | (go_simp; done) | (go_simp; rfl)); (case hp => exact (Reps.none _ _)); intro v235 w32 ho14 hb hg_ hnew_; clear hg_ hnew_; have HO := sd_ ho14; have HB1 := sd_ hb; clear hb ho14))
 have hsz22 : (Try.prog.info? 24).map (·.size) = some 1 := by kernel_rfl
 obtain ⟨i08, hi08, _, hsz8, _⟩ := info_parts info24
 go_wp2
 go_loopg [5, 6] k (fun kq v5 v6 w' => ∃ (out : List (List Int)) (i : Int), v6 = .int .i64 i ∧ Aside0 (spec_ViewsOf.l0 kq all out i = some r) ∧ Aside0 (kq ≤ k) ∧ Aside0 (OutP w.heap.size w31 w' v5 out) ∧ Aside0 (Below w31.heap.size w31 w'))
 case atStart => exact ⟨[], 0, sm_, HL, ⟨Nat.le_refl _⟩, ⟨⟨[], rfl, HO.out, fun j x c h _ => by simp at h⟩⟩, HB1⟩
 case round =>
  clear HL HO HB1
  obtain ⟨out, i, rfl, HA, HK1, HO, HB1⟩ := hrel
  obtain ⟨W1, hW1⟩ : ∃ x, x = wr := ⟨_, rfl⟩
  subst hW1
  cases gk with
  | zero => exact absurd HA.out (by simp [spec_ViewsOf.l0])
  | succ k1 =>
   have H := HA.out
   clear HA
   simp only [spec_ViewsOf.l0] at H
   have HN := sd_ (HO.out.N HS.out HB1.out)
   obtain ⟨Ao, co, eo⟩ := Kd.N_slice HN.out
   subst eo
   by_cases c1 : i < (all.length : Int)
   rotate_left
   · rw [if_neg c1] at H
     have c1b : decide (i < (all.length : Int)) = false := decide_eq_false c1
     obtain rfl := Option.some.inj H
     clear c1
     go_wp2
     go_ret
     exact ⟨_, rfl, Kd.N_lower HN.out HS.out, below_step HB.out HB1.out⟩
   rw [if_pos c1] at H
   have c1b : decide (i < (all.length : Int)) = true := decide_eq_true c1
   by_cases c2 : ¬ (0 ≤ i)
   · rw [if_neg c2] at H; exact absurd H (by simp)
   replace c2 := Decidable.not_not.mp c2
   rw [if_pos c2] at H
   by_cases c3 : ¬ (out.length < 5864062014804)
   · rw [if_neg c3] at H; exact absurd H (by simp)
   replace c3 := Decidable.not_not.mp c3
   rw [if_pos c3] at H
   obtain ⟨kk, A50, H⟩ := Option.bind_eq_some_iff.mp H
   by_cases c4 : ¬ (0 ≤ kk ∧ kk ≤ (out.length : Int))
   · rw [if_neg c4] at H; exact absurd H (by simp)
   replace c4 := Decidable.not_not.mp c4
   rw [if_pos c4] at H
   have A5 := sd_ A50
   have HX := sd_ H
   have L3 := sd_ c3
   have K4 := sd_ c4
   clear A50 H c3 c4
   obtain ⟨ada, _, eA, _⟩ := Kd.C_get HAR.out.2.2 ([] : List Int) i c2 c1
   subst eA
   obtain ⟨cv, hcl, hFK, hcc⟩ := Kd.N_get HALb.out ([] : List Int) i c2 c1
   rw [show all.getD i.toNat ([] : List Int) = rd_L3 all i from rfl] at hFK
   obtain ⟨vi, rfl⟩ : ∃ v, cv = [v] := by
    rcases cv with _ | ⟨v, _ | _⟩
    · exact absurd hcl (by simp [Kd.slice])
    · exact ⟨v, rfl⟩
    · exact absurd hcl (by simp [Kd.slice])
   have hx_ := hcc 0 vi rfl
   rw [show (Kd.slice 3 (Kd.int .i64)).sz = 1 from rfl, Nat.mul_one, Nat.add_zero] at hx_
   have hxA := (HB1.out.cell (World.block_lt_of_cell? w31 _ hx_)).trans hx_
   have HF := sd_ (Kd.FK_mono (ok' := fun k => w.heap.size ≤ k ∧ k < w31.heap.size) hFK (fun k hk => ⟨Nat.le_trans HW.out hk.1.1, hk.1.2⟩))
   obtain ⟨Ai, ci, ev, hli, hCi⟩ := Kd.FK_now (Kd.FK_step (W1 := W1) HF.out (fun k hk _ => HB1.out.block k hk.2))
   injection ev with ev _
   subst ev
   have HCi := sd_ hCi
   have HLi := sd_ hli
   have HXO := sd_ hx_
   clear hcc hcl hFK hx_ hCi hli
   have p0 := eq_true c2
   have q0 := eq_true c1
   clear c1 c2
   go_upto_block 2 with (fail)
   go_cut [7] (fun v7 wc => v7 = .int .i64 kk ∧ Drawn0 W1 wc)
   case first =>
    go_wp2
    go_loopg [7] k1 (fun kq v7 w' => ∃ (j : Int), v7 = .int .i64 j ∧ Aside0 (spec_ViewsOf.l1 kq (rd_L3 all i) out j = some kk) ∧ Aside0 (kq ≤ k1) ∧ Drawn0 W1 w')
    case atStart => exact ⟨(out.length : Int), sm_, A5, ⟨Nat.le_refl _⟩, Drawn0.refl _⟩
    case round =>
     clear A5
     obtain ⟨j, rfl, HA, HK2, ⟨m1, rfl⟩⟩ := hrel
     cases gk with
     | zero => exact absurd HA.out (by simp [spec_ViewsOf.l1])
     | succ k2 =>
      have H := HA.out
      clear HA
      simp only [spec_ViewsOf.l1] at H
      by_cases d1 : j > 0
      rotate_left
      · rw [if_neg d1] at H
        have d1b : decide (j > 0) = false := decide_eq_false d1
        have d1c : decide (0 < j) = false := decide_eq_false d1
        obtain rfl := Option.some.inj H
        clear H d1
        go_wp2
        repeat (go_quiet (fail); try go_wp2)
        go_meet
        case rel => exact ⟨rfl, by repeat (first | exact Drawn0.refl _ | apply Drawn0.step)⟩
      rw [if_pos d1] at H
      have d1b : decide (j > 0) = true := decide_eq_true d1
      have d1c : decide (0 < j) = true := decide_eq_true d1
      by_cases d2 : ¬ (0 ≤ wrap64 (j - 1))
      · rw [if_neg d2] at H; exact absurd H (by simp)
      replace d2 := Decidable.not_not.mp d2
      rw [if_pos d2] at H
      by_cases d3 : ¬ (wrap64 (j - 1) < (out.length : Int))
      · rw [if_neg d3] at H; exact absurd H (by simp)
      replace d3 := Decidable.not_not.mp d3
      rw [if_pos d3] at H
      obtain ⟨t, A60, H⟩ := Option.bind_eq_some_iff.mp H
      have A6 := sd_ A60
      have H' := sd_ H
      clear A60 H d1
      obtain ⟨ado, Ao2, co2, eo2, hxo, hlo, hio⟩ := at_L3 (Kd.N_reads' HN.out).2.2 (wrap64 (j - 1)) d2 d3
      cases eo2
      have HRo := sd_ hio
      have HCo := sd_ hlo
      clear hio hlo
      have p1 := eq_true d2
      have q1 := eq_true d3
      clear d2 d3
      cases t
      · have H := H'.out
        clear H'
        rw [if_neg (by decide)] at H
        obtain rfl := Option.some.inj H
        clear H
        go_wp2_with (first | (go_at_call 72; (with_reducible refine (spec_l1Less.calls k2 _ _ (rd_L3 all i) _ _ (rd_L3 out (wrap64 (j - 1))) false _ (kp_ HCi.out) HLi.out (kp_ HRo.out) HCo.out A6.out).mono ?_); rintro e w' ⟨rfl, ⟨nd, rfl⟩⟩; (try first | exact ⟨rfl, _, World.drewN_drewN _ _ _⟩ | exact ⟨rfl, _, Eq.trans (World.drewN_drewN _ _ _) (congrArg (World.drewN _) (Nat.add_assoc _ _ _))⟩)))
        repeat (go_quiet (first | (go_at_call 72; (with_reducible refine (spec_l1Less.calls k2 _ _ (rd_L3 all i) _ _ (rd_L3 out (wrap64 (j - 1))) false _ (kp_ HCi.out) HLi.out (kp_ HRo.out) HCo.out A6.out).mono ?_); rintro e w' ⟨rfl, ⟨nd, rfl⟩⟩; (try first | exact ⟨rfl, _, World.drewN_drewN _ _ _⟩ | exact ⟨rfl, _, Eq.trans (World.drewN_drewN _ _ _) (congrArg (World.drewN _) (Nat.add_assoc _ _ _))⟩))); try go_wp2_with (first | (go_at_call 72; (with_reducible refine (spec_l1Less.calls k2 _ _ (rd_L3 all i) _ _ (rd_L3 out (wrap64 (j - 1))) false _ (kp_ HCi.out) HLi.out (kp_ HRo.out) HCo.out A6.out).mono ?_); rintro e w' ⟨rfl, ⟨nd, rfl⟩⟩; (try first | exact ⟨rfl, _, World.drewN_drewN _ _ _⟩ | exact ⟨rfl, _, Eq.trans (World.drewN_drewN _ _ _) (congrArg (World.drewN _) (Nat.add_assoc _ _ _))⟩))))
        go_meet
        case rel => exact ⟨rfl, by repeat (first | exact Drawn0.refl _ | apply Drawn0.step)⟩
      · have H := H'.out
        clear H'
        rw [if_pos rfl] at H
        have H' := sd_ H
        clear H
        go_wp2_with (first | (go_at_call 72; (with_reducible refine (spec_l1Less.calls k2 _ _ (rd_L3 all i) _ _ (rd_L3 out (wrap64 (j - 1))) true _ (kp_ HCi.out) HLi.out (kp_ HRo.out) HCo.out A6.out).mono ?_); rintro e w' ⟨rfl, ⟨nd, rfl⟩⟩; (try first | exact ⟨rfl, _, World.drewN_drewN _ _ _⟩ | exact ⟨rfl, _, Eq.trans (World.drewN_drewN _ _ _) (congrArg (World.drewN _) (Nat.add_assoc _ _ _))⟩)))
        repeat (go_quiet (first | (go_at_call 72; (with_reducible refine (spec_l1Less.calls k2 _ _ (rd_L3 all i) _ _ (rd_L3 out (wrap64 (j - 1))) true _ (kp_ HCi.out) HLi.out (kp_ HRo.out) HCo.out A6.out).mono ?_); rintro e w' ⟨rfl, ⟨nd, rfl⟩⟩; (try first | exact ⟨rfl, _, World.drewN_drewN _ _ _⟩ | exact ⟨rfl, _, Eq.trans (World.drewN_drewN _ _ _) (congrArg (World.drewN _) (Nat.add_assoc _ _ _))⟩))); try go_wp2_with (first | (go_at_call 72; (with_reducible refine (spec_l1Less.calls k2 _ _ (rd_L3 all i) _ _ (rd_L3 out (wrap64 (j - 1))) true _ (kp_ HCi.out) HLi.out (kp_ HRo.out) HCo.out A6.out).mono ?_); rintro e w' ⟨rfl, ⟨nd, rfl⟩⟩; (try first | exact ⟨rfl, _, World.drewN_drewN _ _ _⟩ | exact ⟨rfl, _, Eq.trans (World.drewN_drewN _ _ _) (congrArg (World.drewN _) (Nat.add_assoc _ _ _))⟩))))
        go_roundg k2
        case measure => have := HK2.out; omega
        case rel => exact ⟨wrap64 (j - 1), sm_, H', ⟨by have := HK2.out; omega⟩, by repeat (first | exact Drawn0.refl _ | apply Drawn0.step)⟩
   case rest =>
    clear A5
    obtain ⟨rfl, ⟨m2, rfl⟩⟩ := hcut
    have HO2 := sd_ (HO.out.step (pw_below_drewN (Below.refl _ _) m2))
    have HB2 := sd_ (pw_below_drewN HB1.out m2)
    clear hxA HCi HN HO HB1
    generalize W1.drewN m2 = W2 at HO2 HB2 ⊢
    obtain ⟨rows, hrl, hR, hF⟩ := HO2.out
    have HRW := sd_ hR
    have HFs := sd_ hF
    clear hR hF HO2
    go_upto_region 14 with (first | ((with_reducible refine gate_builtin (b := .append) (xs := #[.tmp 44, .tmp 45]) rfl ?_); at_builtin; refine Kd.R_append (Kd.raw 1) (w0 := w31) w31.heap.size rfl (.tmp 44) (.tmp 45) 32 24 (.slice none 0 0) 24 rfl Try.underlying32 info24 rfl (by decide) (by omega) (.slice Ao out.length co) rows [.slice none 0 0] [.slice none 0 0] (fun _ => True) (fun _ => False) rfl rfl ?aP (fun _ hk => hk.elim) ?aF ?aO ?aB ?aS ?aL ?_; (case aP => exact ⟨rfl, rfl, fun u hu => by rw [List.mem_singleton.1 hu]; rfl⟩); (case aF => exact (fun _ _ => trivial)); (case aO => exact HRW.out); (case aB => exact HB2.out); (case aS => exact HB2.out.size); (case aL => have := L3.out; omega); intro v1 W3 ho hb hg hat; have HRW3 := sd_ ho; have HB3 := sd_ hb; clear ho hb hg hat))
    obtain ⟨n1, hn1⟩ : ∃ n, n = out.length + 1 := ⟨_, rfl⟩
    have hrl1 : (rows ++ [[Value.slice none 0 0]]).length = n1 := by simp [hrl, hn1]
    obtain ⟨g, cap, e3, -, -, -⟩ := Kd.R_form HRW3.out (by rw [hrl1]; omega)
    rw [hrl1] at e3
    subst e3
    obtain ⟨-, hbg, cur, hh, hn, hcap, hsz, hcells⟩ := raw_cells HRW3.out (by omega)
    obtain ⟨L, rfl⟩ : ∃ L : List Value, cur = L.toArray := ⟨cur.toList, by simp⟩
    have hLl : L.length = cap := by simpa using hsz
    have hcell : ∀ (j : Nat) (c : List Value), rows[j]? = some c → ∃ u, c = [u] ∧ L.toArray[j]? = some u ∧ u.oneCell' = true := fun j c hj => hcells j c (by rw [List.getElem?_append_left (List.getElem?_eq_some_iff.1 hj).1]; exact hj)
    have hone : ∀ j, j < out.length → ∀ u, L[j]? = some u → u.oneCell' = true := fun j hj u hu => by
      obtain ⟨u', _, h2, h3⟩ := hcell j rows[j] (List.getElem?_eq_getElem (by omega))
      rw [List.getElem?_toArray] at h2
      rw [h2] at hu
      rw [← Option.some.inj hu]; exact h3
    have hk1 : 0 ≤ kk := K4.out.1
    have hk2 : kk ≤ (out.length : Int) := K4.out.2
    have ew : wrap64 (kk + 1) = kk + 1 := by have := L3.out; unfold wrap64; omega
    have ewn : (wrap64 (kk + 1)).toNat = kk.toNat + 1 := by rw [ew]; omega
    have hwr : IntKind.i64.wrap (kk + 1) = kk + 1 := (i64_w _).trans ew
    have pA := eq_true (show 0 ≤ kk + 1 by omega)
    have qA := eq_true (show kk + 1 ≤ (n1 : Int) by omega)
    have pB := eq_true hk1
    have qB := eq_true (show kk ≤ (n1 : Int) by omega)
    obtain ⟨cs, hcs⟩ : ∃ cs, cs = (L.drop kk.toNat).take (out.length - kk.toNat) := ⟨_, rfl⟩
    have hcl : cs.length = out.length - kk.toNat := by rw [hcs, List.length_take, List.length_drop]; omega
    have hcat : ∀ j v, cs[j]? = some v → L[kk.toNat + j]? = some v ∧ j < out.length - kk.toNat := fun j v hj => by
      have hjl := (List.getElem?_eq_some_iff.1 hj).1
      rw [hcl] at hjl
      rw [hcs, List.getElem?_take_of_lt hjl, List.getElem?_drop] at hj
      exact ⟨hj, hjl⟩
    have hpos : ∀ W : World, W.heap[g]? = some (.cells L.toArray 24 (0, 0)) → 0 < cs.length → (if cap = (kk + 1).toNat then some ⟨g, 0, none⟩ else some ⟨g, (kk + 1).toNat, none⟩ : Option Addr) = some ⟨g, kk.toNat + 1, none⟩ ∧ ∃ ad, (if cap = kk.toNat then some ⟨g, 0, none⟩ else some ⟨g, kk.toNat, none⟩ : Option Addr) = some ad ∧ ∀ j v, cs[j]? = some v → W.cell? (ad.add j) = some v := by
      intro W hW hp
      refine ⟨?_, ⟨g, kk.toNat, none⟩, ?_, fun j v hj => ?_⟩
      · rw [if_neg (by omega), show (kk + 1).toNat = kk.toNat + 1 by omega]
      · rw [if_neg (by omega)]
      · rw [addr_add_, blk_cell hW, List.getElem?_toArray]
        exact (hcat j v hj).1
    have hsn : cs.length = min (n1 - kk.toNat) (n1 - (kk + 1).toNat) := by omega
    have hsf : kk.toNat + 1 + cs.length ≤ L.length := by omega
    have hs1 : ∀ v ∈ cs, v.oneCell' = true := fun v hv => by
      obtain ⟨j, hj⟩ := List.mem_iff_getElem?.1 hv
      exact hone _ (by have := (hcat j v hj).2; omega) v (hcat j v hj).1
    have HN1 := sd_ hn1
    have HRL := sd_ hrl
    have HCS := sd_ hcs
    have HCE := sd_ hcell
    have HSN := sd_ hsn
    have HSF := sd_ hsf
    have HS1 := sd_ hs1
    have HPO := sd_ hpos
    have HHH := sd_ hh
    have HLL := sd_ hLl
    have HNC := sd_ (And.intro hn hcap)
    have HCL := sd_ hcl
    clear hcells hn1 hcs hcl hcat hsn hsf hs1 hpos hone hcell hrl hrl1 hn hcap hsz ew ewn hh hLl
    go_still_tail 7, (by kernel_rfl)
    refine wpList_copy_splice rfl (.tmp 50) (.tmp 53) 32 32 rfl 24 Try.underlying32 hsz22 _ _ _ _ _ _ rfl rfl g (kk.toNat + 1) L 24 ?sg cs ?sn ?sp ?sf ?s1 w31.heap.size w31 ?sb hbg ?_
    (case sg => exact HHH.out)
    (case sn => exact HSN.out)
    (case sp => exact HPO.out _ HHH.out)
    (case sf => exact HSF.out)
    (case s1 => exact HS1.out)
    (case sb => first | exact HB3.out | exact pw_below_drewN HB3.out _ | exact below_drew1 HB3.out)
    intro W4 hg4 hb4
    have HG4 := sd_ hg4.out
    have HB4 := sd_ hb4
    clear hg4 hb4
    have hxA4 := (HB4.out.cell (World.block_lt_of_cell? w31 _ HXO.out)).trans HXO.out
    have hspl : (splice L (kk.toNat + 1) cs).length = L.length := length_splice _ _ _ HSF.out
    obtain ⟨uo, huo⟩ : ∃ u, (splice L (kk.toNat + 1) cs).toArray[kk.toNat]? = some u := ⟨_, Array.getElem?_eq_getElem (by rw [List.size_toArray, hspl, HLL.out]; have := HNC.out.1; have := K4.out.2; have := HN1.out; omega)⟩
    have hxo4 : W4.cell? ⟨g, kk.toNat, none⟩ = some uo := (blk_cell HG4.out _).trans huo
    have hfo4 : W4.frozen? ⟨g, kk.toNat, none⟩ = false := blk_frozen HG4.out _
    have pC := eq_true hk1
    have qC := eq_true (show kk < (n1 : Int) by have := HN1.out; omega)
    clear hspl huo
    generalize (if cap = (kk + 1).toNat then (some ⟨g, 0, none⟩ : Option Addr) else some ⟨g, (kk + 1).toNat, none⟩) = D1_
    generalize (if cap = kk.toNat then (some ⟨g, 0, none⟩ : Option Addr) else some ⟨g, kk.toNat, none⟩) = D2_
    go_wp2
    go_roundg k1
    case measure => have := HK1.out; omega
    case rel =>
     obtain rfl := HN1.out
     have hP := OutP.put (k := kk.toNat) HRL.out HFs.out HF.out
     refine ⟨out.take kk.toNat ++ rd_L3 all i :: out.drop kk.toNat, wrap64 (i + 1), sm_, HX, ⟨by have := HK1.out; omega⟩, ⟨⟨_, hP.1, ?_, hP.2⟩⟩, ⟨?_⟩⟩
     · refine out_put (k := kk.toNat) (cur := L.toArray) (n := out.length) hbg HRL.out HNC.out.1 HNC.out.2 (by omega) (by simpa using HLL.out) rfl HCE.out (cur3 := _) rfl ?_
       rw [setCell_eq_setRow W4 g kk.toNat _ _ (0, 0) _ HG4.out]
       rw [HCS.out]
       exact setRow_heap _ _ _ _ _ _ HG4.out
     · exact below_set HB4.out hbg
end Go.Proofs.Ytjjkagnbdfofbaa.P
