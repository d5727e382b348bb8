-- Printed by this session's own program (wip/tools/mkprint.py) out of the translation. Not trusted: Lean checks it.
import Derived.Test.YtnokgkhkmnldeaaM1
import Derived.Test.YtnokgkhkmnldeaaM3
import Derived.Test.YtnokgkhkmnldeaaM5
import Derived.Test.YtnokgkhkmnldeaaM2
import Derived.Test.YtnokgkhkmnldeaaM4
import Derived.Test.YtnokgkhkmnldeaaPf44
import Derived.Test.YtnokgkhkmnldeaaM14
/-! short words -/
namespace Go.Proofs.Ytnokgkhkmnldeaa.P
open Go.RowKit Go.Proofs.YtnokgkhkmnldeaaW.PrintWords Go.Proofs.YtnokgkhkmnldeaaW.PrintLast Go.Proofs.YtnokgkhkmnldeaaW.PrintMore
attribute [local go_sem] max2_int min2_int max_two min_two max_three min_three max_four min_four   -- for this text's walks alone
set_option linter.unusedVariables false
set_option linter.unusedSimpArgs false

/-! ### laws_FnExactIsTerm: function 12 -/
def laws_FnExactIsTerm.f (k : Nat) (a0_0 : Int) (l0_1 : List Int) (l0_2 : List Int) (l0_3 : List Bool) (a1_0 : Int) (a1_1 : Int) (l1_2 : List Int) (l1_3 : List (S43)) (a2 : Int) : Option (Bool) := (laws_szSystem.f a0_0 l0_1 l0_2 l0_3 1048576).bind fun t883 => (if t883 < 0 then (some true) else ((laws_szTerm.f k a1_0 a1_1 l1_2 l1_3 t883).bind fun t884 => (if t884 < 0 then (some true) else ((laws_toSystem.f k a0_0 l0_1 l0_2 l0_3).bind fun bt885 => ((laws_toTerm.f k a1_0 a1_1 l1_2 l1_3).bind fun bt895 => ((spec_IsTerm.f k bt885.1 bt885.2.1 bt885.2.2.1 bt885.2.2.2 bt895.1 bt895.2.1 bt895.2.2.1 bt895.2.2.2 a2).bind fun t903 => ((laws_toSystem.f k a0_0 l0_1 l0_2 l0_3).bind fun bt904 => ((laws_toTerm.f k a1_0 a1_1 l1_2 l1_3).bind fun bt915 => ((impl_IsTerm.f k bt904.1 bt904.2.1 bt904.2.2.1 bt904.2.2.2 bt915.1 bt915.2.1 bt915.2.2.1 bt915.2.2.2 a2).bind fun t924 => (if (t924 != t903) = true then (some false) else ((laws_toSystem.f k a0_0 l0_1 l0_2 l0_3).bind fun bt925 => ((laws_eqSystem.f k bt904.1 bt904.2.1 bt904.2.2.1 bt904.2.2.2 bt925.1 bt925.2.1 bt925.2.2.1 bt925.2.2.2).bind fun t935 => (if t935 = true then ((laws_toTerm.f k a1_0 a1_1 l1_2 l1_3).bind fun bt936 => ((laws_eqTerm.f k bt915.1 bt915.2.1 bt915.2.2.1 bt915.2.2.2 bt936.1 bt936.2.1 bt936.2.2.1 bt936.2.2.2).bind fun t944 => (if t944 = true then (some true) else (some false)))) else (some false))))))))))))))
set_option maxHeartbeats 8000000 in
set_option maxRecDepth 100000 in
theorem laws_FnExactIsTerm.calls (k : Nat) (a0_0 : Int) (A0_1 : Option Addr) (c0_1 : Nat) (l0_1 : List Int) (A0_2 : Option Addr) (c0_2 : Nat) (l0_2 : List Int) (A0_3 : Option Addr) (c0_3 : Nat) (l0_3 : List Bool) (a1_0 : Int) (a1_1 : Int) (A1_2 : Option Addr) (c1_2 : Nat) (l1_2 : List Int) (A1_3 : Option Addr) (c1_3 : Nat) (l1_3 : List (S43)) (a2 : Int) (r : Bool) (w : World) (hr0_1 : Kd.C (Kd.int .i64) w A0_1 l0_1.length l0_1) (hc0_1 : l0_1.length ≤ c0_1) (hr0_2 : Kd.C (Kd.int .i64) w A0_2 l0_2.length l0_2) (hc0_2 : l0_2.length ≤ c0_2) (hr0_3 : Kd.C Kd.bool w A0_3 l0_3.length l0_3) (hc0_3 : l0_3.length ≤ c0_3) (hr1_2 : Kd.C (Kd.int .i64) w A1_2 l1_2.length l1_2) (hc1_2 : l1_2.length ≤ c1_2) (hr1_3 : Kd.C k43 w A1_3 l1_3.length l1_3) (hc1_3 : l1_3.length ≤ c1_3) (h : laws_FnExactIsTerm.f k a0_0 l0_1 l0_2 l0_3 a1_0 a1_1 l1_2 l1_3 a2 = some r) (hr_ : r = true) :
  Calls Try.prog 12 #[.agg #[.int .i64 a0_0, .slice A0_1 l0_1.length c0_1, .slice A0_2 l0_2.length c0_2, .slice A0_3 l0_3.length c0_3], .agg #[.int .i64 a1_0, .int .i64 a1_1, .slice A1_2 l1_2.length c1_2, .slice A1_3 l1_3.length c1_3], .int .i64 a2] w fun e w' => e = .returned (.bool r) ∧ Below w.heap.size w w' := by
 have hu34 := Try.underlying34
 have hu43 := Try.underlying43
 have hu37 := Try.underlying37
 have hu48 := Try.underlying48
 have HR0_1 := sd_ hr0_1
 have HC0_1 := sd_ hc0_1
 clear hr0_1 hc0_1
 have HR0_2 := sd_ hr0_2
 have HC0_2 := sd_ hc0_2
 clear hr0_2 hc0_2
 have HR0_3 := sd_ hr0_3
 have HC0_3 := sd_ hc0_3
 clear hr0_3 hc0_3
 have HR1_2 := sd_ hr1_2
 have HC1_2 := sd_ hc1_2
 clear hr1_2 hc1_2
 have HR1_3 := sd_ hr1_3
 have HC1_3 := sd_ hc1_3
 clear hr1_3 hc1_3
 have HB := sd_ (Below.refl w.heap.size w)
 have H : ((laws_szSystem.f a0_0 l0_1 l0_2 l0_3 1048576).bind fun t883 => (if t883 < 0 then (some true) else ((laws_szTerm.f k a1_0 a1_1 l1_2 l1_3 t883).bind fun t884 => (if t884 < 0 then (some true) else ((laws_toSystem.f k a0_0 l0_1 l0_2 l0_3).bind fun bt885 => ((laws_toTerm.f k a1_0 a1_1 l1_2 l1_3).bind fun bt895 => ((spec_IsTerm.f k bt885.1 bt885.2.1 bt885.2.2.1 bt885.2.2.2 bt895.1 bt895.2.1 bt895.2.2.1 bt895.2.2.2 a2).bind fun t903 => ((laws_toSystem.f k a0_0 l0_1 l0_2 l0_3).bind fun bt904 => ((laws_toTerm.f k a1_0 a1_1 l1_2 l1_3).bind fun bt915 => ((impl_IsTerm.f k bt904.1 bt904.2.1 bt904.2.2.1 bt904.2.2.2 bt915.1 bt915.2.1 bt915.2.2.1 bt915.2.2.2 a2).bind fun t924 => (if (t924 != t903) = true then (some false) else ((laws_toSystem.f k a0_0 l0_1 l0_2 l0_3).bind fun bt925 => ((laws_eqSystem.f k bt904.1 bt904.2.1 bt904.2.2.1 bt904.2.2.2 bt925.1 bt925.2.1 bt925.2.2.1 bt925.2.2.2).bind fun t935 => (if t935 = true then ((laws_toTerm.f k a1_0 a1_1 l1_2 l1_3).bind fun bt936 => ((laws_eqTerm.f k bt915.1 bt915.2.1 bt915.2.2.1 bt915.2.2.2 bt936.1 bt936.2.1 bt936.2.2.1 bt936.2.2.2).bind fun t944 => (if t944 = true then (some true) else (some false)))) else (some false))))))))))))))) = some r := h
 clear h
 replace H := Option.bind_eq_some_iff.mp H
 obtain ⟨t883, A40, H⟩ := H
 try dsimp only at H
 have A4 := sd_ A40
 clear A40
 by_cases c5 : t883 < 0
 ·rw [if_pos c5] at H
  have c5b0 : decide (t883 < 0) = true := decide_eq_true c5
  clear c5
  obtain rfl := Option.some.inj H
  go_enter Try.func12, Try.ntmps12
  go_wp2_with (first | ((with_reducible refine gate_dst (N := 3) rfl ?_); refine box_event ?hg (N := 3) ?hd (cs := #[.int .i64 a0_0, .slice A0_1 l0_1.length c0_1, .slice A0_2 l0_2.length c0_2, .slice A0_3 l0_3.length c0_3]) (t := 34) ?hr ?_; (case hd => rfl); (case hg => rfl); (case hr => first | (go_simp; done) | (go_simp; rfl)); intro gb881 hg w6 hbox hb; have BK881 := sd_ (hbox); have GW881 := sd_ ((by rw [hg]; exact (below_size (bw0_ HB.out)) : w.heap.size ≤ gb881)); have GE881 := sd_ ((by rw [hg]; exact (below_size (bw0_ HB.out)) : w.heap.size ≤ gb881)); replace HB := sd_ (below_step (bw0_ HB.out) hb); clear hb hbox hg) | ((with_reducible refine gate_dst (N := 4) rfl ?_); refine box_event ?hg (N := 4) ?hd (cs := #[.int .i64 a1_0, .int .i64 a1_1, .slice A1_2 l1_2.length c1_2, .slice A1_3 l1_3.length c1_3]) (t := 43) ?hr ?_; (case hd => rfl); (case hg => rfl); (case hr => first | (go_simp; done) | (go_simp; rfl)); intro gb882 hg w7 hbox hb; have BK882 := sd_ (hbox); have GW882 := sd_ ((by rw [hg]; exact (below_size (bw1_ HB.out GE881.out)) : w.heap.size ≤ gb882)); have GE882 := sd_ ((by rw [hg]; exact (below_size (bw1_ HB.out GE881.out)) : w.heap.size ≤ gb882)); replace HB := sd_ (below_step (bw1_ HB.out GE881.out) hb); have NB881_882 := sd_ ((by rw [hg]; exact Nat.ne_of_lt (bl_ BK881.out) : gb881 ≠ gb882)); have NB882_881 := sd_ ((by rw [hg]; exact Nat.ne_of_gt (bl_ BK881.out) : gb882 ≠ gb881)); replace BK881 := sd_ (bb_ BK881.out hb); clear hb hbox hg; have hnb8 := NB881_882.out; have hnc8 := NB882_881.out; have hcz9_0 : w7.cell? ⟨gb881, 0, none⟩ = some (.int .i64 a0_0) := (blk_cell BK881.out 0).trans rfl; have hcz9_1 : w7.cell? ⟨gb881, 1, none⟩ = some (.slice A0_1 l0_1.length c0_1) := (blk_cell BK881.out 1).trans rfl; have hcz9_2 : w7.cell? ⟨gb881, 2, none⟩ = some (.slice A0_2 l0_2.length c0_2) := (blk_cell BK881.out 2).trans rfl; have hcz9_3 : w7.cell? ⟨gb881, 3, none⟩ = some (.slice A0_3 l0_3.length c0_3) := (blk_cell BK881.out 3).trans rfl; have hfz9_0 := blk_frozen BK881.out 0; have hfz9_1 := blk_frozen BK881.out 1; have hfz9_2 := blk_frozen BK881.out 2; have hfz9_3 := blk_frozen BK881.out 3) | ((with_reducible refine gate_callee (f := 24) rfl ?_); refine goesL_ (some 14) rfl rfl Try.func24 (by kernel_rfl) rfl #[.agg #[.int .i64 a0_0, .slice A0_1 l0_1.length c0_1, .slice A0_2 l0_2.length c0_2, .slice A0_3 l0_3.length c0_3], .int .i64 1048576] rfl (by (try simp only [List.map_toArray, List.map_cons, List.map_nil]); first | done | rfl | (simp only [List.length_drop, List.length_take]; rfl)) ?_; (with_reducible refine (laws_szSystem.calls a0_0 _ _ l0_1 _ _ l0_2 _ _ l0_3 1048576 t883 _ ?side1 ?side2 ?side3 ?side4 ?side5 ?side6 A4.out).mono ?_); (case side1 => exact kc_ HR0_1.out HB.out); (case side2 => exact HC0_1.out); (case side3 => exact kc_ HR0_2.out HB.out); (case side4 => exact HC0_2.out); (case side5 => exact kc_ HR0_3.out HB.out); (case side6 => exact HC0_3.out); rintro e w10 ⟨rfl, hb⟩; refine ⟨_, rfl, ?_⟩; replace BK881 := sd_ (bb_ BK881.out hb); replace BK882 := sd_ (bb_ BK882.out hb); replace HB := sd_ (below_step (bw2_ HB.out GE881.out GE882.out) hb); (try clear hb); (try clear hb2); (try clear hk); (try clear hi)))
  go_ret
  exact ⟨an_, bw2_ HB.out GE881.out GE882.out⟩
 ·rw [if_neg c5] at H
  have c5b0 : decide (t883 < 0) = false := decide_eq_false c5
  clear c5
  replace H := Option.bind_eq_some_iff.mp H
  obtain ⟨t884, A110, H⟩ := H
  try dsimp only at H
  have A11 := sd_ A110
  clear A110
  by_cases c12 : t884 < 0
  ·rw [if_pos c12] at H
   have c12b0 : decide (t884 < 0) = true := decide_eq_true c12
   clear c12
   obtain rfl := Option.some.inj H
   go_enter Try.func12, Try.ntmps12
   go_wp2_with (first | ((with_reducible refine gate_dst (N := 3) rfl ?_); refine box_event ?hg (N := 3) ?hd (cs := #[.int .i64 a0_0, .slice A0_1 l0_1.length c0_1, .slice A0_2 l0_2.length c0_2, .slice A0_3 l0_3.length c0_3]) (t := 34) ?hr ?_; (case hd => rfl); (case hg => rfl); (case hr => first | (go_simp; done) | (go_simp; rfl)); intro gb881 hg w13 hbox hb; have BK881 := sd_ (hbox); have GW881 := sd_ ((by rw [hg]; exact (below_size (bw0_ HB.out)) : w.heap.size ≤ gb881)); have GE881 := sd_ ((by rw [hg]; exact (below_size (bw0_ HB.out)) : w.heap.size ≤ gb881)); replace HB := sd_ (below_step (bw0_ HB.out) hb); clear hb hbox hg) | ((with_reducible refine gate_dst (N := 4) rfl ?_); refine box_event ?hg (N := 4) ?hd (cs := #[.int .i64 a1_0, .int .i64 a1_1, .slice A1_2 l1_2.length c1_2, .slice A1_3 l1_3.length c1_3]) (t := 43) ?hr ?_; (case hd => rfl); (case hg => rfl); (case hr => first | (go_simp; done) | (go_simp; rfl)); intro gb882 hg w14 hbox hb; have BK882 := sd_ (hbox); have GW882 := sd_ ((by rw [hg]; exact (below_size (bw1_ HB.out GE881.out)) : w.heap.size ≤ gb882)); have GE882 := sd_ ((by rw [hg]; exact (below_size (bw1_ HB.out GE881.out)) : w.heap.size ≤ gb882)); replace HB := sd_ (below_step (bw1_ HB.out GE881.out) hb); have NB881_882 := sd_ ((by rw [hg]; exact Nat.ne_of_lt (bl_ BK881.out) : gb881 ≠ gb882)); have NB882_881 := sd_ ((by rw [hg]; exact Nat.ne_of_gt (bl_ BK881.out) : gb882 ≠ gb881)); replace BK881 := sd_ (bb_ BK881.out hb); clear hb hbox hg; have hnb15 := NB881_882.out; have hnc15 := NB882_881.out; have hcz16_0 : w14.cell? ⟨gb881, 0, none⟩ = some (.int .i64 a0_0) := (blk_cell BK881.out 0).trans rfl; have hcz16_1 : w14.cell? ⟨gb881, 1, none⟩ = some (.slice A0_1 l0_1.length c0_1) := (blk_cell BK881.out 1).trans rfl; have hcz16_2 : w14.cell? ⟨gb881, 2, none⟩ = some (.slice A0_2 l0_2.length c0_2) := (blk_cell BK881.out 2).trans rfl; have hcz16_3 : w14.cell? ⟨gb881, 3, none⟩ = some (.slice A0_3 l0_3.length c0_3) := (blk_cell BK881.out 3).trans rfl; have hfz16_0 := blk_frozen BK881.out 0; have hfz16_1 := blk_frozen BK881.out 1; have hfz16_2 := blk_frozen BK881.out 2; have hfz16_3 := blk_frozen BK881.out 3) | ((with_reducible refine gate_callee (f := 24) rfl ?_); refine goesL_ (some 14) rfl rfl Try.func24 (by kernel_rfl) rfl #[.agg #[.int .i64 a0_0, .slice A0_1 l0_1.length c0_1, .slice A0_2 l0_2.length c0_2, .slice A0_3 l0_3.length c0_3], .int .i64 1048576] rfl (by (try simp only [List.map_toArray, List.map_cons, List.map_nil]); first | done | rfl | (simp only [List.length_drop, List.length_take]; rfl)) ?_; (with_reducible refine (laws_szSystem.calls a0_0 _ _ l0_1 _ _ l0_2 _ _ l0_3 1048576 t883 _ ?side1 ?side2 ?side3 ?side4 ?side5 ?side6 A4.out).mono ?_); (case side1 => exact kc_ HR0_1.out HB.out); (case side2 => exact HC0_1.out); (case side3 => exact kc_ HR0_2.out HB.out); (case side4 => exact HC0_2.out); (case side5 => exact kc_ HR0_3.out HB.out); (case side6 => exact HC0_3.out); rintro e w17 ⟨rfl, hb⟩; refine ⟨_, rfl, ?_⟩; replace BK881 := sd_ (bb_ BK881.out hb); replace BK882 := sd_ (bb_ BK882.out hb); replace HB := sd_ (below_step (bw2_ HB.out GE881.out GE882.out) hb); (try clear hb); (try clear hb2); (try clear hk); (try clear hi); have hcz18_0 : w17.cell? ⟨gb882, 0, none⟩ = some (.int .i64 a1_0) := (blk_cell BK882.out 0).trans rfl; have hcz18_1 : w17.cell? ⟨gb882, 1, none⟩ = some (.int .i64 a1_1) := (blk_cell BK882.out 1).trans rfl; have hcz18_2 : w17.cell? ⟨gb882, 2, none⟩ = some (.slice A1_2 l1_2.length c1_2) := (blk_cell BK882.out 2).trans rfl; have hcz18_3 : w17.cell? ⟨gb882, 3, none⟩ = some (.slice A1_3 l1_3.length c1_3) := (blk_cell BK882.out 3).trans rfl; have hfz18_0 := blk_frozen BK882.out 0; have hfz18_1 := blk_frozen BK882.out 1; have hfz18_2 := blk_frozen BK882.out 2; have hfz18_3 := blk_frozen BK882.out 3) | ((with_reducible refine gate_callee (f := 31) rfl ?_); refine goesL_ (some 19) rfl rfl Try.func31 (by kernel_rfl) rfl #[.agg #[.int .i64 a1_0, .int .i64 a1_1, .slice A1_2 l1_2.length c1_2, .slice A1_3 l1_3.length c1_3], .int .i64 t883] rfl (by (try simp only [List.map_toArray, List.map_cons, List.map_nil]); first | done | rfl | (simp only [List.length_drop, List.length_take]; rfl)) ?_; (with_reducible refine (laws_szTerm.calls k a1_0 a1_1 _ _ l1_2 _ _ l1_3 t883 t884 _ ?side1 ?side2 ?side3 ?side4 A11.out).mono ?_); (case side1 => exact kc_ HR1_2.out HB.out); (case side2 => exact HC1_2.out); (case side3 => exact kc_ HR1_3.out HB.out); (case side4 => exact HC1_3.out); rintro e w19 ⟨rfl, hb⟩; refine ⟨_, rfl, ?_⟩; replace BK881 := sd_ (bb_ BK881.out hb); replace BK882 := sd_ (bb_ BK882.out hb); replace HB := sd_ (below_step (bw2_ HB.out GE881.out GE882.out) hb); (try clear hb); (try clear hb2); (try clear hk); (try clear hi)))
   go_ret
   exact ⟨an_, bw2_ HB.out GE881.out GE882.out⟩
  ·rw [if_neg c12] at H
   have c12b0 : decide (t884 < 0) = false := decide_eq_false c12
   clear c12
   replace H := Option.bind_eq_some_iff.mp H
   obtain ⟨⟨t885, t886, t889, t892⟩, A200, H⟩ := H
   try dsimp only at H
   have A20 := sd_ A200
   clear A200
   replace H := Option.bind_eq_some_iff.mp H
   obtain ⟨⟨t895, t896, t897, t900⟩, A210, H⟩ := H
   try dsimp only at H
   have A21 := sd_ A210
   clear A210
   replace H := Option.bind_eq_some_iff.mp H
   obtain ⟨t903, A220, H⟩ := H
   try dsimp only at H
   have A22 := sd_ A220
   clear A220
   replace H := Option.bind_eq_some_iff.mp H
   obtain ⟨⟨t904, t905, t908, t911⟩, A230, H⟩ := H
   try dsimp only at H
   have A23 := sd_ A230
   clear A230
   replace H := Option.bind_eq_some_iff.mp H
   obtain ⟨⟨t915, t916, t917, t920⟩, A240, H⟩ := H
   try dsimp only at H
   have A24 := sd_ A240
   clear A240
   replace H := Option.bind_eq_some_iff.mp H
   obtain ⟨t924, A250, H⟩ := H
   try dsimp only at H
   have A25 := sd_ A250
   clear A250
   by_cases c26 : (t924 != t903) = true
   ·rw [if_pos c26] at H
    have c26b0 : (t924 != t903) = true := c26
    (try (have c26b1 : decide (t924 = t903) = false := by simpa using c26))
    (try (have c26b2 : (t924 == t903) = false := by simpa using c26))
    (try (have c26b3 : ¬ (t924 = t903) := by simpa using c26))
    clear c26
    obtain rfl := Option.some.inj H
    exact absurd hr_ (by decide)
   ·rw [if_neg c26] at H
    have c26b0 : (t924 != t903) = false := by simpa using c26
    (try (have c26b1 : decide (t924 = t903) = true := by simpa using c26))
    (try (have c26b2 : (t924 == t903) = true := by simpa using c26))
    clear c26
    replace H := Option.bind_eq_some_iff.mp H
    obtain ⟨⟨t925, t926, t929, t932⟩, A270, H⟩ := H
    try dsimp only at H
    have A27 := sd_ A270
    clear A270
    replace H := Option.bind_eq_some_iff.mp H
    obtain ⟨t935, A280, H⟩ := H
    try dsimp only at H
    have A28 := sd_ A280
    clear A280
    by_cases c29 : t935 = true
    ·subst c29
     have H1 : ((laws_toTerm.f k a1_0 a1_1 l1_2 l1_3).bind fun bt936 => ((laws_eqTerm.f k t915 t916 t917 t920 bt936.1 bt936.2.1 bt936.2.2.1 bt936.2.2.2).bind fun t944 => (if t944 = true then (some true) else (some false)))) = some r := by rw [if_pos rfl] at H; exact H
     clear H
     have H := H1
     clear H1
     replace H := Option.bind_eq_some_iff.mp H
     obtain ⟨⟨t936, t937, t938, t941⟩, A300, H⟩ := H
     try dsimp only at H
     have A30 := sd_ A300
     clear A300
     replace H := Option.bind_eq_some_iff.mp H
     obtain ⟨t944, A310, H⟩ := H
     try dsimp only at H
     have A31 := sd_ A310
     clear A310
     by_cases c32 : t944 = true
     ·subst c32
      have H1 : (some true) = some r := by rw [if_pos rfl] at H; exact H
      clear H
      have H := H1
      clear H1
      obtain rfl := Option.some.inj H
      go_enter Try.func12, Try.ntmps12
      try go_wp2_with (first | ((with_reducible refine gate_dst (N := 3) rfl ?_); refine box_event ?hg (N := 3) ?hd (cs := #[.int .i64 a0_0, .slice A0_1 l0_1.length c0_1, .slice A0_2 l0_2.length c0_2, .slice A0_3 l0_3.length c0_3]) (t := 34) ?hr ?_; (case hd => rfl); (case hg => rfl); (case hr => first | (go_simp; done) | (go_simp; rfl)); intro gb881 hg w33 hbox hb; have BK881 := sd_ (hbox); have GW881 := sd_ ((by rw [hg]; exact (below_size (bw0_ HB.out)) : w.heap.size ≤ gb881)); have GE881 := sd_ ((by rw [hg]; exact (below_size (bw0_ HB.out)) : w.heap.size ≤ gb881)); replace HB := sd_ (below_step (bw0_ HB.out) hb); clear hb hbox hg) | ((with_reducible refine gate_dst (N := 4) rfl ?_); refine box_event ?hg (N := 4) ?hd (cs := #[.int .i64 a1_0, .int .i64 a1_1, .slice A1_2 l1_2.length c1_2, .slice A1_3 l1_3.length c1_3]) (t := 43) ?hr ?_; (case hd => rfl); (case hg => rfl); (case hr => first | (go_simp; done) | (go_simp; rfl)); intro gb882 hg w34 hbox hb; have BK882 := sd_ (hbox); have GW882 := sd_ ((by rw [hg]; exact (below_size (bw1_ HB.out GE881.out)) : w.heap.size ≤ gb882)); have GE882 := sd_ ((by rw [hg]; exact (below_size (bw1_ HB.out GE881.out)) : w.heap.size ≤ gb882)); replace HB := sd_ (below_step (bw1_ HB.out GE881.out) hb); have NB881_882 := sd_ ((by rw [hg]; exact Nat.ne_of_lt (bl_ BK881.out) : gb881 ≠ gb882)); have NB882_881 := sd_ ((by rw [hg]; exact Nat.ne_of_gt (bl_ BK881.out) : gb882 ≠ gb881)); replace BK881 := sd_ (bb_ BK881.out hb); clear hb hbox hg; have hnb35 := NB881_882.out; have hnc35 := NB882_881.out; have hcz36_0 : w34.cell? ⟨gb881, 0, none⟩ = some (.int .i64 a0_0) := (blk_cell BK881.out 0).trans rfl; have hcz36_1 : w34.cell? ⟨gb881, 1, none⟩ = some (.slice A0_1 l0_1.length c0_1) := (blk_cell BK881.out 1).trans rfl; have hcz36_2 : w34.cell? ⟨gb881, 2, none⟩ = some (.slice A0_2 l0_2.length c0_2) := (blk_cell BK881.out 2).trans rfl; have hcz36_3 : w34.cell? ⟨gb881, 3, none⟩ = some (.slice A0_3 l0_3.length c0_3) := (blk_cell BK881.out 3).trans rfl; have hfz36_0 := blk_frozen BK881.out 0; have hfz36_1 := blk_frozen BK881.out 1; have hfz36_2 := blk_frozen BK881.out 2; have hfz36_3 := blk_frozen BK881.out 3) | ((with_reducible refine gate_callee (f := 24) rfl ?_); refine goesL_ (some 14) rfl rfl Try.func24 (by kernel_rfl) rfl #[.agg #[.int .i64 a0_0, .slice A0_1 l0_1.length c0_1, .slice A0_2 l0_2.length c0_2, .slice A0_3 l0_3.length c0_3], .int .i64 1048576] rfl (by (try simp only [List.map_toArray, List.map_cons, List.map_nil]); first | done | rfl | (simp only [List.length_drop, List.length_take]; rfl)) ?_; (with_reducible refine (laws_szSystem.calls a0_0 _ _ l0_1 _ _ l0_2 _ _ l0_3 1048576 t883 _ ?side1 ?side2 ?side3 ?side4 ?side5 ?side6 A4.out).mono ?_); (case side1 => exact kc_ HR0_1.out HB.out); (case side2 => exact HC0_1.out); (case side3 => exact kc_ HR0_2.out HB.out); (case side4 => exact HC0_2.out); (case side5 => exact kc_ HR0_3.out HB.out); (case side6 => exact HC0_3.out); rintro e w37 ⟨rfl, hb⟩; refine ⟨_, rfl, ?_⟩; replace BK881 := sd_ (bb_ BK881.out hb); replace BK882 := sd_ (bb_ BK882.out hb); replace HB := sd_ (below_step (bw2_ HB.out GE881.out GE882.out) hb); (try clear hb); (try clear hb2); (try clear hk); (try clear hi); have hcz38_0 : w37.cell? ⟨gb882, 0, none⟩ = some (.int .i64 a1_0) := (blk_cell BK882.out 0).trans rfl; have hcz38_1 : w37.cell? ⟨gb882, 1, none⟩ = some (.int .i64 a1_1) := (blk_cell BK882.out 1).trans rfl; have hcz38_2 : w37.cell? ⟨gb882, 2, none⟩ = some (.slice A1_2 l1_2.length c1_2) := (blk_cell BK882.out 2).trans rfl; have hcz38_3 : w37.cell? ⟨gb882, 3, none⟩ = some (.slice A1_3 l1_3.length c1_3) := (blk_cell BK882.out 3).trans rfl; have hfz38_0 := blk_frozen BK882.out 0; have hfz38_1 := blk_frozen BK882.out 1; have hfz38_2 := blk_frozen BK882.out 2; have hfz38_3 := blk_frozen BK882.out 3) | ((with_reducible refine gate_callee (f := 31) rfl ?_); refine goesL_ (some 19) rfl rfl Try.func31 (by kernel_rfl) rfl #[.agg #[.int .i64 a1_0, .int .i64 a1_1, .slice A1_2 l1_2.length c1_2, .slice A1_3 l1_3.length c1_3], .int .i64 t883] rfl (by (try simp only [List.map_toArray, List.map_cons, List.map_nil]); first | done | rfl | (simp only [List.length_drop, List.length_take]; rfl)) ?_; (with_reducible refine (laws_szTerm.calls k a1_0 a1_1 _ _ l1_2 _ _ l1_3 t883 t884 _ ?side1 ?side2 ?side3 ?side4 A11.out).mono ?_); (case side1 => exact kc_ HR1_2.out HB.out); (case side2 => exact HC1_2.out); (case side3 => exact kc_ HR1_3.out HB.out); (case side4 => exact HC1_3.out); rintro e w39 ⟨rfl, hb⟩; refine ⟨_, rfl, ?_⟩; replace BK881 := sd_ (bb_ BK881.out hb); replace BK882 := sd_ (bb_ BK882.out hb); replace HB := sd_ (below_step (bw2_ HB.out GE881.out GE882.out) hb); (try clear hb); (try clear hb2); (try clear hk); (try clear hi)))
      replace BK881 := sd_ (blk_drew BK881.out)
      replace BK882 := sd_ (blk_drew BK882.out)
      replace HB := sd_ (below_drew1 HB.out)
      refine start_ (n := 7) (S := fun w' => w'.cell? ⟨gb881, 0, none⟩ = some (.int .i64 a0_0) ∧ w'.cell? ⟨gb881, 1, none⟩ = some (.slice A0_1 l0_1.length c0_1) ∧ w'.cell? ⟨gb881, 2, none⟩ = some (.slice A0_2 l0_2.length c0_2) ∧ w'.cell? ⟨gb881, 3, none⟩ = some (.slice A0_3 l0_3.length c0_3) ∧ w'.cell? ⟨gb882, 0, none⟩ = some (.int .i64 a1_0) ∧ w'.cell? ⟨gb882, 1, none⟩ = some (.int .i64 a1_1) ∧ w'.cell? ⟨gb882, 2, none⟩ = some (.slice A1_2 l1_2.length c1_2) ∧ w'.cell? ⟨gb882, 3, none⟩ = some (.slice A1_3 l1_3.length c1_3)) (ds := []) #[false, false, false, false, false, false, false] (by kernel_rfl) rfl rfl ⟨(blk_cell BK881.out 0).trans rfl, (blk_cell BK881.out 1).trans rfl, (blk_cell BK881.out 2).trans rfl, (blk_cell BK881.out 3).trans rfl, (blk_cell BK882.out 0).trans rfl, (blk_cell BK882.out 1).trans rfl, (blk_cell BK882.out 2).trans rfl, (blk_cell BK882.out 3).trans rfl⟩ (fun hHeld => ?_)
      generalize w39.drew = w40 at BK881 BK882 HB hHeld ⊢
      refine pure_ (i := 4) (N := some 26) (v := ?_) (a' := ?_) #[false, false, false, false, true, false, false] rfl rfl (by kernel_rfl) (fun _ _ _ h => h) (Or.inl ⟨by rfl, ?_⟩) ?_ ?_
      rotate_left
      ·intro w'
       go_simp
       with_reducible rfl
      rotate_left
      ·simp only [Act.put, List.setIfInBounds_toArray, List.set_cons_zero, List.set_cons_succ, i64_w, i32_w]
       rfl
      refine take_ (i := 0) (N := some 22) (v := ?_) (a' := ?_) #[true, false, false, false, true, false, false] rfl rfl (by kernel_rfl) (fun _ _ _ h => h) (Or.inl ⟨by rfl, ?_⟩) hHeld ?_ ?_
      rotate_left
      ·rintro w' ⟨s0, s1, s2, s3, s4, s5, s6, s7⟩
       go_simp
       with_reducible rfl
      rotate_left
      ·simp only [Act.put, List.setIfInBounds_toArray, List.set_cons_zero, List.set_cons_succ, i64_w, i32_w]
       rfl
      refine take_ (i := 2) (N := some 24) (v := ?_) (a' := ?_) #[true, false, true, false, true, false, false] rfl rfl (by kernel_rfl) (fun _ _ _ h => h) (Or.inl ⟨by rfl, ?_⟩) hHeld ?_ ?_
      rotate_left
      ·rintro w' ⟨s0, s1, s2, s3, s4, s5, s6, s7⟩
       go_simp
       with_reducible rfl
      rotate_left
      ·simp only [Act.put, List.setIfInBounds_toArray, List.set_cons_zero, List.set_cons_succ, i64_w, i32_w]
       rfl
      refine one_ (i := 1) (N := some 23) #[true, true, true, false, true, false, false] rfl rfl (by kernel_rfl) (by decide) (fun K hK => ?_)
      refine goes_ Try.func26 (by kernel_rfl) rfl #[.agg #[.int .i64 a0_0, .slice A0_1 l0_1.length c0_1, .slice A0_2 l0_2.length c0_2, .slice A0_3 l0_3.length c0_3]] (by rfl) rfl rfl (by (try simp only [List.map_toArray, List.map_cons, List.map_nil]); first | done | rfl | (simp only [List.length_drop, List.length_take]; rfl)) ?_
      with_reducible refine (laws_toSystem.calls k a0_0 _ _ l0_1 _ _ l0_2 _ _ l0_3 t885 t886 t889 t892 _ ?side1 ?side2 ?side3 ?side4 ?side5 ?side6 A20.out).mono ?_
      (case side1 => exact kc_ HR0_1.out HB.out)
      (case side2 => exact HC0_1.out)
      (case side3 => exact kc_ HR0_2.out HB.out)
      (case side4 => exact HC0_2.out)
      (case side5 => exact kc_ HR0_3.out HB.out)
      (case side6 => exact HC0_3.out)
      rintro e w41 ⟨v887, v890, v893, rfl, ho0, ho1, ho2, hb⟩
      refine ⟨_, rfl, ?_⟩
      have HO888 := sd_ (Kd.R_lower ho0 (below_size (bw2_ HB.out GE881.out GE882.out)))
      have HO891 := sd_ (Kd.R_lower ho1 (below_size (bw2_ HB.out GE881.out GE882.out)))
      have HO894 := sd_ (Kd.R_lower ho2 (below_size (bw2_ HB.out GE881.out GE882.out)))
      replace BK881 := sd_ (bb_ BK881.out hb)
      replace BK882 := sd_ (bb_ BK882.out hb)
      replace HB := sd_ (below_step (bw2_ HB.out GE881.out GE882.out) hb)
      (try clear hb)
      (try clear hb2)
      (try clear hk)
      (try clear hi)
      (try clear ho0)
      (try clear ho1)
      (try clear ho2)
      refine hK.out _ _ ⟨(blk_cell BK881.out 0).trans rfl, (blk_cell BK881.out 1).trans rfl, (blk_cell BK881.out 2).trans rfl, (blk_cell BK881.out 3).trans rfl, (blk_cell BK882.out 0).trans rfl, (blk_cell BK882.out 1).trans rfl, (blk_cell BK882.out 2).trans rfl, (blk_cell BK882.out 3).trans rfl⟩ (fun hHeld => ?_)
      clear hK K
      refine norm_ (a' := ?_) ?_ ?_
      rotate_left
      ·show Act.put _ (some 23) _ = _
       simp only [Act.put, List.setIfInBounds_toArray, List.set_cons_zero, List.set_cons_succ, i64_w, i32_w]
       rfl
      refine one_ (i := 3) (N := some 25) #[true, true, true, true, true, false, false] rfl rfl (by kernel_rfl) (by decide) (fun K hK => ?_)
      refine goes_ Try.func33 (by kernel_rfl) rfl #[.agg #[.int .i64 a1_0, .int .i64 a1_1, .slice A1_2 l1_2.length c1_2, .slice A1_3 l1_3.length c1_3]] (by rfl) rfl rfl (by (try simp only [List.map_toArray, List.map_cons, List.map_nil]); first | done | rfl | (simp only [List.length_drop, List.length_take]; rfl)) ?_
      with_reducible refine (laws_toTerm.calls k a1_0 a1_1 _ _ l1_2 _ _ l1_3 t895 t896 t897 t900 _ ?side1 ?side2 ?side3 ?side4 A21.out).mono ?_
      (case side1 => exact kc_ HR1_2.out HB.out)
      (case side2 => exact HC1_2.out)
      (case side3 => exact kc_ HR1_3.out HB.out)
      (case side4 => exact HC1_3.out)
      rintro e w42 ⟨v898, v901, rfl, ho0, ho1, hb⟩
      refine ⟨_, rfl, ?_⟩
      replace HO894 := sd_ (Kd.R_below (ro_ HO894.out) hb)
      have HO899 := sd_ (Kd.R_lower (Kd.R_new' (Kd.R_new' ho0 (Kd.R_lt (ro_ HO888.out))) (Kd.R_lt (ro_ HO891.out))) (below_size (bw2_ HB.out GE881.out GE882.out)))
      have HO902 := sd_ (Kd.R_lower (Kd.R_new' (Kd.R_new' ho1 (Kd.R_lt (ro_ HO888.out))) (Kd.R_lt (ro_ HO891.out))) (below_size (bw2_ HB.out GE881.out GE882.out)))
      replace HO888 := sd_ (Kd.R_elder' (ro_ HO888.out) (Kd.R_base ho0) hb)
      replace HO891 := sd_ (Kd.R_elder' (ro_ HO891.out) (Kd.R_base ho0) hb)
      replace BK881 := sd_ (bb_ BK881.out hb)
      replace BK882 := sd_ (bb_ BK882.out hb)
      replace HB := sd_ (below_step (bw2_ HB.out GE881.out GE882.out) hb)
      (try clear hb)
      (try clear hb2)
      (try clear hk)
      (try clear hi)
      (try clear ho0)
      (try clear ho1)
      obtain ⟨Ao43, co43, eo43⟩ := Kd.R_slice HO888.out
      (first | subst eo43 | (injection eo43 with f1_ f2_ f3_; have f4_ := f1_.symm; have f5_ := f3_.symm; clear f1_ f2_ f3_; subst f4_; subst f5_))
      obtain ⟨Ao44, co44, eo44⟩ := Kd.R_slice HO891.out
      (first | subst eo44 | (injection eo44 with f1_ f2_ f3_; have f4_ := f1_.symm; have f5_ := f3_.symm; clear f1_ f2_ f3_; subst f4_; subst f5_))
      obtain ⟨Ao45, co45, eo45⟩ := Kd.R_slice HO894.out
      (first | subst eo45 | (injection eo45 with f1_ f2_ f3_; have f4_ := f1_.symm; have f5_ := f3_.symm; clear f1_ f2_ f3_; subst f4_; subst f5_))
      obtain ⟨Ao46, co46, eo46⟩ := Kd.R_slice HO899.out
      (first | subst eo46 | (injection eo46 with f1_ f2_ f3_; have f4_ := f1_.symm; have f5_ := f3_.symm; clear f1_ f2_ f3_; subst f4_; subst f5_))
      obtain ⟨Ao47, co47, eo47⟩ := Kd.R_slice HO902.out
      (first | subst eo47 | (injection eo47 with f1_ f2_ f3_; have f4_ := f1_.symm; have f5_ := f3_.symm; clear f1_ f2_ f3_; subst f4_; subst f5_))
      refine hK.out _ _ ⟨(blk_cell BK881.out 0).trans rfl, (blk_cell BK881.out 1).trans rfl, (blk_cell BK881.out 2).trans rfl, (blk_cell BK881.out 3).trans rfl, (blk_cell BK882.out 0).trans rfl, (blk_cell BK882.out 1).trans rfl, (blk_cell BK882.out 2).trans rfl, (blk_cell BK882.out 3).trans rfl⟩ (fun hHeld => ?_)
      clear hK K
      refine norm_ (a' := ?_) ?_ ?_
      rotate_left
      ·show Act.put _ (some 25) _ = _
       simp only [Act.put, List.setIfInBounds_toArray, List.set_cons_zero, List.set_cons_succ, i64_w, i32_w]
       rfl
      refine one_ (i := 5) (N := some 27) #[true, true, true, true, true, true, false] rfl rfl (by kernel_rfl) (by decide) (fun K hK => ?_)
      refine goes_ Try.func44 (by kernel_rfl) rfl #[.agg #[.int .i64 t885, .slice Ao43 t886.length co43, .slice Ao44 t889.length co44, .slice Ao45 t892.length co45], .agg #[.int .i64 t895, .int .i64 t896, .slice Ao46 t897.length co46, .slice Ao47 t900.length co47], .int .i64 a2] (by rfl) rfl rfl (by (try simp only [List.map_toArray, List.map_cons, List.map_nil]); first | done | rfl | (simp only [List.length_drop, List.length_take]; rfl)) ?_
      with_reducible refine (spec_IsTerm.calls k t885 _ _ t886 _ _ t889 _ _ t892 t895 t896 _ _ t897 _ _ t900 a2 t903 _ ?side1 ?side2 ?side3 ?side4 ?side5 ?side6 ?side7 ?side8 ?side9 ?side10 A22.out).mono ?_
      (case side1 => exact kp_ (Kd.R_reads' HO888.out).2.2)
      (case side2 => exact (Kd.R_reads' HO888.out).2.1)
      (case side3 => exact kp_ (Kd.R_reads' HO891.out).2.2)
      (case side4 => exact (Kd.R_reads' HO891.out).2.1)
      (case side5 => exact kp_ (Kd.R_reads' HO894.out).2.2)
      (case side6 => exact (Kd.R_reads' HO894.out).2.1)
      (case side7 => exact kp_ (Kd.R_reads' HO899.out).2.2)
      (case side8 => exact (Kd.R_reads' HO899.out).2.1)
      (case side9 => exact kp_ (Kd.R_reads' HO902.out).2.2)
      (case side10 => exact (Kd.R_reads' HO902.out).2.1)
      rintro e w48 ⟨rfl, hb⟩
      refine ⟨_, rfl, ?_⟩
      replace HO888 := sd_ (Kd.R_below (ro_ HO888.out) hb)
      replace HO891 := sd_ (Kd.R_below (ro_ HO891.out) hb)
      replace HO894 := sd_ (Kd.R_below (ro_ HO894.out) hb)
      replace HO899 := sd_ (Kd.R_below (ro_ HO899.out) hb)
      replace HO902 := sd_ (Kd.R_below (ro_ HO902.out) hb)
      replace BK881 := sd_ (bb_ BK881.out hb)
      replace BK882 := sd_ (bb_ BK882.out hb)
      replace HB := sd_ (below_step (bw2_ HB.out GE881.out GE882.out) hb)
      (try clear hb)
      (try clear hb2)
      (try clear hk)
      (try clear hi)
      refine hK.out _ _ ⟨(blk_cell BK881.out 0).trans rfl, (blk_cell BK881.out 1).trans rfl, (blk_cell BK881.out 2).trans rfl, (blk_cell BK881.out 3).trans rfl, (blk_cell BK882.out 0).trans rfl, (blk_cell BK882.out 1).trans rfl, (blk_cell BK882.out 2).trans rfl, (blk_cell BK882.out 3).trans rfl⟩ (fun hHeld => ?_)
      clear hK K
      refine norm_ (a' := ?_) ?_ ?_
      rotate_left
      ·show Act.put _ (some 27) _ = _
       simp only [Act.put, List.setIfInBounds_toArray, List.set_cons_zero, List.set_cons_succ, i64_w, i32_w]
       rfl
      refine pure_ (i := 6) (N := some 8) (v := ?_) (a' := ?_) #[true, true, true, true, true, true, true] rfl rfl (by kernel_rfl) (fun _ _ _ h => h) (Or.inl ⟨by rfl, ?_⟩) ?_ ?_
      rotate_left
      ·intro w'
       go_simp
       with_reducible rfl
      rotate_left
      ·simp only [Act.put, List.setIfInBounds_toArray, List.set_cons_zero, List.set_cons_succ, i64_w, i32_w]
       rfl
      refine done_ (by kernel_rfl) ?_
      have hcz49_0 : w48.cell? ⟨gb881, 0, none⟩ = some (.int .i64 a0_0) := (blk_cell BK881.out 0).trans rfl
      have hcz49_1 : w48.cell? ⟨gb881, 1, none⟩ = some (.slice A0_1 l0_1.length c0_1) := (blk_cell BK881.out 1).trans rfl
      have hcz49_2 : w48.cell? ⟨gb881, 2, none⟩ = some (.slice A0_2 l0_2.length c0_2) := (blk_cell BK881.out 2).trans rfl
      have hcz49_3 : w48.cell? ⟨gb881, 3, none⟩ = some (.slice A0_3 l0_3.length c0_3) := (blk_cell BK881.out 3).trans rfl
      have hfz49_0 := blk_frozen BK881.out 0
      have hfz49_1 := blk_frozen BK881.out 1
      have hfz49_2 := blk_frozen BK881.out 2
      have hfz49_3 := blk_frozen BK881.out 3
      try go_wp2_with (first | ((with_reducible refine gate_callee (f := 26) rfl ?_); refine goesL_ (some 29) rfl rfl Try.func26 (by kernel_rfl) rfl #[.agg #[.int .i64 a0_0, .slice A0_1 l0_1.length c0_1, .slice A0_2 l0_2.length c0_2, .slice A0_3 l0_3.length c0_3]] rfl (by (try simp only [List.map_toArray, List.map_cons, List.map_nil]); first | done | rfl | (simp only [List.length_drop, List.length_take]; rfl)) ?_; (with_reducible refine (laws_toSystem.calls k a0_0 _ _ l0_1 _ _ l0_2 _ _ l0_3 t904 t905 t908 t911 _ ?side1 ?side2 ?side3 ?side4 ?side5 ?side6 A23.out).mono ?_); (case side1 => exact kc_ HR0_1.out HB.out); (case side2 => exact HC0_1.out); (case side3 => exact kc_ HR0_2.out HB.out); (case side4 => exact HC0_2.out); (case side5 => exact kc_ HR0_3.out HB.out); (case side6 => exact HC0_3.out); rintro e w50 ⟨v906, v909, v912, rfl, ho0, ho1, ho2, hb⟩; refine ⟨_, rfl, ?_⟩; replace HO902 := sd_ (Kd.R_mono (Kd.R_told (Kd.R_told (Kd.R_old (ro_ HO902.out) hb) (Kd.R_base ho0)) (Kd.R_base ho1)) (fun _ h_ => h_.1)); have HO907 := sd_ (Kd.R_lower (Kd.R_new' (Kd.R_new' (Kd.R_new' ho0 (Kd.R_lt (ro_ HO888.out))) (Kd.R_lt (ro_ HO891.out))) (Kd.R_lt (ro_ HO899.out))) (below_size (bw2_ HB.out GE881.out GE882.out))); have HO910 := sd_ (Kd.R_lower (Kd.R_new' (Kd.R_new' (Kd.R_new' ho1 (Kd.R_lt (ro_ HO888.out))) (Kd.R_lt (ro_ HO891.out))) (Kd.R_lt (ro_ HO899.out))) (below_size (bw2_ HB.out GE881.out GE882.out))); replace HO888 := sd_ (Kd.R_mono (Kd.R_told (Kd.R_told (Kd.R_old (ro_ HO888.out) hb) (Kd.R_base ho0)) (Kd.R_base ho1)) (fun _ h_ => h_.1)); replace HO891 := sd_ (Kd.R_mono (Kd.R_told (Kd.R_told (Kd.R_old (ro_ HO891.out) hb) (Kd.R_base ho0)) (Kd.R_base ho1)) (fun _ h_ => h_.1)); replace HO899 := sd_ (Kd.R_mono (Kd.R_told (Kd.R_told (Kd.R_old (ro_ HO899.out) hb) (Kd.R_base ho0)) (Kd.R_base ho1)) (fun _ h_ => h_.1)); have HO913 := sd_ (Kd.R_lower (Kd.R_new' ho2 (Kd.R_lt (ro_ HO894.out))) (below_size (bw2_ HB.out GE881.out GE882.out))); replace HO894 := sd_ (Kd.R_elder' (ro_ HO894.out) (Kd.R_base ho2) hb); replace BK881 := sd_ (bb_ BK881.out hb); replace BK882 := sd_ (bb_ BK882.out hb); replace HB := sd_ (below_step (bw2_ HB.out GE881.out GE882.out) hb); (try clear hb); (try clear hb2); (try clear hk); (try clear hi); (try clear ho0); (try clear ho1); (try clear ho2)) | ((with_reducible refine gate_dst (N := 9) rfl ?_); refine box_event ?hg (N := 9) ?hd (cs := #[.int .i64 0, .slice none 0 0, .slice none 0 0, .slice none 0 0]) (t := 37) ?hr ?_; (case hd => rfl); (case hg => rfl); (case hr => first | (go_simp; done) | (go_simp; rfl)); intro gb914 hg w51 hbox hb; replace HO888 := sd_ (Kd.R_below (ro_ HO888.out) hb); replace HO891 := sd_ (Kd.R_below (ro_ HO891.out) hb); replace HO894 := sd_ (Kd.R_below (ro_ HO894.out) hb); replace HO899 := sd_ (Kd.R_below (ro_ HO899.out) hb); replace HO902 := sd_ (Kd.R_below (ro_ HO902.out) hb); replace HO907 := sd_ (Kd.R_below (ro_ HO907.out) hb); replace HO910 := sd_ (Kd.R_below (ro_ HO910.out) hb); replace HO913 := sd_ (Kd.R_below (ro_ HO913.out) hb); have BK914 := sd_ (hbox); have GW914 := sd_ ((by rw [hg]; exact (below_size (bw2_ HB.out GE881.out GE882.out)) : w.heap.size ≤ gb914)); have GE914 := sd_ ((by rw [hg]; exact (below_size (bw2_ HB.out GE881.out GE882.out)) : w.heap.size ≤ gb914)); replace HB := sd_ (below_step (bw2_ HB.out GE881.out GE882.out) hb); have NB881_914 := sd_ ((by rw [hg]; exact Nat.ne_of_lt (bl_ BK881.out) : gb881 ≠ gb914)); have NB914_881 := sd_ ((by rw [hg]; exact Nat.ne_of_gt (bl_ BK881.out) : gb914 ≠ gb881)); replace BK881 := sd_ (bb_ BK881.out hb); have NB882_914 := sd_ ((by rw [hg]; exact Nat.ne_of_lt (bl_ BK882.out) : gb882 ≠ gb914)); have NB914_882 := sd_ ((by rw [hg]; exact Nat.ne_of_gt (bl_ BK882.out) : gb914 ≠ gb882)); replace BK882 := sd_ (bb_ BK882.out hb); clear hb hbox hg; have hnb52 := NB914_881.out; have hnc52 := NB881_914.out; have hnb53 := NB914_882.out; have hnc53 := NB882_914.out; have hcz54_0 : w51.cell? ⟨gb914, 0, none⟩ = some (.int .i64 0) := (blk_cell BK914.out 0).trans rfl; have hcz54_1 : w51.cell? ⟨gb914, 1, none⟩ = some (.slice none 0 0) := (blk_cell BK914.out 1).trans rfl; have hcz54_2 : w51.cell? ⟨gb914, 2, none⟩ = some (.slice none 0 0) := (blk_cell BK914.out 2).trans rfl; have hcz54_3 : w51.cell? ⟨gb914, 3, none⟩ = some (.slice none 0 0) := (blk_cell BK914.out 3).trans rfl; have hfz54_0 := blk_frozen BK914.out 0; have hfz54_1 := blk_frozen BK914.out 1; have hfz54_2 := blk_frozen BK914.out 2; have hfz54_3 := blk_frozen BK914.out 3; obtain ⟨Ao55, co55, eo55⟩ := Kd.R_slice HO907.out; subst eo55; obtain ⟨Ao56, co56, eo56⟩ := Kd.R_slice HO910.out; subst eo56; obtain ⟨Ao57, co57, eo57⟩ := Kd.R_slice HO913.out; subst eo57; have hcz58_0 : w51.cell? ⟨gb882, 0, none⟩ = some (.int .i64 a1_0) := (blk_cell BK882.out 0).trans rfl; have hcz58_1 : w51.cell? ⟨gb882, 1, none⟩ = some (.int .i64 a1_1) := (blk_cell BK882.out 1).trans rfl; have hcz58_2 : w51.cell? ⟨gb882, 2, none⟩ = some (.slice A1_2 l1_2.length c1_2) := (blk_cell BK882.out 2).trans rfl; have hcz58_3 : w51.cell? ⟨gb882, 3, none⟩ = some (.slice A1_3 l1_3.length c1_3) := (blk_cell BK882.out 3).trans rfl; have hfz58_0 := blk_frozen BK882.out 0; have hfz58_1 := blk_frozen BK882.out 1; have hfz58_2 := blk_frozen BK882.out 2; have hfz58_3 := blk_frozen BK882.out 3) | ((with_reducible refine gate_callee (f := 33) rfl ?_); refine goesL_ (some 31) rfl rfl Try.func33 (by kernel_rfl) rfl #[.agg #[.int .i64 a1_0, .int .i64 a1_1, .slice A1_2 l1_2.length c1_2, .slice A1_3 l1_3.length c1_3]] rfl (by (try simp only [List.map_toArray, List.map_cons, List.map_nil]); first | done | rfl | (simp only [List.length_drop, List.length_take]; rfl)) ?_; (with_reducible refine (laws_toTerm.calls k a1_0 a1_1 _ _ l1_2 _ _ l1_3 t915 t916 t917 t920 _ ?side1 ?side2 ?side3 ?side4 A24.out).mono ?_); (case side1 => exact Kd.C_below HR1_2.out (bw3_ HB.out GE881.out GE882.out GE914.out)); (case side2 => exact HC1_2.out); (case side3 => exact Kd.C_below HR1_3.out (bw3_ HB.out GE881.out GE882.out GE914.out)); (case side4 => exact HC1_3.out); rintro e w59 ⟨v918, v921, rfl, ho0, ho1, hb⟩; refine ⟨_, rfl, ?_⟩; replace HO894 := sd_ (Kd.R_below (by (with_reducible repeat (first | apply Kd.R_alloc | apply Kd.R_drewN | apply Kd.R_drew)); exact (Kd.R_mono (Kd.R_far (p := ⟨gb914, 3, none⟩) (Kd.R_far (p := ⟨gb914, 2, none⟩) (Kd.R_far (p := ⟨gb914, 1, none⟩) (Kd.R_far (p := ⟨gb914, 0, none⟩) (Kd.R_types HO894.out BK914.out (by decide)) (fun _ hk => hk.2) (.int .i64 t904)) (fun _ hk => hk.2) (.slice Ao55 t905.length co55)) (fun _ hk => hk.2) (.slice Ao56 t908.length co56)) (fun _ hk => hk.2) (.slice Ao57 t911.length co57)) (fun _ h_ => h_.1))) hb); replace HO913 := sd_ (Kd.R_below (by (with_reducible repeat (first | apply Kd.R_alloc | apply Kd.R_drewN | apply Kd.R_drew)); exact (Kd.R_mono (Kd.R_far (p := ⟨gb914, 3, none⟩) (Kd.R_far (p := ⟨gb914, 2, none⟩) (Kd.R_far (p := ⟨gb914, 1, none⟩) (Kd.R_far (p := ⟨gb914, 0, none⟩) (Kd.R_types HO913.out BK914.out (by decide)) (fun _ hk => hk.2) (.int .i64 t904)) (fun _ hk => hk.2) (.slice Ao55 t905.length co55)) (fun _ hk => hk.2) (.slice Ao56 t908.length co56)) (fun _ hk => hk.2) (.slice Ao57 t911.length co57)) (fun _ h_ => h_.1))) hb); have HO919 := sd_ (Kd.R_lower (Kd.R_new' (Kd.R_new' (Kd.R_new' (Kd.R_new' (Kd.R_new' ho0 (Kd.R_lt (by (with_reducible repeat (first | apply Kd.R_alloc | apply Kd.R_drewN | apply Kd.R_drew)); exact (Kd.R_mono (Kd.R_far (p := ⟨gb914, 3, none⟩) (Kd.R_far (p := ⟨gb914, 2, none⟩) (Kd.R_far (p := ⟨gb914, 1, none⟩) (Kd.R_far (p := ⟨gb914, 0, none⟩) (Kd.R_types HO888.out BK914.out (by decide)) (fun _ hk => hk.2) (.int .i64 t904)) (fun _ hk => hk.2) (.slice Ao55 t905.length co55)) (fun _ hk => hk.2) (.slice Ao56 t908.length co56)) (fun _ hk => hk.2) (.slice Ao57 t911.length co57)) (fun _ h_ => h_.1))))) (Kd.R_lt (by (with_reducible repeat (first | apply Kd.R_alloc | apply Kd.R_drewN | apply Kd.R_drew)); exact (Kd.R_mono (Kd.R_far (p := ⟨gb914, 3, none⟩) (Kd.R_far (p := ⟨gb914, 2, none⟩) (Kd.R_far (p := ⟨gb914, 1, none⟩) (Kd.R_far (p := ⟨gb914, 0, none⟩) (Kd.R_types HO891.out BK914.out (by decide)) (fun _ hk => hk.2) (.int .i64 t904)) (fun _ hk => hk.2) (.slice Ao55 t905.length co55)) (fun _ hk => hk.2) (.slice Ao56 t908.length co56)) (fun _ hk => hk.2) (.slice Ao57 t911.length co57)) (fun _ h_ => h_.1))))) (Kd.R_lt (by (with_reducible repeat (first | apply Kd.R_alloc | apply Kd.R_drewN | apply Kd.R_drew)); exact (Kd.R_mono (Kd.R_far (p := ⟨gb914, 3, none⟩) (Kd.R_far (p := ⟨gb914, 2, none⟩) (Kd.R_far (p := ⟨gb914, 1, none⟩) (Kd.R_far (p := ⟨gb914, 0, none⟩) (Kd.R_types HO899.out BK914.out (by decide)) (fun _ hk => hk.2) (.int .i64 t904)) (fun _ hk => hk.2) (.slice Ao55 t905.length co55)) (fun _ hk => hk.2) (.slice Ao56 t908.length co56)) (fun _ hk => hk.2) (.slice Ao57 t911.length co57)) (fun _ h_ => h_.1))))) (Kd.R_lt (by (with_reducible repeat (first | apply Kd.R_alloc | apply Kd.R_drewN | apply Kd.R_drew)); exact (Kd.R_mono (Kd.R_far (p := ⟨gb914, 3, none⟩) (Kd.R_far (p := ⟨gb914, 2, none⟩) (Kd.R_far (p := ⟨gb914, 1, none⟩) (Kd.R_far (p := ⟨gb914, 0, none⟩) (Kd.R_types HO907.out BK914.out (by decide)) (fun _ hk => hk.2) (.int .i64 t904)) (fun _ hk => hk.2) (.slice Ao55 t905.length co55)) (fun _ hk => hk.2) (.slice Ao56 t908.length co56)) (fun _ hk => hk.2) (.slice Ao57 t911.length co57)) (fun _ h_ => h_.1))))) (Kd.R_lt (by (with_reducible repeat (first | apply Kd.R_alloc | apply Kd.R_drewN | apply Kd.R_drew)); exact (Kd.R_mono (Kd.R_far (p := ⟨gb914, 3, none⟩) (Kd.R_far (p := ⟨gb914, 2, none⟩) (Kd.R_far (p := ⟨gb914, 1, none⟩) (Kd.R_far (p := ⟨gb914, 0, none⟩) (Kd.R_types HO910.out BK914.out (by decide)) (fun _ hk => hk.2) (.int .i64 t904)) (fun _ hk => hk.2) (.slice Ao55 t905.length co55)) (fun _ hk => hk.2) (.slice Ao56 t908.length co56)) (fun _ hk => hk.2) (.slice Ao57 t911.length co57)) (fun _ h_ => h_.1))))) (below_size (bw3_ HB.out GE881.out GE882.out GE914.out))); have HO922 := sd_ (Kd.R_lower (Kd.R_new' (Kd.R_new' (Kd.R_new' (Kd.R_new' (Kd.R_new' (Kd.R_new' ho1 (Kd.R_lt (by (with_reducible repeat (first | apply Kd.R_alloc | apply Kd.R_drewN | apply Kd.R_drew)); exact (Kd.R_mono (Kd.R_far (p := ⟨gb914, 3, none⟩) (Kd.R_far (p := ⟨gb914, 2, none⟩) (Kd.R_far (p := ⟨gb914, 1, none⟩) (Kd.R_far (p := ⟨gb914, 0, none⟩) (Kd.R_types HO888.out BK914.out (by decide)) (fun _ hk => hk.2) (.int .i64 t904)) (fun _ hk => hk.2) (.slice Ao55 t905.length co55)) (fun _ hk => hk.2) (.slice Ao56 t908.length co56)) (fun _ hk => hk.2) (.slice Ao57 t911.length co57)) (fun _ h_ => h_.1))))) (Kd.R_lt (by (with_reducible repeat (first | apply Kd.R_alloc | apply Kd.R_drewN | apply Kd.R_drew)); exact (Kd.R_mono (Kd.R_far (p := ⟨gb914, 3, none⟩) (Kd.R_far (p := ⟨gb914, 2, none⟩) (Kd.R_far (p := ⟨gb914, 1, none⟩) (Kd.R_far (p := ⟨gb914, 0, none⟩) (Kd.R_types HO891.out BK914.out (by decide)) (fun _ hk => hk.2) (.int .i64 t904)) (fun _ hk => hk.2) (.slice Ao55 t905.length co55)) (fun _ hk => hk.2) (.slice Ao56 t908.length co56)) (fun _ hk => hk.2) (.slice Ao57 t911.length co57)) (fun _ h_ => h_.1))))) (Kd.R_lt (by (with_reducible repeat (first | apply Kd.R_alloc | apply Kd.R_drewN | apply Kd.R_drew)); exact (Kd.R_mono (Kd.R_far (p := ⟨gb914, 3, none⟩) (Kd.R_far (p := ⟨gb914, 2, none⟩) (Kd.R_far (p := ⟨gb914, 1, none⟩) (Kd.R_far (p := ⟨gb914, 0, none⟩) (Kd.R_types HO899.out BK914.out (by decide)) (fun _ hk => hk.2) (.int .i64 t904)) (fun _ hk => hk.2) (.slice Ao55 t905.length co55)) (fun _ hk => hk.2) (.slice Ao56 t908.length co56)) (fun _ hk => hk.2) (.slice Ao57 t911.length co57)) (fun _ h_ => h_.1))))) (Kd.R_lt (by (with_reducible repeat (first | apply Kd.R_alloc | apply Kd.R_drewN | apply Kd.R_drew)); exact (Kd.R_mono (Kd.R_far (p := ⟨gb914, 3, none⟩) (Kd.R_far (p := ⟨gb914, 2, none⟩) (Kd.R_far (p := ⟨gb914, 1, none⟩) (Kd.R_far (p := ⟨gb914, 0, none⟩) (Kd.R_types HO902.out BK914.out (by decide)) (fun _ hk => hk.2) (.int .i64 t904)) (fun _ hk => hk.2) (.slice Ao55 t905.length co55)) (fun _ hk => hk.2) (.slice Ao56 t908.length co56)) (fun _ hk => hk.2) (.slice Ao57 t911.length co57)) (fun _ h_ => h_.1))))) (Kd.R_lt (by (with_reducible repeat (first | apply Kd.R_alloc | apply Kd.R_drewN | apply Kd.R_drew)); exact (Kd.R_mono (Kd.R_far (p := ⟨gb914, 3, none⟩) (Kd.R_far (p := ⟨gb914, 2, none⟩) (Kd.R_far (p := ⟨gb914, 1, none⟩) (Kd.R_far (p := ⟨gb914, 0, none⟩) (Kd.R_types HO907.out BK914.out (by decide)) (fun _ hk => hk.2) (.int .i64 t904)) (fun _ hk => hk.2) (.slice Ao55 t905.length co55)) (fun _ hk => hk.2) (.slice Ao56 t908.length co56)) (fun _ hk => hk.2) (.slice Ao57 t911.length co57)) (fun _ h_ => h_.1))))) (Kd.R_lt (by (with_reducible repeat (first | apply Kd.R_alloc | apply Kd.R_drewN | apply Kd.R_drew)); exact (Kd.R_mono (Kd.R_far (p := ⟨gb914, 3, none⟩) (Kd.R_far (p := ⟨gb914, 2, none⟩) (Kd.R_far (p := ⟨gb914, 1, none⟩) (Kd.R_far (p := ⟨gb914, 0, none⟩) (Kd.R_types HO910.out BK914.out (by decide)) (fun _ hk => hk.2) (.int .i64 t904)) (fun _ hk => hk.2) (.slice Ao55 t905.length co55)) (fun _ hk => hk.2) (.slice Ao56 t908.length co56)) (fun _ hk => hk.2) (.slice Ao57 t911.length co57)) (fun _ h_ => h_.1))))) (below_size (bw3_ HB.out GE881.out GE882.out GE914.out))); replace HO888 := sd_ (Kd.R_elder' (by (with_reducible repeat (first | apply Kd.R_alloc | apply Kd.R_drewN | apply Kd.R_drew)); exact (Kd.R_mono (Kd.R_far (p := ⟨gb914, 3, none⟩) (Kd.R_far (p := ⟨gb914, 2, none⟩) (Kd.R_far (p := ⟨gb914, 1, none⟩) (Kd.R_far (p := ⟨gb914, 0, none⟩) (Kd.R_types HO888.out BK914.out (by decide)) (fun _ hk => hk.2) (.int .i64 t904)) (fun _ hk => hk.2) (.slice Ao55 t905.length co55)) (fun _ hk => hk.2) (.slice Ao56 t908.length co56)) (fun _ hk => hk.2) (.slice Ao57 t911.length co57)) (fun _ h_ => h_.1))) (Kd.R_base ho0) hb); replace HO891 := sd_ (Kd.R_elder' (by (with_reducible repeat (first | apply Kd.R_alloc | apply Kd.R_drewN | apply Kd.R_drew)); exact (Kd.R_mono (Kd.R_far (p := ⟨gb914, 3, none⟩) (Kd.R_far (p := ⟨gb914, 2, none⟩) (Kd.R_far (p := ⟨gb914, 1, none⟩) (Kd.R_far (p := ⟨gb914, 0, none⟩) (Kd.R_types HO891.out BK914.out (by decide)) (fun _ hk => hk.2) (.int .i64 t904)) (fun _ hk => hk.2) (.slice Ao55 t905.length co55)) (fun _ hk => hk.2) (.slice Ao56 t908.length co56)) (fun _ hk => hk.2) (.slice Ao57 t911.length co57)) (fun _ h_ => h_.1))) (Kd.R_base ho0) hb); replace HO899 := sd_ (Kd.R_elder' (by (with_reducible repeat (first | apply Kd.R_alloc | apply Kd.R_drewN | apply Kd.R_drew)); exact (Kd.R_mono (Kd.R_far (p := ⟨gb914, 3, none⟩) (Kd.R_far (p := ⟨gb914, 2, none⟩) (Kd.R_far (p := ⟨gb914, 1, none⟩) (Kd.R_far (p := ⟨gb914, 0, none⟩) (Kd.R_types HO899.out BK914.out (by decide)) (fun _ hk => hk.2) (.int .i64 t904)) (fun _ hk => hk.2) (.slice Ao55 t905.length co55)) (fun _ hk => hk.2) (.slice Ao56 t908.length co56)) (fun _ hk => hk.2) (.slice Ao57 t911.length co57)) (fun _ h_ => h_.1))) (Kd.R_base ho0) hb); replace HO902 := sd_ (Kd.R_mono (Kd.R_told (Kd.R_told (Kd.R_old (by (with_reducible repeat (first | apply Kd.R_alloc | apply Kd.R_drewN | apply Kd.R_drew)); exact (Kd.R_mono (Kd.R_far (p := ⟨gb914, 3, none⟩) (Kd.R_far (p := ⟨gb914, 2, none⟩) (Kd.R_far (p := ⟨gb914, 1, none⟩) (Kd.R_far (p := ⟨gb914, 0, none⟩) (Kd.R_types HO902.out BK914.out (by decide)) (fun _ hk => hk.2) (.int .i64 t904)) (fun _ hk => hk.2) (.slice Ao55 t905.length co55)) (fun _ hk => hk.2) (.slice Ao56 t908.length co56)) (fun _ hk => hk.2) (.slice Ao57 t911.length co57)) (fun _ h_ => h_.1))) hb) (Kd.R_base ho0)) (Kd.R_base ho1)) (fun _ h_ => h_.1)); replace HO907 := sd_ (Kd.R_elder' (by (with_reducible repeat (first | apply Kd.R_alloc | apply Kd.R_drewN | apply Kd.R_drew)); exact (Kd.R_mono (Kd.R_far (p := ⟨gb914, 3, none⟩) (Kd.R_far (p := ⟨gb914, 2, none⟩) (Kd.R_far (p := ⟨gb914, 1, none⟩) (Kd.R_far (p := ⟨gb914, 0, none⟩) (Kd.R_types HO907.out BK914.out (by decide)) (fun _ hk => hk.2) (.int .i64 t904)) (fun _ hk => hk.2) (.slice Ao55 t905.length co55)) (fun _ hk => hk.2) (.slice Ao56 t908.length co56)) (fun _ hk => hk.2) (.slice Ao57 t911.length co57)) (fun _ h_ => h_.1))) (Kd.R_base ho0) hb); replace HO910 := sd_ (Kd.R_elder' (by (with_reducible repeat (first | apply Kd.R_alloc | apply Kd.R_drewN | apply Kd.R_drew)); exact (Kd.R_mono (Kd.R_far (p := ⟨gb914, 3, none⟩) (Kd.R_far (p := ⟨gb914, 2, none⟩) (Kd.R_far (p := ⟨gb914, 1, none⟩) (Kd.R_far (p := ⟨gb914, 0, none⟩) (Kd.R_types HO910.out BK914.out (by decide)) (fun _ hk => hk.2) (.int .i64 t904)) (fun _ hk => hk.2) (.slice Ao55 t905.length co55)) (fun _ hk => hk.2) (.slice Ao56 t908.length co56)) (fun _ hk => hk.2) (.slice Ao57 t911.length co57)) (fun _ h_ => h_.1))) (Kd.R_base ho0) hb); replace BK881 := sd_ (blk_below (g := gb881) (o := .cells #[.int .i64 a0_0, .slice A0_1 l0_1.length c0_1, .slice A0_2 l0_2.length c0_2, .slice A0_3 l0_3.length c0_3] 34 (0, 0)) (by (with_reducible repeat (first | refine blk_drewN ?_ _ | refine blk_drew ?_ | refine blk_alloc ?_ _)); refine blk_far ?_ NB881_914.out _; (with_reducible repeat (first | refine blk_drewN ?_ _ | refine blk_drew ?_ | refine blk_alloc ?_ _)); refine blk_far ?_ NB881_914.out _; (with_reducible repeat (first | refine blk_drewN ?_ _ | refine blk_drew ?_ | refine blk_alloc ?_ _)); refine blk_far ?_ NB881_914.out _; (with_reducible repeat (first | refine blk_drewN ?_ _ | refine blk_drew ?_ | refine blk_alloc ?_ _)); refine blk_far ?_ NB881_914.out _; (with_reducible repeat (first | refine blk_drewN ?_ _ | refine blk_drew ?_ | refine blk_alloc ?_ _)); exact BK881.out) hb); replace BK882 := sd_ (blk_below (g := gb882) (o := .cells #[.int .i64 a1_0, .int .i64 a1_1, .slice A1_2 l1_2.length c1_2, .slice A1_3 l1_3.length c1_3] 43 (0, 0)) (by (with_reducible repeat (first | refine blk_drewN ?_ _ | refine blk_drew ?_ | refine blk_alloc ?_ _)); refine blk_far ?_ NB882_914.out _; (with_reducible repeat (first | refine blk_drewN ?_ _ | refine blk_drew ?_ | refine blk_alloc ?_ _)); refine blk_far ?_ NB882_914.out _; (with_reducible repeat (first | refine blk_drewN ?_ _ | refine blk_drew ?_ | refine blk_alloc ?_ _)); refine blk_far ?_ NB882_914.out _; (with_reducible repeat (first | refine blk_drewN ?_ _ | refine blk_drew ?_ | refine blk_alloc ?_ _)); refine blk_far ?_ NB882_914.out _; (with_reducible repeat (first | refine blk_drewN ?_ _ | refine blk_drew ?_ | refine blk_alloc ?_ _)); exact BK882.out) hb); replace BK914 := sd_ (blk_below (g := gb914) (o := .cells #[.int .i64 t904, .slice Ao55 t905.length co55, .slice Ao56 t908.length co56, .slice Ao57 t911.length co57] 37 (0, 0)) (by (with_reducible repeat (first | refine blk_drewN ?_ _ | refine blk_drew ?_ | refine blk_alloc ?_ _)); refine blk_put (cs := #[.int .i64 t904, .slice Ao55 t905.length co55, .slice Ao56 t908.length co56, .slice none 0 0]) ?_ 3 _ rfl; (with_reducible repeat (first | refine blk_drewN ?_ _ | refine blk_drew ?_ | refine blk_alloc ?_ _)); refine blk_put (cs := #[.int .i64 t904, .slice Ao55 t905.length co55, .slice none 0 0, .slice none 0 0]) ?_ 2 _ rfl; (with_reducible repeat (first | refine blk_drewN ?_ _ | refine blk_drew ?_ | refine blk_alloc ?_ _)); refine blk_put (cs := #[.int .i64 t904, .slice none 0 0, .slice none 0 0, .slice none 0 0]) ?_ 1 _ rfl; (with_reducible repeat (first | refine blk_drewN ?_ _ | refine blk_drew ?_ | refine blk_alloc ?_ _)); refine blk_put (cs := #[.int .i64 0, .slice none 0 0, .slice none 0 0, .slice none 0 0]) ?_ 0 _ rfl; (with_reducible repeat (first | refine blk_drewN ?_ _ | refine blk_drew ?_ | refine blk_alloc ?_ _)); exact BK914.out) hb); replace HB := sd_ (below_step (bw3_ HB.out GE881.out GE882.out GE914.out) hb); (try clear hb); (try clear hb2); (try clear hk); (try clear hi); (try clear ho0); (try clear ho1)) | ((with_reducible refine gate_dst (N := 10) rfl ?_); refine box_event ?hg (N := 10) ?hd (cs := #[.int .i64 0, .int .i64 0, .slice none 0 0, .slice none 0 0]) (t := 48) ?hr ?_; (case hd => rfl); (case hg => rfl); (case hr => first | (go_simp; done) | (go_simp; rfl)); intro gb923 hg w60 hbox hb; replace HO888 := sd_ (Kd.R_below (ro_ HO888.out) hb); replace HO891 := sd_ (Kd.R_below (ro_ HO891.out) hb); replace HO894 := sd_ (Kd.R_below (ro_ HO894.out) hb); replace HO899 := sd_ (Kd.R_below (ro_ HO899.out) hb); replace HO902 := sd_ (Kd.R_below (Kd.R_elderB (ro_ HO902.out) gb923 (Nat.le_of_eq hg.symm)) hb); replace HO907 := sd_ (Kd.R_below (ro_ HO907.out) hb); replace HO910 := sd_ (Kd.R_below (ro_ HO910.out) hb); replace HO913 := sd_ (Kd.R_below (ro_ HO913.out) hb); replace HO919 := sd_ (Kd.R_below (ro_ HO919.out) hb); replace HO922 := sd_ (Kd.R_below (Kd.R_elderB (ro_ HO922.out) gb923 (Nat.le_of_eq hg.symm)) hb); have BK923 := sd_ (hbox); have GW923 := sd_ ((by rw [hg]; exact (below_size (bw3_ HB.out GE881.out GE882.out GE914.out)) : w.heap.size ≤ gb923)); have GE923 := sd_ ((by rw [hg]; exact (below_size (bw3_ HB.out GE881.out GE882.out GE914.out)) : w.heap.size ≤ gb923)); replace HB := sd_ (below_step (bw3_ HB.out GE881.out GE882.out GE914.out) hb); have NB881_923 := sd_ ((by rw [hg]; exact Nat.ne_of_lt (bl_ BK881.out) : gb881 ≠ gb923)); have NB923_881 := sd_ ((by rw [hg]; exact Nat.ne_of_gt (bl_ BK881.out) : gb923 ≠ gb881)); replace BK881 := sd_ (bb_ BK881.out hb); have NB882_923 := sd_ ((by rw [hg]; exact Nat.ne_of_lt (bl_ BK882.out) : gb882 ≠ gb923)); have NB923_882 := sd_ ((by rw [hg]; exact Nat.ne_of_gt (bl_ BK882.out) : gb923 ≠ gb882)); replace BK882 := sd_ (bb_ BK882.out hb); have NB914_923 := sd_ ((by rw [hg]; exact Nat.ne_of_lt (bl_ BK914.out) : gb914 ≠ gb923)); have NB923_914 := sd_ ((by rw [hg]; exact Nat.ne_of_gt (bl_ BK914.out) : gb923 ≠ gb914)); replace BK914 := sd_ (bb_ BK914.out hb); clear hb hbox hg; have hnb61 := NB923_881.out; have hnc61 := NB881_923.out; have hnb62 := NB923_882.out; have hnc62 := NB882_923.out; have hnb63 := NB923_914.out; have hnc63 := NB914_923.out; have hcz64_0 : w60.cell? ⟨gb923, 0, none⟩ = some (.int .i64 0) := (blk_cell BK923.out 0).trans rfl; have hcz64_1 : w60.cell? ⟨gb923, 1, none⟩ = some (.int .i64 0) := (blk_cell BK923.out 1).trans rfl; have hcz64_2 : w60.cell? ⟨gb923, 2, none⟩ = some (.slice none 0 0) := (blk_cell BK923.out 2).trans rfl; have hcz64_3 : w60.cell? ⟨gb923, 3, none⟩ = some (.slice none 0 0) := (blk_cell BK923.out 3).trans rfl; have hfz64_0 := blk_frozen BK923.out 0; have hfz64_1 := blk_frozen BK923.out 1; have hfz64_2 := blk_frozen BK923.out 2; have hfz64_3 := blk_frozen BK923.out 3; obtain ⟨Ao65, co65, eo65⟩ := Kd.R_slice HO919.out; subst eo65; obtain ⟨Ao66, co66, eo66⟩ := Kd.R_slice HO922.out; subst eo66; have hcz67_0 : w60.cell? ⟨gb914, 0, none⟩ = some (.int .i64 t904) := (blk_cell BK914.out 0).trans rfl; have hcz67_1 : w60.cell? ⟨gb914, 1, none⟩ = some (.slice Ao55 t905.length co55) := (blk_cell BK914.out 1).trans rfl; have hcz67_2 : w60.cell? ⟨gb914, 2, none⟩ = some (.slice Ao56 t908.length co56) := (blk_cell BK914.out 2).trans rfl; have hcz67_3 : w60.cell? ⟨gb914, 3, none⟩ = some (.slice Ao57 t911.length co57) := (blk_cell BK914.out 3).trans rfl; have hfz67_0 := blk_frozen BK914.out 0; have hfz67_1 := blk_frozen BK914.out 1; have hfz67_2 := blk_frozen BK914.out 2; have hfz67_3 := blk_frozen BK914.out 3) | ((with_reducible refine gate_callee (f := 45) rfl ?_); refine goesL_ (some 35) rfl rfl Try.func45 (by kernel_rfl) rfl #[.agg #[.int .i64 t904, .slice Ao55 t905.length co55, .slice Ao56 t908.length co56, .slice Ao57 t911.length co57], .agg #[.int .i64 t915, .int .i64 t916, .slice Ao65 t917.length co65, .slice Ao66 t920.length co66], .int .i64 a2] rfl (by (try simp only [List.map_toArray, List.map_cons, List.map_nil]); first | done | rfl | (simp only [List.length_drop, List.length_take]; rfl)) ?_; (with_reducible refine (impl_IsTerm.calls k t904 _ _ t905 _ _ t908 _ _ t911 t915 t916 _ _ t917 _ _ t920 a2 t924 _ ?side1 ?side2 ?side3 ?side4 ?side5 ?side6 ?side7 ?side8 ?side9 ?side10 A25.out).mono ?_); (case side1 => refine (Kd.R_reads' (e := 3) (base := w.heap.size) (ok := fun k_ => ((((some k_ ≠ (.slice Ao56 t908.length co56 : Value).ownBlock ∧ some k_ ≠ (.slice Ao43 t886.length co43 : Value).ownBlock) ∧ some k_ ≠ (.slice Ao44 t889.length co44 : Value).ownBlock) ∧ some k_ ≠ (.slice Ao46 t897.length co46 : Value).ownBlock) ∧ some k_ ≠ (.slice Ao65 t917.length co65 : Value).ownBlock)) (n := t905.length) (c := co55) ?_).2.2; exact (by (with_reducible repeat (first | apply Kd.R_alloc | apply Kd.R_drewN | apply Kd.R_drew)); exact (Kd.R_mono (Kd.R_far (p := ⟨gb923, 3, none⟩) (Kd.R_far (p := ⟨gb923, 2, none⟩) (Kd.R_far (p := ⟨gb923, 1, none⟩) (Kd.R_far (p := ⟨gb923, 0, none⟩) (Kd.R_types HO907.out BK923.out (by decide)) (fun _ hk => hk.2) (.int .i64 t915)) (fun _ hk => hk.2) (.int .i64 t916)) (fun _ hk => hk.2) (.slice Ao65 t917.length co65)) (fun _ hk => hk.2) (.slice Ao66 t920.length co66)) (fun _ h_ => h_.1)))); (case side2 => exact (Kd.R_reads' HO907.out).2.1); (case side3 => refine (Kd.R_reads' (e := 3) (base := w.heap.size) (ok := fun k_ => ((((some k_ ≠ (.slice Ao55 t905.length co55 : Value).ownBlock ∧ some k_ ≠ (.slice Ao43 t886.length co43 : Value).ownBlock) ∧ some k_ ≠ (.slice Ao44 t889.length co44 : Value).ownBlock) ∧ some k_ ≠ (.slice Ao46 t897.length co46 : Value).ownBlock) ∧ some k_ ≠ (.slice Ao65 t917.length co65 : Value).ownBlock)) (n := t908.length) (c := co56) ?_).2.2; exact (by (with_reducible repeat (first | apply Kd.R_alloc | apply Kd.R_drewN | apply Kd.R_drew)); exact (Kd.R_mono (Kd.R_far (p := ⟨gb923, 3, none⟩) (Kd.R_far (p := ⟨gb923, 2, none⟩) (Kd.R_far (p := ⟨gb923, 1, none⟩) (Kd.R_far (p := ⟨gb923, 0, none⟩) (Kd.R_types HO910.out BK923.out (by decide)) (fun _ hk => hk.2) (.int .i64 t915)) (fun _ hk => hk.2) (.int .i64 t916)) (fun _ hk => hk.2) (.slice Ao65 t917.length co65)) (fun _ hk => hk.2) (.slice Ao66 t920.length co66)) (fun _ h_ => h_.1)))); (case side4 => exact (Kd.R_reads' HO910.out).2.1); (case side5 => refine (Kd.R_reads' (e := 4) (base := w.heap.size) (ok := fun k_ => (True ∧ some k_ ≠ (.slice Ao45 t892.length co45 : Value).ownBlock)) (n := t911.length) (c := co57) ?_).2.2; exact (by (with_reducible repeat (first | apply Kd.R_alloc | apply Kd.R_drewN | apply Kd.R_drew)); exact (Kd.R_mono (Kd.R_far (p := ⟨gb923, 3, none⟩) (Kd.R_far (p := ⟨gb923, 2, none⟩) (Kd.R_far (p := ⟨gb923, 1, none⟩) (Kd.R_far (p := ⟨gb923, 0, none⟩) (Kd.R_types HO913.out BK923.out (by decide)) (fun _ hk => hk.2) (.int .i64 t915)) (fun _ hk => hk.2) (.int .i64 t916)) (fun _ hk => hk.2) (.slice Ao65 t917.length co65)) (fun _ hk => hk.2) (.slice Ao66 t920.length co66)) (fun _ h_ => h_.1)))); (case side6 => exact (Kd.R_reads' HO913.out).2.1); (case side7 => refine (Kd.R_reads' (e := 3) (base := w.heap.size) (ok := fun k_ => (((((True ∧ some k_ ≠ (.slice Ao43 t886.length co43 : Value).ownBlock) ∧ some k_ ≠ (.slice Ao44 t889.length co44 : Value).ownBlock) ∧ some k_ ≠ (.slice Ao46 t897.length co46 : Value).ownBlock) ∧ some k_ ≠ (.slice Ao55 t905.length co55 : Value).ownBlock) ∧ some k_ ≠ (.slice Ao56 t908.length co56 : Value).ownBlock)) (n := t917.length) (c := co65) ?_).2.2; exact (by (with_reducible repeat (first | apply Kd.R_alloc | apply Kd.R_drewN | apply Kd.R_drew)); exact (Kd.R_mono (Kd.R_far (p := ⟨gb923, 3, none⟩) (Kd.R_far (p := ⟨gb923, 2, none⟩) (Kd.R_far (p := ⟨gb923, 1, none⟩) (Kd.R_far (p := ⟨gb923, 0, none⟩) (Kd.R_types HO919.out BK923.out (by decide)) (fun _ hk => hk.2) (.int .i64 t915)) (fun _ hk => hk.2) (.int .i64 t916)) (fun _ hk => hk.2) (.slice Ao65 t917.length co65)) (fun _ hk => hk.2) (.slice Ao66 t920.length co66)) (fun _ h_ => h_.1)))); (case side8 => exact (Kd.R_reads' HO919.out).2.1); (case side9 => refine (Kd.R_reads' (e := 48) (base := w.heap.size) (ok := fun k_ => (((((((some k_ ≠ (.slice Ao65 t917.length co65 : Value).ownBlock ∧ some k_ ≠ (.slice Ao43 t886.length co43 : Value).ownBlock) ∧ some k_ ≠ (.slice Ao44 t889.length co44 : Value).ownBlock) ∧ some k_ ≠ (.slice Ao46 t897.length co46 : Value).ownBlock) ∧ some k_ ≠ (.slice Ao47 t900.length co47 : Value).ownBlock) ∧ some k_ ≠ (.slice Ao55 t905.length co55 : Value).ownBlock) ∧ some k_ ≠ (.slice Ao56 t908.length co56 : Value).ownBlock) ∧ k_ ≠ gb923)) (n := t920.length) (c := co66) ?_).2.2; exact (by (with_reducible repeat (first | apply Kd.R_alloc | apply Kd.R_drewN | apply Kd.R_drew)); exact (Kd.R_mono (Kd.R_far (p := ⟨gb923, 3, none⟩) (Kd.R_far (p := ⟨gb923, 2, none⟩) (Kd.R_far (p := ⟨gb923, 1, none⟩) (Kd.R_far (p := ⟨gb923, 0, none⟩) (Kd.R_mono HO922.out (fun k_ hk => (⟨hk, hk.2⟩ : _ ∧ k_ ≠ gb923))) (fun _ hk => hk.2) (.int .i64 t915)) (fun _ hk => hk.2) (.int .i64 t916)) (fun _ hk => hk.2) (.slice Ao65 t917.length co65)) (fun _ hk => hk.2) (.slice Ao66 t920.length co66)) (fun _ h_ => h_.1)))); (case side10 => exact (Kd.R_reads' HO922.out).2.1); rintro e w68 ⟨rfl, hb⟩; refine ⟨_, rfl, ?_⟩; replace HO888 := sd_ (Kd.R_below (by (with_reducible repeat (first | apply Kd.R_alloc | apply Kd.R_drewN | apply Kd.R_drew)); exact (Kd.R_mono (Kd.R_far (p := ⟨gb923, 3, none⟩) (Kd.R_far (p := ⟨gb923, 2, none⟩) (Kd.R_far (p := ⟨gb923, 1, none⟩) (Kd.R_far (p := ⟨gb923, 0, none⟩) (Kd.R_types HO888.out BK923.out (by decide)) (fun _ hk => hk.2) (.int .i64 t915)) (fun _ hk => hk.2) (.int .i64 t916)) (fun _ hk => hk.2) (.slice Ao65 t917.length co65)) (fun _ hk => hk.2) (.slice Ao66 t920.length co66)) (fun _ h_ => h_.1))) hb); replace HO891 := sd_ (Kd.R_below (by (with_reducible repeat (first | apply Kd.R_alloc | apply Kd.R_drewN | apply Kd.R_drew)); exact (Kd.R_mono (Kd.R_far (p := ⟨gb923, 3, none⟩) (Kd.R_far (p := ⟨gb923, 2, none⟩) (Kd.R_far (p := ⟨gb923, 1, none⟩) (Kd.R_far (p := ⟨gb923, 0, none⟩) (Kd.R_types HO891.out BK923.out (by decide)) (fun _ hk => hk.2) (.int .i64 t915)) (fun _ hk => hk.2) (.int .i64 t916)) (fun _ hk => hk.2) (.slice Ao65 t917.length co65)) (fun _ hk => hk.2) (.slice Ao66 t920.length co66)) (fun _ h_ => h_.1))) hb); replace HO894 := sd_ (Kd.R_below (by (with_reducible repeat (first | apply Kd.R_alloc | apply Kd.R_drewN | apply Kd.R_drew)); exact (Kd.R_mono (Kd.R_far (p := ⟨gb923, 3, none⟩) (Kd.R_far (p := ⟨gb923, 2, none⟩) (Kd.R_far (p := ⟨gb923, 1, none⟩) (Kd.R_far (p := ⟨gb923, 0, none⟩) (Kd.R_types HO894.out BK923.out (by decide)) (fun _ hk => hk.2) (.int .i64 t915)) (fun _ hk => hk.2) (.int .i64 t916)) (fun _ hk => hk.2) (.slice Ao65 t917.length co65)) (fun _ hk => hk.2) (.slice Ao66 t920.length co66)) (fun _ h_ => h_.1))) hb); replace HO899 := sd_ (Kd.R_below (by (with_reducible repeat (first | apply Kd.R_alloc | apply Kd.R_drewN | apply Kd.R_drew)); exact (Kd.R_mono (Kd.R_far (p := ⟨gb923, 3, none⟩) (Kd.R_far (p := ⟨gb923, 2, none⟩) (Kd.R_far (p := ⟨gb923, 1, none⟩) (Kd.R_far (p := ⟨gb923, 0, none⟩) (Kd.R_types HO899.out BK923.out (by decide)) (fun _ hk => hk.2) (.int .i64 t915)) (fun _ hk => hk.2) (.int .i64 t916)) (fun _ hk => hk.2) (.slice Ao65 t917.length co65)) (fun _ hk => hk.2) (.slice Ao66 t920.length co66)) (fun _ h_ => h_.1))) hb); replace HO902 := sd_ (Kd.R_below (by (with_reducible repeat (first | apply Kd.R_alloc | apply Kd.R_drewN | apply Kd.R_drew)); exact (Kd.R_mono (Kd.R_far (p := ⟨gb923, 3, none⟩) (Kd.R_far (p := ⟨gb923, 2, none⟩) (Kd.R_far (p := ⟨gb923, 1, none⟩) (Kd.R_far (p := ⟨gb923, 0, none⟩) (Kd.R_mono HO902.out (fun k_ hk => (⟨hk, hk.2⟩ : _ ∧ k_ ≠ gb923))) (fun _ hk => hk.2) (.int .i64 t915)) (fun _ hk => hk.2) (.int .i64 t916)) (fun _ hk => hk.2) (.slice Ao65 t917.length co65)) (fun _ hk => hk.2) (.slice Ao66 t920.length co66)) (fun _ h_ => h_.1))) hb); replace HO907 := sd_ (Kd.R_below (by (with_reducible repeat (first | apply Kd.R_alloc | apply Kd.R_drewN | apply Kd.R_drew)); exact (Kd.R_mono (Kd.R_far (p := ⟨gb923, 3, none⟩) (Kd.R_far (p := ⟨gb923, 2, none⟩) (Kd.R_far (p := ⟨gb923, 1, none⟩) (Kd.R_far (p := ⟨gb923, 0, none⟩) (Kd.R_types HO907.out BK923.out (by decide)) (fun _ hk => hk.2) (.int .i64 t915)) (fun _ hk => hk.2) (.int .i64 t916)) (fun _ hk => hk.2) (.slice Ao65 t917.length co65)) (fun _ hk => hk.2) (.slice Ao66 t920.length co66)) (fun _ h_ => h_.1))) hb); replace HO910 := sd_ (Kd.R_below (by (with_reducible repeat (first | apply Kd.R_alloc | apply Kd.R_drewN | apply Kd.R_drew)); exact (Kd.R_mono (Kd.R_far (p := ⟨gb923, 3, none⟩) (Kd.R_far (p := ⟨gb923, 2, none⟩) (Kd.R_far (p := ⟨gb923, 1, none⟩) (Kd.R_far (p := ⟨gb923, 0, none⟩) (Kd.R_types HO910.out BK923.out (by decide)) (fun _ hk => hk.2) (.int .i64 t915)) (fun _ hk => hk.2) (.int .i64 t916)) (fun _ hk => hk.2) (.slice Ao65 t917.length co65)) (fun _ hk => hk.2) (.slice Ao66 t920.length co66)) (fun _ h_ => h_.1))) hb); replace HO913 := sd_ (Kd.R_below (by (with_reducible repeat (first | apply Kd.R_alloc | apply Kd.R_drewN | apply Kd.R_drew)); exact (Kd.R_mono (Kd.R_far (p := ⟨gb923, 3, none⟩) (Kd.R_far (p := ⟨gb923, 2, none⟩) (Kd.R_far (p := ⟨gb923, 1, none⟩) (Kd.R_far (p := ⟨gb923, 0, none⟩) (Kd.R_types HO913.out BK923.out (by decide)) (fun _ hk => hk.2) (.int .i64 t915)) (fun _ hk => hk.2) (.int .i64 t916)) (fun _ hk => hk.2) (.slice Ao65 t917.length co65)) (fun _ hk => hk.2) (.slice Ao66 t920.length co66)) (fun _ h_ => h_.1))) hb); replace HO919 := sd_ (Kd.R_below (by (with_reducible repeat (first | apply Kd.R_alloc | apply Kd.R_drewN | apply Kd.R_drew)); exact (Kd.R_mono (Kd.R_far (p := ⟨gb923, 3, none⟩) (Kd.R_far (p := ⟨gb923, 2, none⟩) (Kd.R_far (p := ⟨gb923, 1, none⟩) (Kd.R_far (p := ⟨gb923, 0, none⟩) (Kd.R_types HO919.out BK923.out (by decide)) (fun _ hk => hk.2) (.int .i64 t915)) (fun _ hk => hk.2) (.int .i64 t916)) (fun _ hk => hk.2) (.slice Ao65 t917.length co65)) (fun _ hk => hk.2) (.slice Ao66 t920.length co66)) (fun _ h_ => h_.1))) hb); replace HO922 := sd_ (Kd.R_below (by (with_reducible repeat (first | apply Kd.R_alloc | apply Kd.R_drewN | apply Kd.R_drew)); exact (Kd.R_mono (Kd.R_far (p := ⟨gb923, 3, none⟩) (Kd.R_far (p := ⟨gb923, 2, none⟩) (Kd.R_far (p := ⟨gb923, 1, none⟩) (Kd.R_far (p := ⟨gb923, 0, none⟩) (Kd.R_mono HO922.out (fun k_ hk => (⟨hk, hk.2⟩ : _ ∧ k_ ≠ gb923))) (fun _ hk => hk.2) (.int .i64 t915)) (fun _ hk => hk.2) (.int .i64 t916)) (fun _ hk => hk.2) (.slice Ao65 t917.length co65)) (fun _ hk => hk.2) (.slice Ao66 t920.length co66)) (fun _ h_ => h_.1))) hb); replace BK881 := sd_ (blk_below (g := gb881) (o := .cells #[.int .i64 a0_0, .slice A0_1 l0_1.length c0_1, .slice A0_2 l0_2.length c0_2, .slice A0_3 l0_3.length c0_3] 34 (0, 0)) (by (with_reducible repeat (first | refine blk_drewN ?_ _ | refine blk_drew ?_ | refine blk_alloc ?_ _)); refine blk_far ?_ NB881_923.out _; (with_reducible repeat (first | refine blk_drewN ?_ _ | refine blk_drew ?_ | refine blk_alloc ?_ _)); refine blk_far ?_ NB881_923.out _; (with_reducible repeat (first | refine blk_drewN ?_ _ | refine blk_drew ?_ | refine blk_alloc ?_ _)); refine blk_far ?_ NB881_923.out _; (with_reducible repeat (first | refine blk_drewN ?_ _ | refine blk_drew ?_ | refine blk_alloc ?_ _)); refine blk_far ?_ NB881_923.out _; (with_reducible repeat (first | refine blk_drewN ?_ _ | refine blk_drew ?_ | refine blk_alloc ?_ _)); exact BK881.out) hb); replace BK882 := sd_ (blk_below (g := gb882) (o := .cells #[.int .i64 a1_0, .int .i64 a1_1, .slice A1_2 l1_2.length c1_2, .slice A1_3 l1_3.length c1_3] 43 (0, 0)) (by (with_reducible repeat (first | refine blk_drewN ?_ _ | refine blk_drew ?_ | refine blk_alloc ?_ _)); refine blk_far ?_ NB882_923.out _; (with_reducible repeat (first | refine blk_drewN ?_ _ | refine blk_drew ?_ | refine blk_alloc ?_ _)); refine blk_far ?_ NB882_923.out _; (with_reducible repeat (first | refine blk_drewN ?_ _ | refine blk_drew ?_ | refine blk_alloc ?_ _)); refine blk_far ?_ NB882_923.out _; (with_reducible repeat (first | refine blk_drewN ?_ _ | refine blk_drew ?_ | refine blk_alloc ?_ _)); refine blk_far ?_ NB882_923.out _; (with_reducible repeat (first | refine blk_drewN ?_ _ | refine blk_drew ?_ | refine blk_alloc ?_ _)); exact BK882.out) hb); replace BK914 := sd_ (blk_below (g := gb914) (o := .cells #[.int .i64 t904, .slice Ao55 t905.length co55, .slice Ao56 t908.length co56, .slice Ao57 t911.length co57] 37 (0, 0)) (by (with_reducible repeat (first | refine blk_drewN ?_ _ | refine blk_drew ?_ | refine blk_alloc ?_ _)); refine blk_far ?_ NB914_923.out _; (with_reducible repeat (first | refine blk_drewN ?_ _ | refine blk_drew ?_ | refine blk_alloc ?_ _)); refine blk_far ?_ NB914_923.out _; (with_reducible repeat (first | refine blk_drewN ?_ _ | refine blk_drew ?_ | refine blk_alloc ?_ _)); refine blk_far ?_ NB914_923.out _; (with_reducible repeat (first | refine blk_drewN ?_ _ | refine blk_drew ?_ | refine blk_alloc ?_ _)); refine blk_far ?_ NB914_923.out _; (with_reducible repeat (first | refine blk_drewN ?_ _ | refine blk_drew ?_ | refine blk_alloc ?_ _)); exact BK914.out) hb); replace BK923 := sd_ (blk_below (g := gb923) (o := .cells #[.int .i64 t915, .int .i64 t916, .slice Ao65 t917.length co65, .slice Ao66 t920.length co66] 48 (0, 0)) (by (with_reducible repeat (first | refine blk_drewN ?_ _ | refine blk_drew ?_ | refine blk_alloc ?_ _)); refine blk_put (cs := #[.int .i64 t915, .int .i64 t916, .slice Ao65 t917.length co65, .slice none 0 0]) ?_ 3 _ rfl; (with_reducible repeat (first | refine blk_drewN ?_ _ | refine blk_drew ?_ | refine blk_alloc ?_ _)); refine blk_put (cs := #[.int .i64 t915, .int .i64 t916, .slice none 0 0, .slice none 0 0]) ?_ 2 _ rfl; (with_reducible repeat (first | refine blk_drewN ?_ _ | refine blk_drew ?_ | refine blk_alloc ?_ _)); refine blk_put (cs := #[.int .i64 t915, .int .i64 0, .slice none 0 0, .slice none 0 0]) ?_ 1 _ rfl; (with_reducible repeat (first | refine blk_drewN ?_ _ | refine blk_drew ?_ | refine blk_alloc ?_ _)); refine blk_put (cs := #[.int .i64 0, .int .i64 0, .slice none 0 0, .slice none 0 0]) ?_ 0 _ rfl; (with_reducible repeat (first | refine blk_drewN ?_ _ | refine blk_drew ?_ | refine blk_alloc ?_ _)); exact BK923.out) hb); replace HB := sd_ (below_step (bw4_ HB.out GE881.out GE882.out GE914.out GE923.out) hb); (try clear hb); (try clear hb2); (try clear hk); (try clear hi)))
      replace HO888 := sd_ (Kd.R_drew HO888.out)
      replace HO891 := sd_ (Kd.R_drew HO891.out)
      replace HO894 := sd_ (Kd.R_drew HO894.out)
      replace HO899 := sd_ (Kd.R_drew HO899.out)
      replace HO902 := sd_ (Kd.R_drew HO902.out)
      replace HO907 := sd_ (Kd.R_drew HO907.out)
      replace HO910 := sd_ (Kd.R_drew HO910.out)
      replace HO913 := sd_ (Kd.R_drew HO913.out)
      replace HO919 := sd_ (Kd.R_drew HO919.out)
      replace HO922 := sd_ (Kd.R_drew HO922.out)
      replace BK881 := sd_ (blk_drew BK881.out)
      replace BK882 := sd_ (blk_drew BK882.out)
      replace BK914 := sd_ (blk_drew BK914.out)
      replace BK923 := sd_ (blk_drew BK923.out)
      replace HB := sd_ (below_drew1 HB.out)
      refine start_ (n := 5) (S := fun w' => w'.cell? ⟨gb914, 0, none⟩ = some (.int .i64 t904) ∧ w'.cell? ⟨gb914, 1, none⟩ = some (.slice Ao55 t905.length co55) ∧ w'.cell? ⟨gb914, 2, none⟩ = some (.slice Ao56 t908.length co56) ∧ w'.cell? ⟨gb914, 3, none⟩ = some (.slice Ao57 t911.length co57) ∧ w'.cell? ⟨gb881, 0, none⟩ = some (.int .i64 a0_0) ∧ w'.cell? ⟨gb881, 1, none⟩ = some (.slice A0_1 l0_1.length c0_1) ∧ w'.cell? ⟨gb881, 2, none⟩ = some (.slice A0_2 l0_2.length c0_2) ∧ w'.cell? ⟨gb881, 3, none⟩ = some (.slice A0_3 l0_3.length c0_3)) (ds := []) #[false, false, false, false, false] (by kernel_rfl) rfl rfl ⟨(blk_cell BK914.out 0).trans rfl, (blk_cell BK914.out 1).trans rfl, (blk_cell BK914.out 2).trans rfl, (blk_cell BK914.out 3).trans rfl, (blk_cell BK881.out 0).trans rfl, (blk_cell BK881.out 1).trans rfl, (blk_cell BK881.out 2).trans rfl, (blk_cell BK881.out 3).trans rfl⟩ (fun hHeld => ?_)
      generalize w68.drew = w69 at HO888 HO891 HO894 HO899 HO902 HO907 HO910 HO913 HO919 HO922 BK881 BK882 BK914 BK923 HB hHeld ⊢
      refine take_ (i := 0) (N := some 39) (v := ?_) (a' := ?_) #[true, false, false, false, false] rfl rfl (by kernel_rfl) (fun _ _ _ h => h) (Or.inl ⟨by rfl, ?_⟩) hHeld ?_ ?_
      rotate_left
      ·rintro w' ⟨s0, s1, s2, s3, s4, s5, s6, s7⟩
       go_simp
       with_reducible rfl
      rotate_left
      ·simp only [Act.put, List.setIfInBounds_toArray, List.set_cons_zero, List.set_cons_succ, i64_w, i32_w]
       rfl
      refine take_ (i := 1) (N := some 40) (v := ?_) (a' := ?_) #[true, true, false, false, false] rfl rfl (by kernel_rfl) (fun _ _ _ h => h) (Or.inl ⟨by rfl, ?_⟩) hHeld ?_ ?_
      rotate_left
      ·rintro w' ⟨s0, s1, s2, s3, s4, s5, s6, s7⟩
       go_simp
       with_reducible rfl
      rotate_left
      ·simp only [Act.put, List.setIfInBounds_toArray, List.set_cons_zero, List.set_cons_succ, i64_w, i32_w]
       rfl
      refine one_ (i := 2) (N := some 41) #[true, true, true, false, false] rfl rfl (by kernel_rfl) (by decide) (fun K hK => ?_)
      refine goes_ Try.func26 (by kernel_rfl) rfl #[.agg #[.int .i64 a0_0, .slice A0_1 l0_1.length c0_1, .slice A0_2 l0_2.length c0_2, .slice A0_3 l0_3.length c0_3]] (by rfl) rfl rfl (by (try simp only [List.map_toArray, List.map_cons, List.map_nil]); first | done | rfl | (simp only [List.length_drop, List.length_take]; rfl)) ?_
      with_reducible refine (laws_toSystem.calls k a0_0 _ _ l0_1 _ _ l0_2 _ _ l0_3 t925 t926 t929 t932 _ ?side1 ?side2 ?side3 ?side4 ?side5 ?side6 A27.out).mono ?_
      (case side1 => exact kc_ HR0_1.out HB.out)
      (case side2 => exact HC0_1.out)
      (case side3 => exact kc_ HR0_2.out HB.out)
      (case side4 => exact HC0_2.out)
      (case side5 => exact kc_ HR0_3.out HB.out)
      (case side6 => exact HC0_3.out)
      rintro e w70 ⟨v927, v930, v933, rfl, ho0, ho1, ho2, hb⟩
      refine ⟨_, rfl, ?_⟩
      replace HO902 := sd_ (Kd.R_mono (Kd.R_told (Kd.R_told (Kd.R_old (ro_ HO902.out) hb) (Kd.R_base ho0)) (Kd.R_base ho1)) (fun _ h_ => h_.1))
      replace HO922 := sd_ (Kd.R_mono (Kd.R_told (Kd.R_told (Kd.R_old (ro_ HO922.out) hb) (Kd.R_base ho0)) (Kd.R_base ho1)) (fun _ h_ => h_.1))
      have HO928 := sd_ (Kd.R_lower (Kd.R_new' (Kd.R_new' (Kd.R_new' (Kd.R_new' (Kd.R_new' (Kd.R_new' ho0 (Kd.R_lt (ro_ HO888.out))) (Kd.R_lt (ro_ HO891.out))) (Kd.R_lt (ro_ HO899.out))) (Kd.R_lt (ro_ HO907.out))) (Kd.R_lt (ro_ HO910.out))) (Kd.R_lt (ro_ HO919.out))) (below_size (bw4_ HB.out GE881.out GE882.out GE914.out GE923.out)))
      have HO931 := sd_ (Kd.R_lower (Kd.R_new' (Kd.R_new' (Kd.R_new' (Kd.R_new' (Kd.R_new' (Kd.R_new' ho1 (Kd.R_lt (ro_ HO888.out))) (Kd.R_lt (ro_ HO891.out))) (Kd.R_lt (ro_ HO899.out))) (Kd.R_lt (ro_ HO907.out))) (Kd.R_lt (ro_ HO910.out))) (Kd.R_lt (ro_ HO919.out))) (below_size (bw4_ HB.out GE881.out GE882.out GE914.out GE923.out)))
      replace HO888 := sd_ (Kd.R_mono (Kd.R_told (Kd.R_told (Kd.R_old (ro_ HO888.out) hb) (Kd.R_base ho0)) (Kd.R_base ho1)) (fun _ h_ => h_.1))
      replace HO891 := sd_ (Kd.R_mono (Kd.R_told (Kd.R_told (Kd.R_old (ro_ HO891.out) hb) (Kd.R_base ho0)) (Kd.R_base ho1)) (fun _ h_ => h_.1))
      replace HO899 := sd_ (Kd.R_mono (Kd.R_told (Kd.R_told (Kd.R_old (ro_ HO899.out) hb) (Kd.R_base ho0)) (Kd.R_base ho1)) (fun _ h_ => h_.1))
      replace HO907 := sd_ (Kd.R_mono (Kd.R_told (Kd.R_told (Kd.R_old (ro_ HO907.out) hb) (Kd.R_base ho0)) (Kd.R_base ho1)) (fun _ h_ => h_.1))
      replace HO910 := sd_ (Kd.R_mono (Kd.R_told (Kd.R_told (Kd.R_old (ro_ HO910.out) hb) (Kd.R_base ho0)) (Kd.R_base ho1)) (fun _ h_ => h_.1))
      replace HO919 := sd_ (Kd.R_mono (Kd.R_told (Kd.R_told (Kd.R_old (ro_ HO919.out) hb) (Kd.R_base ho0)) (Kd.R_base ho1)) (fun _ h_ => h_.1))
      have HO934 := sd_ (Kd.R_lower (Kd.R_new' (Kd.R_new' ho2 (Kd.R_lt (ro_ HO894.out))) (Kd.R_lt (ro_ HO913.out))) (below_size (bw4_ HB.out GE881.out GE882.out GE914.out GE923.out)))
      replace HO894 := sd_ (Kd.R_elder' (ro_ HO894.out) (Kd.R_base ho2) hb)
      replace HO913 := sd_ (Kd.R_elder' (ro_ HO913.out) (Kd.R_base ho2) hb)
      replace BK881 := sd_ (bb_ BK881.out hb)
      replace BK882 := sd_ (bb_ BK882.out hb)
      replace BK914 := sd_ (bb_ BK914.out hb)
      replace BK923 := sd_ (bb_ BK923.out hb)
      replace HB := sd_ (below_step (bw4_ HB.out GE881.out GE882.out GE914.out GE923.out) hb)
      (try clear hb)
      (try clear hb2)
      (try clear hk)
      (try clear hi)
      (try clear ho0)
      (try clear ho1)
      (try clear ho2)
      obtain ⟨Ao71, co71, eo71⟩ := Kd.R_slice HO928.out
      (first | subst eo71 | (injection eo71 with f1_ f2_ f3_; have f4_ := f1_.symm; have f5_ := f3_.symm; clear f1_ f2_ f3_; subst f4_; subst f5_))
      obtain ⟨Ao72, co72, eo72⟩ := Kd.R_slice HO931.out
      (first | subst eo72 | (injection eo72 with f1_ f2_ f3_; have f4_ := f1_.symm; have f5_ := f3_.symm; clear f1_ f2_ f3_; subst f4_; subst f5_))
      obtain ⟨Ao73, co73, eo73⟩ := Kd.R_slice HO934.out
      (first | subst eo73 | (injection eo73 with f1_ f2_ f3_; have f4_ := f1_.symm; have f5_ := f3_.symm; clear f1_ f2_ f3_; subst f4_; subst f5_))
      refine hK.out _ _ ⟨(blk_cell BK914.out 0).trans rfl, (blk_cell BK914.out 1).trans rfl, (blk_cell BK914.out 2).trans rfl, (blk_cell BK914.out 3).trans rfl, (blk_cell BK881.out 0).trans rfl, (blk_cell BK881.out 1).trans rfl, (blk_cell BK881.out 2).trans rfl, (blk_cell BK881.out 3).trans rfl⟩ (fun hHeld => ?_)
      clear hK K
      refine norm_ (a' := ?_) ?_ ?_
      rotate_left
      ·show Act.put _ (some 41) _ = _
       simp only [Act.put, List.setIfInBounds_toArray, List.set_cons_zero, List.set_cons_succ, i64_w, i32_w]
       rfl
      refine one_ (i := 3) (N := some 42) #[true, true, true, true, false] rfl rfl (by kernel_rfl) (by decide) (fun K hK => ?_)
      refine goes_ Try.func28 (by kernel_rfl) rfl #[.agg #[.int .i64 t904, .slice Ao55 t905.length co55, .slice Ao56 t908.length co56, .slice Ao57 t911.length co57], .agg #[.int .i64 t925, .slice Ao71 t926.length co71, .slice Ao72 t929.length co72, .slice Ao73 t932.length co73]] (by rfl) rfl rfl (by (try simp only [List.map_toArray, List.map_cons, List.map_nil]); first | done | rfl | (simp only [List.length_drop, List.length_take]; rfl)) ?_
      with_reducible refine (laws_eqSystem.calls k t904 _ _ t905 _ _ t908 _ _ t911 t925 _ _ t926 _ _ t929 _ _ t932 true _ ?side1 ?side2 ?side3 ?side4 ?side5 ?side6 ?side7 ?side8 ?side9 ?side10 ?side11 ?side12 A28.out).mono ?_
      (case side1 => exact kp_ (Kd.R_reads' HO907.out).2.2)
      (case side2 => exact (Kd.R_reads' HO907.out).2.1)
      (case side3 => exact kp_ (Kd.R_reads' HO910.out).2.2)
      (case side4 => exact (Kd.R_reads' HO910.out).2.1)
      (case side5 => exact kp_ (Kd.R_reads' HO913.out).2.2)
      (case side6 => exact (Kd.R_reads' HO913.out).2.1)
      (case side7 => exact kp_ (Kd.R_reads' HO928.out).2.2)
      (case side8 => exact (Kd.R_reads' HO928.out).2.1)
      (case side9 => exact kp_ (Kd.R_reads' HO931.out).2.2)
      (case side10 => exact (Kd.R_reads' HO931.out).2.1)
      (case side11 => exact kp_ (Kd.R_reads' HO934.out).2.2)
      (case side12 => exact (Kd.R_reads' HO934.out).2.1)
      rintro e w74 ⟨rfl, hb⟩
      refine ⟨_, rfl, ?_⟩
      replace HO888 := sd_ (Kd.R_below (ro_ HO888.out) hb)
      replace HO891 := sd_ (Kd.R_below (ro_ HO891.out) hb)
      replace HO894 := sd_ (Kd.R_below (ro_ HO894.out) hb)
      replace HO899 := sd_ (Kd.R_below (ro_ HO899.out) hb)
      replace HO902 := sd_ (Kd.R_below (ro_ HO902.out) hb)
      replace HO907 := sd_ (Kd.R_below (ro_ HO907.out) hb)
      replace HO910 := sd_ (Kd.R_below (ro_ HO910.out) hb)
      replace HO913 := sd_ (Kd.R_below (ro_ HO913.out) hb)
      replace HO919 := sd_ (Kd.R_below (ro_ HO919.out) hb)
      replace HO922 := sd_ (Kd.R_below (ro_ HO922.out) hb)
      replace HO928 := sd_ (Kd.R_below (ro_ HO928.out) hb)
      replace HO931 := sd_ (Kd.R_below (ro_ HO931.out) hb)
      replace HO934 := sd_ (Kd.R_below (ro_ HO934.out) hb)
      replace BK881 := sd_ (bb_ BK881.out hb)
      replace BK882 := sd_ (bb_ BK882.out hb)
      replace BK914 := sd_ (bb_ BK914.out hb)
      replace BK923 := sd_ (bb_ BK923.out hb)
      replace HB := sd_ (below_step (bw4_ HB.out GE881.out GE882.out GE914.out GE923.out) hb)
      (try clear hb)
      (try clear hb2)
      (try clear hk)
      (try clear hi)
      refine hK.out _ _ ⟨(blk_cell BK914.out 0).trans rfl, (blk_cell BK914.out 1).trans rfl, (blk_cell BK914.out 2).trans rfl, (blk_cell BK914.out 3).trans rfl, (blk_cell BK881.out 0).trans rfl, (blk_cell BK881.out 1).trans rfl, (blk_cell BK881.out 2).trans rfl, (blk_cell BK881.out 3).trans rfl⟩ (fun hHeld => ?_)
      clear hK K
      refine norm_ (a' := ?_) ?_ ?_
      rotate_left
      ·show Act.put _ (some 42) _ = _
       simp only [Act.put, List.setIfInBounds_toArray, List.set_cons_zero, List.set_cons_succ, i64_w, i32_w]
       rfl
      refine pure_ (i := 4) (N := some 43) (v := ?_) (a' := ?_) #[true, true, true, true, true] rfl rfl (by kernel_rfl) (fun _ _ _ h => h) (Or.inl ⟨by rfl, ?_⟩) ?_ ?_
      rotate_left
      ·intro w'
       go_simp
       with_reducible rfl
      rotate_left
      ·simp only [Act.put, List.setIfInBounds_toArray, List.set_cons_zero, List.set_cons_succ, i64_w, i32_w]
       rfl
      refine done_ (by kernel_rfl) ?_
      try go_wp2
      replace HO888 := sd_ (Kd.R_drew HO888.out)
      replace HO891 := sd_ (Kd.R_drew HO891.out)
      replace HO894 := sd_ (Kd.R_drew HO894.out)
      replace HO899 := sd_ (Kd.R_drew HO899.out)
      replace HO902 := sd_ (Kd.R_drew HO902.out)
      replace HO907 := sd_ (Kd.R_drew HO907.out)
      replace HO910 := sd_ (Kd.R_drew HO910.out)
      replace HO913 := sd_ (Kd.R_drew HO913.out)
      replace HO919 := sd_ (Kd.R_drew HO919.out)
      replace HO922 := sd_ (Kd.R_drew HO922.out)
      replace HO928 := sd_ (Kd.R_drew HO928.out)
      replace HO931 := sd_ (Kd.R_drew HO931.out)
      replace HO934 := sd_ (Kd.R_drew HO934.out)
      replace BK881 := sd_ (blk_drew BK881.out)
      replace BK882 := sd_ (blk_drew BK882.out)
      replace BK914 := sd_ (blk_drew BK914.out)
      replace BK923 := sd_ (blk_drew BK923.out)
      replace HB := sd_ (below_drew1 HB.out)
      refine start_ (n := 5) (S := fun w' => w'.cell? ⟨gb923, 0, none⟩ = some (.int .i64 t915) ∧ w'.cell? ⟨gb923, 1, none⟩ = some (.int .i64 t916) ∧ w'.cell? ⟨gb923, 2, none⟩ = some (.slice Ao65 t917.length co65) ∧ w'.cell? ⟨gb923, 3, none⟩ = some (.slice Ao66 t920.length co66) ∧ w'.cell? ⟨gb882, 0, none⟩ = some (.int .i64 a1_0) ∧ w'.cell? ⟨gb882, 1, none⟩ = some (.int .i64 a1_1) ∧ w'.cell? ⟨gb882, 2, none⟩ = some (.slice A1_2 l1_2.length c1_2) ∧ w'.cell? ⟨gb882, 3, none⟩ = some (.slice A1_3 l1_3.length c1_3)) (ds := []) #[false, false, false, false, false] (by kernel_rfl) rfl rfl ⟨(blk_cell BK923.out 0).trans rfl, (blk_cell BK923.out 1).trans rfl, (blk_cell BK923.out 2).trans rfl, (blk_cell BK923.out 3).trans rfl, (blk_cell BK882.out 0).trans rfl, (blk_cell BK882.out 1).trans rfl, (blk_cell BK882.out 2).trans rfl, (blk_cell BK882.out 3).trans rfl⟩ (fun hHeld => ?_)
      generalize w74.drew = w75 at HO888 HO891 HO894 HO899 HO902 HO907 HO910 HO913 HO919 HO922 HO928 HO931 HO934 BK881 BK882 BK914 BK923 HB hHeld ⊢
      refine take_ (i := 0) (N := some 44) (v := ?_) (a' := ?_) #[true, false, false, false, false] rfl rfl (by kernel_rfl) (fun _ _ _ h => h) (Or.inl ⟨by rfl, ?_⟩) hHeld ?_ ?_
      rotate_left
      ·rintro w' ⟨s0, s1, s2, s3, s4, s5, s6, s7⟩
       go_simp
       with_reducible rfl
      rotate_left
      ·simp only [Act.put, List.setIfInBounds_toArray, List.set_cons_zero, List.set_cons_succ, i64_w, i32_w]
       rfl
      refine take_ (i := 1) (N := some 45) (v := ?_) (a' := ?_) #[true, true, false, false, false] rfl rfl (by kernel_rfl) (fun _ _ _ h => h) (Or.inl ⟨by rfl, ?_⟩) hHeld ?_ ?_
      rotate_left
      ·rintro w' ⟨s0, s1, s2, s3, s4, s5, s6, s7⟩
       go_simp
       with_reducible rfl
      rotate_left
      ·simp only [Act.put, List.setIfInBounds_toArray, List.set_cons_zero, List.set_cons_succ, i64_w, i32_w]
       rfl
      refine one_ (i := 2) (N := some 46) #[true, true, true, false, false] rfl rfl (by kernel_rfl) (by decide) (fun K hK => ?_)
      refine goes_ Try.func33 (by kernel_rfl) rfl #[.agg #[.int .i64 a1_0, .int .i64 a1_1, .slice A1_2 l1_2.length c1_2, .slice A1_3 l1_3.length c1_3]] (by rfl) rfl rfl (by (try simp only [List.map_toArray, List.map_cons, List.map_nil]); first | done | rfl | (simp only [List.length_drop, List.length_take]; rfl)) ?_
      with_reducible refine (laws_toTerm.calls k a1_0 a1_1 _ _ l1_2 _ _ l1_3 t936 t937 t938 t941 _ ?side1 ?side2 ?side3 ?side4 A30.out).mono ?_
      (case side1 => exact kc_ HR1_2.out HB.out)
      (case side2 => exact HC1_2.out)
      (case side3 => exact kc_ HR1_3.out HB.out)
      (case side4 => exact HC1_3.out)
      rintro e w76 ⟨v939, v942, rfl, ho0, ho1, hb⟩
      refine ⟨_, rfl, ?_⟩
      replace HO894 := sd_ (Kd.R_below (ro_ HO894.out) hb)
      replace HO913 := sd_ (Kd.R_below (ro_ HO913.out) hb)
      replace HO934 := sd_ (Kd.R_below (ro_ HO934.out) hb)
      have HO940 := sd_ (Kd.R_lower (Kd.R_new' (Kd.R_new' (Kd.R_new' (Kd.R_new' (Kd.R_new' (Kd.R_new' (Kd.R_new' (Kd.R_new' ho0 (Kd.R_lt (ro_ HO888.out))) (Kd.R_lt (ro_ HO891.out))) (Kd.R_lt (ro_ HO899.out))) (Kd.R_lt (ro_ HO907.out))) (Kd.R_lt (ro_ HO910.out))) (Kd.R_lt (ro_ HO919.out))) (Kd.R_lt (ro_ HO928.out))) (Kd.R_lt (ro_ HO931.out))) (below_size (bw4_ HB.out GE881.out GE882.out GE914.out GE923.out)))
      have HO943 := sd_ (Kd.R_lower (Kd.R_newB (Kd.R_new' (Kd.R_new' (Kd.R_new' (Kd.R_new' (Kd.R_new' (Kd.R_new' (Kd.R_new' (Kd.R_new' (Kd.R_new' (Kd.R_new' ho1 (Kd.R_lt (ro_ HO888.out))) (Kd.R_lt (ro_ HO891.out))) (Kd.R_lt (ro_ HO899.out))) (Kd.R_lt (ro_ HO902.out))) (Kd.R_lt (ro_ HO907.out))) (Kd.R_lt (ro_ HO910.out))) (Kd.R_lt (ro_ HO919.out))) (Kd.R_lt (ro_ HO922.out))) (Kd.R_lt (ro_ HO928.out))) (Kd.R_lt (ro_ HO931.out))) (g := gb923) (o := .cells #[.int .i64 t915, .int .i64 t916, .slice Ao65 t917.length co65, .slice Ao66 t920.length co66] 48 (0, 0)) (bz_ BK923.out)) (below_size (bw4_ HB.out GE881.out GE882.out GE914.out GE923.out)))
      replace HO888 := sd_ (Kd.R_elder' (ro_ HO888.out) (Kd.R_base ho0) hb)
      replace HO891 := sd_ (Kd.R_elder' (ro_ HO891.out) (Kd.R_base ho0) hb)
      replace HO899 := sd_ (Kd.R_elder' (ro_ HO899.out) (Kd.R_base ho0) hb)
      replace HO902 := sd_ (Kd.R_mono (Kd.R_told (Kd.R_told (Kd.R_old (ro_ HO902.out) hb) (Kd.R_base ho0)) (Kd.R_base ho1)) (fun _ h_ => h_.1))
      replace HO907 := sd_ (Kd.R_elder' (ro_ HO907.out) (Kd.R_base ho0) hb)
      replace HO910 := sd_ (Kd.R_elder' (ro_ HO910.out) (Kd.R_base ho0) hb)
      replace HO919 := sd_ (Kd.R_elder' (ro_ HO919.out) (Kd.R_base ho0) hb)
      replace HO922 := sd_ (Kd.R_mono (Kd.R_told (Kd.R_told (Kd.R_old (ro_ HO922.out) hb) (Kd.R_base ho0)) (Kd.R_base ho1)) (fun _ h_ => h_.1))
      replace HO928 := sd_ (Kd.R_elder' (ro_ HO928.out) (Kd.R_base ho0) hb)
      replace HO931 := sd_ (Kd.R_elder' (ro_ HO931.out) (Kd.R_base ho0) hb)
      replace BK881 := sd_ (bb_ BK881.out hb)
      replace BK882 := sd_ (bb_ BK882.out hb)
      replace BK914 := sd_ (bb_ BK914.out hb)
      replace BK923 := sd_ (bb_ BK923.out hb)
      replace HB := sd_ (below_step (bw4_ HB.out GE881.out GE882.out GE914.out GE923.out) hb)
      (try clear hb)
      (try clear hb2)
      (try clear hk)
      (try clear hi)
      (try clear ho0)
      (try clear ho1)
      obtain ⟨Ao77, co77, eo77⟩ := Kd.R_slice HO940.out
      (first | subst eo77 | (injection eo77 with f1_ f2_ f3_; have f4_ := f1_.symm; have f5_ := f3_.symm; clear f1_ f2_ f3_; subst f4_; subst f5_))
      obtain ⟨Ao78, co78, eo78⟩ := Kd.R_slice HO943.out
      (first | subst eo78 | (injection eo78 with f1_ f2_ f3_; have f4_ := f1_.symm; have f5_ := f3_.symm; clear f1_ f2_ f3_; subst f4_; subst f5_))
      refine hK.out _ _ ⟨(blk_cell BK923.out 0).trans rfl, (blk_cell BK923.out 1).trans rfl, (blk_cell BK923.out 2).trans rfl, (blk_cell BK923.out 3).trans rfl, (blk_cell BK882.out 0).trans rfl, (blk_cell BK882.out 1).trans rfl, (blk_cell BK882.out 2).trans rfl, (blk_cell BK882.out 3).trans rfl⟩ (fun hHeld => ?_)
      clear hK K
      refine norm_ (a' := ?_) ?_ ?_
      rotate_left
      ·show Act.put _ (some 46) _ = _
       simp only [Act.put, List.setIfInBounds_toArray, List.set_cons_zero, List.set_cons_succ, i64_w, i32_w]
       rfl
      refine one_ (i := 3) (N := some 47) #[true, true, true, true, false] rfl rfl (by kernel_rfl) (by decide) (fun K hK => ?_)
      refine goes_ Try.func35 (by kernel_rfl) rfl #[.agg #[.int .i64 t915, .int .i64 t916, .slice Ao65 t917.length co65, .slice Ao66 t920.length co66], .agg #[.int .i64 t936, .int .i64 t937, .slice Ao77 t938.length co77, .slice Ao78 t941.length co78]] (by rfl) rfl rfl (by (try simp only [List.map_toArray, List.map_cons, List.map_nil]); first | done | rfl | (simp only [List.length_drop, List.length_take]; rfl)) ?_
      with_reducible refine (laws_eqTerm.calls k t915 t916 _ _ t917 _ _ t920 t936 t937 _ _ t938 _ _ t941 true _ ?side1 ?side2 ?side3 ?side4 ?side5 ?side6 ?side7 ?side8 A31.out).mono ?_
      (case side1 => exact kp_ (Kd.R_reads' HO919.out).2.2)
      (case side2 => exact (Kd.R_reads' HO919.out).2.1)
      (case side3 => exact kp_ (Kd.R_reads' HO922.out).2.2)
      (case side4 => exact (Kd.R_reads' HO922.out).2.1)
      (case side5 => exact kp_ (Kd.R_reads' HO940.out).2.2)
      (case side6 => exact (Kd.R_reads' HO940.out).2.1)
      (case side7 => exact kp_ (Kd.R_reads' HO943.out).2.2)
      (case side8 => exact (Kd.R_reads' HO943.out).2.1)
      rintro e w79 ⟨rfl, hb⟩
      refine ⟨_, rfl, ?_⟩
      replace HO888 := sd_ (Kd.R_below (ro_ HO888.out) hb)
      replace HO891 := sd_ (Kd.R_below (ro_ HO891.out) hb)
      replace HO894 := sd_ (Kd.R_below (ro_ HO894.out) hb)
      replace HO899 := sd_ (Kd.R_below (ro_ HO899.out) hb)
      replace HO902 := sd_ (Kd.R_below (ro_ HO902.out) hb)
      replace HO907 := sd_ (Kd.R_below (ro_ HO907.out) hb)
      replace HO910 := sd_ (Kd.R_below (ro_ HO910.out) hb)
      replace HO913 := sd_ (Kd.R_below (ro_ HO913.out) hb)
      replace HO919 := sd_ (Kd.R_below (ro_ HO919.out) hb)
      replace HO922 := sd_ (Kd.R_below (ro_ HO922.out) hb)
      replace HO928 := sd_ (Kd.R_below (ro_ HO928.out) hb)
      replace HO931 := sd_ (Kd.R_below (ro_ HO931.out) hb)
      replace HO934 := sd_ (Kd.R_below (ro_ HO934.out) hb)
      replace HO940 := sd_ (Kd.R_below (ro_ HO940.out) hb)
      replace HO943 := sd_ (Kd.R_below (ro_ HO943.out) hb)
      replace BK881 := sd_ (bb_ BK881.out hb)
      replace BK882 := sd_ (bb_ BK882.out hb)
      replace BK914 := sd_ (bb_ BK914.out hb)
      replace BK923 := sd_ (bb_ BK923.out hb)
      replace HB := sd_ (below_step (bw4_ HB.out GE881.out GE882.out GE914.out GE923.out) hb)
      (try clear hb)
      (try clear hb2)
      (try clear hk)
      (try clear hi)
      refine hK.out _ _ ⟨(blk_cell BK923.out 0).trans rfl, (blk_cell BK923.out 1).trans rfl, (blk_cell BK923.out 2).trans rfl, (blk_cell BK923.out 3).trans rfl, (blk_cell BK882.out 0).trans rfl, (blk_cell BK882.out 1).trans rfl, (blk_cell BK882.out 2).trans rfl, (blk_cell BK882.out 3).trans rfl⟩ (fun hHeld => ?_)
      clear hK K
      refine norm_ (a' := ?_) ?_ ?_
      rotate_left
      ·show Act.put _ (some 47) _ = _
       simp only [Act.put, List.setIfInBounds_toArray, List.set_cons_zero, List.set_cons_succ, i64_w, i32_w]
       rfl
      refine pure_ (i := 4) (N := some 48) (v := ?_) (a' := ?_) #[true, true, true, true, true] rfl rfl (by kernel_rfl) (fun _ _ _ h => h) (Or.inl ⟨by rfl, ?_⟩) ?_ ?_
      rotate_left
      ·intro w'
       go_simp
       with_reducible rfl
      rotate_left
      ·simp only [Act.put, List.setIfInBounds_toArray, List.set_cons_zero, List.set_cons_succ, i64_w, i32_w]
       rfl
      refine done_ (by kernel_rfl) ?_
      try go_wp2
      go_ret
      exact ⟨an_, bw4_ HB.out GE881.out GE882.out GE914.out GE923.out⟩
     ·replace c32 := Bool.eq_false_iff.mpr c32
      subst c32
      have H1 : (some false) = some r := by rw [if_neg (show ¬ (false = true) by decide)] at H; exact H
      clear H
      have H := H1
      clear H1
      obtain rfl := Option.some.inj H
      exact absurd hr_ (by decide)
    ·replace c29 := Bool.eq_false_iff.mpr c29
     subst c29
     have H1 : (some false) = some r := by rw [if_neg (show ¬ (false = true) by decide)] at H; exact H
     clear H
     have H := H1
     clear H1
     obtain rfl := Option.some.inj H
     exact absurd hr_ (by decide)

def laws_FnExactIsTerm.Pure : Prop := ∀ (a0_0 : Int) (l0_1 : List Int) (l0_2 : List Int) (l0_3 : List Bool) (a1_0 : Int) (a1_1 : Int) (l1_2 : List Int) (l1_3 : List (S43)) (a2 : Int), (Lit.int .i64 a0_0).wf = true → ((∀ z ∈ l0_1, (Lit.int .i64 z).wf = true) ∧ l0_1.length ≤ maxLen) → ((∀ z ∈ l0_2, (Lit.int .i64 z).wf = true) ∧ l0_2.length ≤ maxLen) → ((∀ z ∈ l0_3, True) ∧ l0_3.length ≤ maxLen) → (Lit.int .i64 a1_0).wf = true → (Lit.int .i64 a1_1).wf = true → ((∀ z ∈ l1_2, (Lit.int .i64 z).wf = true) ∧ l1_2.length ≤ maxLen) → ((∀ z ∈ l1_3, Wf43 z) ∧ l1_3.length ≤ maxLen) → (Lit.int .i64 a2).wf = true → ∃ k, laws_FnExactIsTerm.f k a0_0 l0_1 l0_2 l0_3 a1_0 a1_1 l1_2 l1_3 a2 = some true

end Go.Proofs.Ytnokgkhkmnldeaa.P
