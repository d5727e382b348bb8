-- by hand: impl.writeTerm: a Builder that takes a term's text
import Derived.Test.YtlhiacnmcckjgaaDoorM9
import Derived.Test.YtlhiacnmcckjgaaDoorM5
import Derived.Test.YtlhiacnmcckjgaaDoorM4
/-! short words -/
namespace Go.Proofs.YtlhiacnmcckjgaaDoor.P
open Go.RowKit Go.Proofs.YtlhiacnmcckjgaaDoorW.PrintWords Go.Proofs.YtlhiacnmcckjgaaDoorW.PrintLast Go.Proofs.YtlhiacnmcckjgaaDoorW.PrintMore
set_option linter.unusedVariables false
set_option linter.unusedSimpArgs false
def itoaB (a : Int) : ByteArray := ⟨(Go.Lib.itoa a).toArray⟩
mutual
def impl_writeTerm.j0 : Nat → ByteArray → List Int → List S34 → Bool → Option ByteArray
 | 0, _, _, _, _ => none
 | k + 1, x, l2, l3, ty => if ty = true then ((impl_typeText.f k l2).bind fun t => if x.size + (1 + t.size) ≤ 140737488355328 then impl_writeTerm.l0 k (x ++ ((⟨#[58]⟩ : ByteArray) ++ t)) 0 l3 else none) else impl_writeTerm.l0 k x 0 l3
def impl_writeTerm.l0 : Nat → ByteArray → Int → List S34 → Option ByteArray
 | 0, _, _, _ => none
 | k + 1, x, i, l3 => if i < (l3.length : Int) then (if 0 ≤ i then (if x.size + 1 ≤ 140737488355328 then (if i = 0 then impl_writeTerm.l1 k (x ++ (⟨#[40]⟩ : ByteArray)) i l3 else impl_writeTerm.l1 k (x ++ (⟨#[44]⟩ : ByteArray)) i l3) else none) else none) else (if x.size + 1 ≤ 140737488355328 then some (x ++ (⟨#[41]⟩ : ByteArray)) else none)
def impl_writeTerm.l1 : Nat → ByteArray → Int → List S34 → Option ByteArray
 | 0, _, _, _ => none
 | k + 1, x, i, l3 => (impl_writeTerm.f k x (rd_T34 l3 i).f0 (rd_T34 l3 i).f1 (rd_T34 l3 i).f2 (rd_T34 l3 i).f3).bind fun y => impl_writeTerm.l0 k y (wrap64 (i + 1)) l3
def impl_writeTerm.f : Nat → ByteArray → Int → Int → List Int → List S34 → Option ByteArray
 | 0, _, _, _, _, _ => none
 | k + 1, x, a0, a1, l2, l3 => (impl_formOf.f a0).bind fun p => if x.size + p.1.size ≤ 140737488355328 then (if a0 = 0 ∨ a0 = 1 then (if 0 ≤ a1 then (if a1 ≤ 9223372036854775807 then (if (x ++ p.1).size + (itoaB a1).size ≤ 140737488355328 then some ((x ++ p.1) ++ itoaB a1) else none) else none) else none) else (if p.2.2.1 = true then ((impl_gradeText.f a1).bind fun t => if (x ++ p.1).size + (1 + t.size) ≤ 140737488355328 then impl_writeTerm.j0 k ((x ++ p.1) ++ ((⟨#[58]⟩ : ByteArray) ++ t)) l2 l3 p.2.2.2.1 else none) else impl_writeTerm.j0 k (x ++ p.1) l2 l3 p.2.2.2.1)) else none
end

/-- What stands between two statements: the builder holds x; what lay below the first world is as it was; so are blocks of other types than a builder's. -/
structure Co (w0 w : World) (b : Nat) (x : ByteArray) (W : World) : Prop where
 i : Go.Lib.IsBuilder 48 5 w0.heap.size b (Go.Lib.strCells x) W
 b : Below w0.heap.size w0 W
 k : Keeps w W
 s : w.heap.size ≤ W.heap.size
theorem Co.call {w0 w : World} {b : Nat} {x : ByteArray} {W W' : World} (h : Co w0 w b x W) (hb : Below W.heap.size W W') : Co w0 w b x W' := ⟨isBuilder_below h.i hb, below_step h.b hb, h.k.trans (Keeps.of_below hb), Nat.le_trans h.s hb.size⟩
theorem Co.drewN {w0 w : World} {b : Nat} {x : ByteArray} {W : World} (h : Co w0 w b x W) (n : Nat) : Co w0 w b x (W.drewN n) := h.call (pw_below_drewN (Below.refl _ _) n)
theorem Co.write {w0 w : World} {b : Nat} {x s : ByteArray} {W W' : World} (h : Co w0 w b x W) (hi : Go.Lib.IsBuilder 48 5 w0.heap.size b (Go.Lib.strCells x ++ Go.Lib.strCells s) W') (hb : Below w0.heap.size W W') (hk : Keeps W W') : Co w0 w b (x ++ s) W' := ⟨by rw [strCells_app]; exact hi, h.b.trans hb, h.k.trans hk, Nat.le_trans h.s hb.size⟩
theorem Co.set {w0 w : World} {b : Nat} {x : ByteArray} {W : World} (h : Co w0 w b x W) {g : Nat} {cs : Array Value} {t : TypeId} (hg : W.heap[g]? = some (.cells cs t (0, 0))) (n : t ≠ 48) (m : t ≠ 5) (h0 : w0.heap.size ≤ g) (h1 : w.heap.size ≤ g) (j : Nat) (u : Value) : Co w0 w b x (W.setCell ⟨g, j, none⟩ u) :=
 ⟨isBuilder_set h.i hg n m j u, h.b.setCell (p := ⟨g, j, none⟩) h0 u, fun k cs t fr e n m => (Below.heap_setCell W _ u k (Nat.ne_of_lt (Nat.lt_of_lt_of_le (blk_lt e) h1))).trans (h.k k cs t fr e n m), by simpa [World.setCell] using h.s⟩
theorem Co.set4 {w0 w : World} {b : Nat} {x : ByteArray} {W : World} (h : Co w0 w b x W) {g : Nat} {v0 v1 v2 v3 : Value} {t : TypeId} (hg : W.heap[g]? = some (.cells #[v0, v1, v2, v3] t (0, 0))) (n : t ≠ 48) (m : t ≠ 5) (h0 : w0.heap.size ≤ g) (h1 : w.heap.size ≤ g) (u0 u1 u2 u3 : Value) :
  Co w0 w b x ((((W.setCell ⟨g, 0, none⟩ u0).setCell ⟨g, 1, none⟩ u1).setCell ⟨g, 2, none⟩ u2).setCell ⟨g, 3, none⟩ u3) ∧ ((((W.setCell ⟨g, 0, none⟩ u0).setCell ⟨g, 1, none⟩ u1).setCell ⟨g, 2, none⟩ u2).setCell ⟨g, 3, none⟩ u3).heap[g]? = some (.cells #[u0, u1, u2, u3] t (0, 0)) := by
 have g1 := blk_put (cs' := #[u0, v1, v2, v3]) hg 0 u0 rfl
 have g2 := blk_put (cs' := #[u0, u1, v2, v3]) g1 1 u1 rfl
 have g3 := blk_put (cs' := #[u0, u1, u2, v3]) g2 2 u2 rfl
 exact ⟨(((h.set hg n m h0 h1 0 u0).set g1 n m h0 h1 1 u1).set g2 n m h0 h1 2 u2).set g3 n m h0 h1 3 u3, blk_put g3 3 u3 rfl⟩
theorem far4 {W : World} {g k : Nat} {cs : Array Value} {t : TypeId} (h : W.heap[k]? = some (.cells cs t (0, 0))) (n : k ≠ g) (u0 u1 u2 u3 : Value) : ((((W.setCell ⟨g, 0, none⟩ u0).setCell ⟨g, 1, none⟩ u1).setCell ⟨g, 2, none⟩ u2).setCell ⟨g, 3, none⟩ u3).heap[k]? = some (.cells cs t (0, 0)) := blk_far (blk_far (blk_far (blk_far h n _) n _) n _) n _
theorem gen_wp {P : Program} {c : Code} {Q : Exit → Act → World → Prop} {a : Act} {W : World} (R : World → Prop) (hR : R W) (h : ∀ w', R w' → Code.wp P c Q a w') : Code.wp P c Q a W := h W hR
set_option maxHeartbeats 8000000 in
set_option maxRecDepth 100000 in
theorem impl_writeTerm.calls (k : Nat) : ∀ (w0 : World) (b : Nat) (x : ByteArray) (a0 a1 : Int) (A2 : Option Addr) (c2 : Nat) (l2 : List Int) (A3 : Option Addr) (c3 : Nat) (l3 : List S34) (r : ByteArray) (w : World) (hr2 : Kd.C (Kd.int .i64) w0 A2 l2.length l2) (hc2 : l2.length ≤ c2) (hr3 : Kd.C k34 w0 A3 l3.length l3) (hc3 : l3.length ≤ c3) (hb0 : Below w0.heap.size w0 w) (hI : Go.Lib.IsBuilder 48 5 w0.heap.size b (Go.Lib.strCells x) w) (hT : Tabs w0) (h : impl_writeTerm.f k x a0 a1 l2 l3 = some r),
  Calls Tryd.prog 26 #[.pointer (some ⟨b, 0, none⟩), .agg #[.int .i64 a0, .int .i64 a1, .slice A2 l2.length c2, .slice A3 l3.length c3]] w fun e w' => e = .returned (.tuple #[]) ∧ Co w0 w b r w' := by
 induction k using Nat.strongRecOn with
 | _ k ih =>
 intro w0 b x a0 a1 A2 c2 l2 A3 c3 l3 r w hr2 hc2 hr3 hc3 hb0 hI hT h
 cases k with
 | zero => exact absurd h (by simp [impl_writeTerm.f])
 | succ k =>
 simp only [impl_writeTerm.f] at h
 have hu34 := Tryd.underlying34
 have hu61 := Tryd.underlying61
 have HR2 := sd_ hr2
 have HC2 := sd_ hc2
 have HR3 := sd_ hr3
 have HC3 := sd_ hc3
 have HT0 := sd_ hT
 have HC := sd_ (show Co w0 w b x w from ⟨hI, hb0, Keeps.refl w, Nat.le_refl _⟩)
 clear hr2 hc2 hr3 hc3 hb0 hI hT
 replace h := Option.bind_eq_some_iff.mp h
 obtain ⟨⟨t1, t2, t3, t4, t5⟩, A60, h⟩ := h
 have A6 := sd_ A60
 clear A60
 dsimp only at h
 by_cases c1 : ¬ (x.size + t1.size ≤ 140737488355328)
 ·rw [if_neg c1] at h; exact absurd h (by simp)
 replace c1 := Decidable.not_not.mp c1
 rw [if_pos c1] at h
 have LM1 := sd_ c1
 clear c1
 have H := sd_ h
 clear h
 go_enter Tryd.func26, Tryd.ntmps26
 go_upto_region 2 with (first | ((with_reducible refine gate_dst (N := 3) rfl ?_); (try (refine gate_guard (by rfl) ?_; dsimp only)); refine bx_ (N := 3) (cs := #[.int .i64 a0, .int .i64 a1, .slice A2 l2.length c2, .slice A3 l3.length c3]) (t := 34) ?_; intro gt hg w1 hbox hb; have GE_gt := sd_ (show w0.heap.size ≤ gt from by rw [hg]; exact HC.out.b.size); have GW_gt := sd_ (show w.heap.size ≤ gt from by rw [hg]; exact HC.out.s); have nC_ := sd_ (Co.call (by first | exact HC.out | exact Co.drewN HC.out _) hb); clear HC; have HC := nC_; clear nC_; have HT := sd_ hbox; clear hg hb hbox; have hca_gt0 : w1.cell? ⟨gt, 0, none⟩ = some (.int .i64 a0) := (blk_cell HT.out 0).trans rfl; have hfa_gt0 := blk_frozen HT.out 0; have hca_gt1 : w1.cell? ⟨gt, 1, none⟩ = some (.int .i64 a1) := (blk_cell HT.out 1).trans rfl; have hfa_gt1 := blk_frozen HT.out 1; have hca_gt2 : w1.cell? ⟨gt, 2, none⟩ = some (.slice A2 l2.length c2) := (blk_cell HT.out 2).trans rfl; have hfa_gt2 := blk_frozen HT.out 2; have hca_gt3 : w1.cell? ⟨gt, 3, none⟩ = some (.slice A3 l3.length c3) := (blk_cell HT.out 3).trans rfl; have hfa_gt3 := blk_frozen HT.out 3) | ((with_reducible refine gate_callee (f := 42) rfl ?_); refine goesL_ (some 11) rfl rfl Tryd.func42 (by kernel_rfl) rfl #[.int .i64 a0] rfl la_ ?_; (with_reducible refine (impl_formOf.calls a0 t1 t2 t3 t4 t5 _ A6.out).mono ?_); rintro e w2 ⟨rfl, hb⟩; refine ⟨_, rfl, ?_⟩; have nHT_ := sd_ (blk_below (g := gt) (o := .cells #[.int .i64 a0, .int .i64 a1, .slice A2 l2.length c2, .slice A3 l3.length c3] 34 (0, 0)) HT.out hb); clear HT; have HT := nHT_; clear nHT_; have nC_ := sd_ (Co.call (by first | exact HC.out | exact Co.drewN HC.out _) hb); clear HC; have HC := nC_; clear nC_; clear hb) | ((with_reducible refine gate_dst (N := 4) rfl ?_); (try (refine gate_guard (by rfl) ?_; dsimp only)); refine bx_ (N := 4) (cs := #[.string (⟨#[]⟩ : ByteArray), .int .i64 0, .bool false, .bool false]) (t := 61) ?_; intro gf hg w3 hbox hb; have GE_gf := sd_ (show w0.heap.size ≤ gf from by rw [hg]; exact HC.out.b.size); have GW_gf := sd_ (show w.heap.size ≤ gf from by rw [hg]; exact HC.out.s); have NE_gf := sd_ (show gt ≠ gf from by rw [hg]; exact Nat.ne_of_lt (blk_lt HT.out)); have nHT_ := sd_ (blk_below (g := gt) (o := .cells #[.int .i64 a0, .int .i64 a1, .slice A2 l2.length c2, .slice A3 l3.length c3] 34 (0, 0)) HT.out hb); clear HT; have HT := nHT_; clear nHT_; have nC_ := sd_ (Co.call (by first | exact HC.out | exact Co.drewN HC.out _) hb); clear HC; have HC := nC_; clear nC_; have HF := sd_ hbox; clear hg hb hbox; have hca_gf0 : w3.cell? ⟨gf, 0, none⟩ = some (.string (⟨#[]⟩ : ByteArray)) := (blk_cell HF.out 0).trans rfl; have hfa_gf0 := blk_frozen HF.out 0; have hca_gf1 : w3.cell? ⟨gf, 1, none⟩ = some (.int .i64 0) := (blk_cell HF.out 1).trans rfl; have hfa_gf1 := blk_frozen HF.out 1; have hca_gf2 : w3.cell? ⟨gf, 2, none⟩ = some (.bool false) := (blk_cell HF.out 2).trans rfl; have hfa_gf2 := blk_frozen HF.out 2; have hca_gf3 : w3.cell? ⟨gf, 3, none⟩ = some (.bool false) := (blk_cell HF.out 3).trans rfl; have hfa_gf3 := blk_frozen HF.out 3))
 refine gen_wp (fun W => Co w0 w b x W ∧ W.heap[gt]? = some (.cells #[.int .i64 a0, .int .i64 a1, .slice A2 l2.length c2, .slice A3 l3.length c3] 34 (0, 0)) ∧ W.heap[gf]? = some (.cells #[.string t1, .int .i64 t2, .bool t3, .bool t4] 61 (0, 0))) ⟨(Co.set4 HC.out HF.out (by decide) (by decide) GE_gf.out GW_gf.out _ _ _ _).1, far4 HT.out NE_gf.out _ _ _ _, (Co.set4 HC.out HF.out (by decide) (by decide) GE_gf.out GW_gf.out _ _ _ _).2⟩ ?_
 clear HC HT HF
 intro w4 h4
 have HC := sd_ h4.1
 have HT := sd_ h4.2.1
 have HF := sd_ h4.2.2
 clear h4
 have hcb_gf0 : w4.cell? ⟨gf, 0, none⟩ = some (.string t1) := (blk_cell HF.out 0).trans rfl; have hfb_gf0 := blk_frozen HF.out 0; have hcb_gf1 : w4.cell? ⟨gf, 1, none⟩ = some (.int .i64 t2) := (blk_cell HF.out 1).trans rfl; have hfb_gf1 := blk_frozen HF.out 1; have hcb_gf2 : w4.cell? ⟨gf, 2, none⟩ = some (.bool t3) := (blk_cell HF.out 2).trans rfl; have hfb_gf2 := blk_frozen HF.out 2; have hcb_gf3 : w4.cell? ⟨gf, 3, none⟩ = some (.bool t4) := (blk_cell HF.out 3).trans rfl; have hfb_gf3 := blk_frozen HF.out 3
 go_upto_block 0 with (first | ((with_reducible refine gate_callee (f := 34) rfl ?_); refine goesL_ (some 17) rfl rfl Tryd.func34 (by kernel_rfl) rfl #[.pointer (some ⟨b, 0, none⟩), .string t1] rfl la_ ?_; (refine (builder_write2 w0.heap.size b (Go.Lib.strCells x) t1 _ ?side1 ?side2 ?side3).mono ?_); (case side1 => exact HC.out.i); (case side2 => rw [Go.Lib.strCells_length]; exact LM1.out); (case side3 => exact HC.out.b.size); rintro e w5 ⟨rfl, hi, hb, hk⟩; refine ⟨_, rfl, ?_⟩; have nHT_ := sd_ (hk gt #[.int .i64 a0, .int .i64 a1, .slice A2 l2.length c2, .slice A3 l3.length c3] 34 (0, 0) HT.out (by decide) (by decide)); clear HT; have HT := nHT_; clear nHT_; have nHF_ := sd_ (hk gf #[.string t1, .int .i64 t2, .bool t3, .bool t4] 61 (0, 0) HF.out (by decide) (by decide)); clear HF; have HF := nHF_; clear nHF_; have nC_ := sd_ (Co.write (by first | exact HC.out | exact Co.drewN HC.out _) hi hb hk); clear HC; have HC := nC_; clear nC_ hi hb hk; have hcc_gt0 : w5.cell? ⟨gt, 0, none⟩ = some (.int .i64 a0) := (blk_cell HT.out 0).trans rfl; have hfc_gt0 := blk_frozen HT.out 0; have hcc_gt1 : w5.cell? ⟨gt, 1, none⟩ = some (.int .i64 a1) := (blk_cell HT.out 1).trans rfl; have hfc_gt1 := blk_frozen HT.out 1; have hcc_gt2 : w5.cell? ⟨gt, 2, none⟩ = some (.slice A2 l2.length c2) := (blk_cell HT.out 2).trans rfl; have hfc_gt2 := blk_frozen HT.out 2; have hcc_gt3 : w5.cell? ⟨gt, 3, none⟩ = some (.slice A3 l3.length c3) := (blk_cell HT.out 3).trans rfl; have hfc_gt3 := blk_frozen HT.out 3; have hcc_gf0 : w5.cell? ⟨gf, 0, none⟩ = some (.string t1) := (blk_cell HF.out 0).trans rfl; have hfc_gf0 := blk_frozen HF.out 0; have hcc_gf1 : w5.cell? ⟨gf, 1, none⟩ = some (.int .i64 t2) := (blk_cell HF.out 1).trans rfl; have hfc_gf1 := blk_frozen HF.out 1; have hcc_gf2 : w5.cell? ⟨gf, 2, none⟩ = some (.bool t3) := (blk_cell HF.out 2).trans rfl; have hfc_gf2 := blk_frozen HF.out 2; have hcc_gf3 : w5.cell? ⟨gf, 3, none⟩ = some (.bool t4) := (blk_cell HF.out 3).trans rfl; have hfc_gf3 := blk_frozen HF.out 3))
 have H1 := H.out
 clear H
 by_cases c2' : a0 = 0 ∨ a0 = 1
 ·rw [if_pos c2'] at H1
  by_cases c3 : ¬ (0 ≤ a1)
  ·rw [if_neg c3] at H1; exact absurd H1 (by simp)
  replace c3 := Decidable.not_not.mp c3
  rw [if_pos c3] at H1
  by_cases c4 : ¬ (a1 ≤ 9223372036854775807)
  ·rw [if_neg c4] at H1; exact absurd H1 (by simp)
  replace c4 := Decidable.not_not.mp c4
  rw [if_pos c4] at H1
  by_cases c5 : ¬ ((x ++ t1).size + (itoaB a1).size ≤ 140737488355328)
  ·rw [if_neg c5] at H1; exact absurd H1 (by simp)
  replace c5 := Decidable.not_not.mp c5
  rw [if_pos c5] at H1
  obtain rfl := Option.some.inj H1
  have LM2 := sd_ c5
  have L3 := sd_ c3
  have L4 := sd_ c4
  clear H1 c3 c4 c5
  rcases c2' with rfl | rfl
  ·go_wp2_with (first | ((with_reducible refine gate_callee (f := 43) rfl ?_); refine goesL_ (some 26) rfl rfl Tryd.func43 (by kernel_rfl) rfl #[.int .i64 a1] rfl la_ ?_; (refine (itoa_any a1 ?side1 ?side2 _ ?side3).mono ?_); (case side1 => exact Int.le_trans (by decide) L3.out); (case side2 => exact L4.out); (case side3 => exact Tabs.below HT0.out HC.out.b); rintro e w6 ⟨rfl, hb⟩; refine ⟨_, rfl, ?_⟩; have nHT_ := sd_ (blk_below (g := gt) (o := .cells #[.int .i64 0, .int .i64 a1, .slice A2 l2.length c2, .slice A3 l3.length c3] 34 (0, 0)) HT.out hb); clear HT; have HT := nHT_; clear nHT_; have nHF_ := sd_ (blk_below (g := gf) (o := .cells #[.string t1, .int .i64 t2, .bool t3, .bool t4] 61 (0, 0)) HF.out hb); clear HF; have HF := nHF_; clear nHF_; have nC_ := sd_ (Co.call (by first | exact HC.out | exact Co.drewN HC.out _) hb); clear HC; have HC := nC_; clear nC_; clear hb) | ((with_reducible refine gate_callee (f := 34) rfl ?_); refine goesL_ (some 27) rfl rfl Tryd.func34 (by kernel_rfl) rfl #[.pointer (some ⟨b, 0, none⟩), .string (itoaB a1)] rfl la_ ?_; (refine (builder_write2 w0.heap.size b (Go.Lib.strCells (x ++ t1)) (itoaB a1) _ ?side1 ?side2 ?side3).mono ?_); (case side1 => exact HC.out.i); (case side2 => rw [Go.Lib.strCells_length]; exact LM2.out); (case side3 => exact HC.out.b.size); rintro e w7 ⟨rfl, hi, hb, hk⟩; refine ⟨_, rfl, ?_⟩; have nHT_ := sd_ (hk gt #[.int .i64 0, .int .i64 a1, .slice A2 l2.length c2, .slice A3 l3.length c3] 34 (0, 0) HT.out (by decide) (by decide)); clear HT; have HT := nHT_; clear nHT_; have nHF_ := sd_ (hk gf #[.string t1, .int .i64 t2, .bool t3, .bool t4] 61 (0, 0) HF.out (by decide) (by decide)); clear HF; have HF := nHF_; clear nHF_; have nC_ := sd_ (Co.write (by first | exact HC.out | exact Co.drewN HC.out _) hi hb hk); clear HC; have HC := nC_; clear nC_ hi hb hk))
   ((try simp only [Exit.inBlock, Exit.then]); refine bodyPost_ret (results_none rfl _ _ _) rfl ?_)
   exact ⟨by first | rfl | (simp; done), HC.out⟩
  go_wp2_with (first | ((with_reducible refine gate_callee (f := 43) rfl ?_); refine goesL_ (some 26) rfl rfl Tryd.func43 (by kernel_rfl) rfl #[.int .i64 a1] rfl la_ ?_; (refine (itoa_any a1 ?side1 ?side2 _ ?side3).mono ?_); (case side1 => exact Int.le_trans (by decide) L3.out); (case side2 => exact L4.out); (case side3 => exact Tabs.below HT0.out HC.out.b); rintro e w6 ⟨rfl, hb⟩; refine ⟨_, rfl, ?_⟩; have nHT_ := sd_ (blk_below (g := gt) (o := .cells #[.int .i64 1, .int .i64 a1, .slice A2 l2.length c2, .slice A3 l3.length c3] 34 (0, 0)) HT.out hb); clear HT; have HT := nHT_; clear nHT_; have nHF_ := sd_ (blk_below (g := gf) (o := .cells #[.string t1, .int .i64 t2, .bool t3, .bool t4] 61 (0, 0)) HF.out hb); clear HF; have HF := nHF_; clear nHF_; have nC_ := sd_ (Co.call (by first | exact HC.out | exact Co.drewN HC.out _) hb); clear HC; have HC := nC_; clear nC_; clear hb) | ((with_reducible refine gate_callee (f := 34) rfl ?_); refine goesL_ (some 27) rfl rfl Tryd.func34 (by kernel_rfl) rfl #[.pointer (some ⟨b, 0, none⟩), .string (itoaB a1)] rfl la_ ?_; (refine (builder_write2 w0.heap.size b (Go.Lib.strCells (x ++ t1)) (itoaB a1) _ ?side1 ?side2 ?side3).mono ?_); (case side1 => exact HC.out.i); (case side2 => rw [Go.Lib.strCells_length]; exact LM2.out); (case side3 => exact HC.out.b.size); rintro e w7 ⟨rfl, hi, hb, hk⟩; refine ⟨_, rfl, ?_⟩; have nHT_ := sd_ (hk gt #[.int .i64 1, .int .i64 a1, .slice A2 l2.length c2, .slice A3 l3.length c3] 34 (0, 0) HT.out (by decide) (by decide)); clear HT; have HT := nHT_; clear nHT_; have nHF_ := sd_ (hk gf #[.string t1, .int .i64 t2, .bool t3, .bool t4] 61 (0, 0) HF.out (by decide) (by decide)); clear HF; have HF := nHF_; clear nHF_; have nC_ := sd_ (Co.write (by first | exact HC.out | exact Co.drewN HC.out _) hi hb hk); clear HC; have HC := nC_; clear nC_ hi hb hk))
  ((try simp only [Exit.inBlock, Exit.then]); refine bodyPost_ret (results_none rfl _ _ _) rfl ?_)
  exact ⟨by first | rfl | (simp; done), HC.out⟩
 rw [if_neg c2'] at H1
 have e0 : (a0 == 0) = false := beq_eq_false_iff_ne.mpr (fun e => c2' (Or.inl e))
 have e1 : (a0 == 1) = false := beq_eq_false_iff_ne.mpr (fun e => c2' (Or.inr e))
 have H := sd_ H1
 clear H1 c2'
 go_upto_if 29 with (fail)
 go_cut [] (fun wc => ∃ (kq : Nat) (x' : ByteArray), Aside0 (impl_writeTerm.j0 kq x' l2 l3 t4 = some r) ∧ Aside0 (kq ≤ k) ∧ Aside0 (wc.heap[gt]? = some (.cells #[.int .i64 a0, .int .i64 a1, .slice A2 l2.length c2, .slice A3 l3.length c3] 34 (0, 0))) ∧ Aside0 (wc.heap[gf]? = some (.cells #[.string t1, .int .i64 t2, .bool t3, .bool t4] 61 (0, 0))) ∧ Aside0 (Co w0 w b x' wc))
 case first =>
  have H1 := H.out
  clear H
  by_cases c6 : t3 = true
  ·subst c6
   rw [if_pos rfl] at H1
   replace H1 := Option.bind_eq_some_iff.mp H1
   obtain ⟨t, A7, H1⟩ := H1
   by_cases c7 : ¬ ((x ++ t1).size + (1 + t.size) ≤ 140737488355328)
   ·rw [if_neg c7] at H1; exact absurd H1 (by simp)
   replace c7 := Decidable.not_not.mp c7
   rw [if_pos c7] at H1
   have LM2 := sd_ (show (x ++ t1).size + ((⟨#[58]⟩ : ByteArray) ++ t).size ≤ 140737488355328 from by rw [show ((⟨#[58]⟩ : ByteArray) ++ t).size = 1 + t.size from ByteArray.size_append]; exact c7)
   have f1 : (9223372036854775807 < 1 + t.size) = False := eq_false (by omega)
   have f2 := eq_true (show 1 + t.size ≤ 9223372036854775807 by omega)
   have A8 := sd_ A7
   have H' := sd_ H1
   clear A7 H1 c7
   go_wp2_with (first | ((with_reducible refine gate_callee (f := 44) rfl ?_); refine goesL_ (some 33) rfl rfl Tryd.func44 (by kernel_rfl) rfl #[.int .i64 a1] rfl la_ ?_; (with_reducible refine (impl_gradeText.calls a1 t _ A8.out).mono ?_); rintro e w' ⟨rfl, ⟨nd, rfl⟩⟩; refine ⟨_, rfl, ?_⟩) | ((with_reducible refine gate_callee (f := 34) rfl ?_); refine goesL_ (some 35) rfl rfl Tryd.func34 (by kernel_rfl) rfl #[.pointer (some ⟨b, 0, none⟩), .string ((⟨#[58]⟩ : ByteArray) ++ t)] rfl la_ ?_; (refine (builder_write2 w0.heap.size b (Go.Lib.strCells (x ++ t1)) ((⟨#[58]⟩ : ByteArray) ++ t) _ ?side1 ?side2 ?side3).mono ?_); (case side1 => exact HC.out.i); (case side2 => rw [Go.Lib.strCells_length]; exact LM2.out); (case side3 => exact HC.out.b.size); rintro e w6 ⟨rfl, hi, hb, hk⟩; refine ⟨_, rfl, ?_⟩; have nHT_ := sd_ (hk gt #[.int .i64 a0, .int .i64 a1, .slice A2 l2.length c2, .slice A3 l3.length c3] 34 (0, 0) HT.out (by decide) (by decide)); clear HT; have HT := nHT_; clear nHT_; have nHF_ := sd_ (hk gf #[.string t1, .int .i64 t2, .bool true, .bool t4] 61 (0, 0) HF.out (by decide) (by decide)); clear HF; have HF := nHF_; clear nHF_; have nC_ := sd_ (Co.write (by first | exact HC.out | exact Co.drewN HC.out _) hi hb hk); clear HC; have HC := nC_; clear nC_ hi hb hk))
   go_meet
   case rel => exact ⟨_, _, H', ⟨by first | omega | exact Nat.le_refl _⟩, ⟨HT.out⟩, ⟨HF.out⟩, ⟨HC.out⟩⟩
  replace c6 := Bool.eq_false_iff.mpr c6
  subst c6
  rw [if_neg (by decide)] at H1
  have H' := sd_ H1
  clear H1
  go_wp2
  go_meet
  case rel => exact ⟨_, _, H', ⟨by first | omega | exact Nat.le_refl _⟩, ⟨HT.out⟩, ⟨HF.out⟩, ⟨(by first | exact HC.out | exact Co.drewN HC.out _)⟩⟩
 case rest =>
  clear H
  obtain ⟨kq, x', HA, HJ, HT, HF, HC⟩ := hcut
  cases kq with
  | zero => exact absurd HA.out (by simp [impl_writeTerm.j0])
  | succ kj =>
  have H1 := HA.out
  clear HA
  simp only [impl_writeTerm.j0] at H1
  have H := sd_ H1
  clear H1
  have hcd_gt0 : wc.cell? ⟨gt, 0, none⟩ = some (.int .i64 a0) := (blk_cell HT.out 0).trans rfl; have hfd_gt0 := blk_frozen HT.out 0; have hcd_gt1 : wc.cell? ⟨gt, 1, none⟩ = some (.int .i64 a1) := (blk_cell HT.out 1).trans rfl; have hfd_gt1 := blk_frozen HT.out 1; have hcd_gt2 : wc.cell? ⟨gt, 2, none⟩ = some (.slice A2 l2.length c2) := (blk_cell HT.out 2).trans rfl; have hfd_gt2 := blk_frozen HT.out 2; have hcd_gt3 : wc.cell? ⟨gt, 3, none⟩ = some (.slice A3 l3.length c3) := (blk_cell HT.out 3).trans rfl; have hfd_gt3 := blk_frozen HT.out 3; have hcd_gf0 : wc.cell? ⟨gf, 0, none⟩ = some (.string t1) := (blk_cell HF.out 0).trans rfl; have hfd_gf0 := blk_frozen HF.out 0; have hcd_gf1 : wc.cell? ⟨gf, 1, none⟩ = some (.int .i64 t2) := (blk_cell HF.out 1).trans rfl; have hfd_gf1 := blk_frozen HF.out 1; have hcd_gf2 : wc.cell? ⟨gf, 2, none⟩ = some (.bool t3) := (blk_cell HF.out 2).trans rfl; have hfd_gf2 := blk_frozen HF.out 2; have hcd_gf3 : wc.cell? ⟨gf, 3, none⟩ = some (.bool t4) := (blk_cell HF.out 3).trans rfl; have hfd_gf3 := blk_frozen HF.out 3
  go_upto_if 37 with (fail)
  go_cut [] (fun wc => ∃ (kq : Nat) (x' : ByteArray), Aside0 (impl_writeTerm.l0 kq x' 0 l3 = some r) ∧ Aside0 (kq ≤ kj) ∧ Aside0 (wc.heap[gt]? = some (.cells #[.int .i64 a0, .int .i64 a1, .slice A2 l2.length c2, .slice A3 l3.length c3] 34 (0, 0))) ∧ Aside0 (wc.heap[gf]? = some (.cells #[.string t1, .int .i64 t2, .bool t3, .bool t4] 61 (0, 0))) ∧ Aside0 (Co w0 w b x' wc))
  case first =>
   have H1 := H.out
   clear H
   by_cases c6 : t4 = true
   ·subst c6
    rw [if_pos rfl] at H1
    replace H1 := Option.bind_eq_some_iff.mp H1
    obtain ⟨t, A7, H1⟩ := H1
    by_cases c7 : ¬ (x'.size + (1 + t.size) ≤ 140737488355328)
    ·rw [if_neg c7] at H1; exact absurd H1 (by simp)
    replace c7 := Decidable.not_not.mp c7
    rw [if_pos c7] at H1
    have LM2 := sd_ (show x'.size + ((⟨#[58]⟩ : ByteArray) ++ t).size ≤ 140737488355328 from by rw [show ((⟨#[58]⟩ : ByteArray) ++ t).size = 1 + t.size from ByteArray.size_append]; exact c7)
    have f1 : (9223372036854775807 < 1 + t.size) = False := eq_false (by omega)
    have f2 := eq_true (show 1 + t.size ≤ 9223372036854775807 by omega)
    have A8 := sd_ A7
    have H' := sd_ H1
    clear A7 H1 c7
    go_wp2_with (first | ((with_reducible refine gate_callee (f := 19) rfl ?_); refine goesL_ (some 41) rfl rfl Tryd.func19 (by kernel_rfl) rfl #[.slice A2 l2.length c2] rfl la_ ?_; (refine (impl_typeText.calls kj A2 c2 l2 t _ ?side1 ?side2 A8.out).mono ?_); (case side1 => first | exact Kd.C_below HR2.out HC.out.b | exact Kd.C_below HR2.out (Co.drewN HC.out _).b); (case side2 => exact HC2.out); rintro e w8 ⟨rfl, hb⟩; refine ⟨_, rfl, ?_⟩; have nHT_ := sd_ (blk_below (g := gt) (o := .cells #[.int .i64 a0, .int .i64 a1, .slice A2 l2.length c2, .slice A3 l3.length c3] 34 (0, 0)) HT.out hb); clear HT; have HT := nHT_; clear nHT_; have nHF_ := sd_ (blk_below (g := gf) (o := .cells #[.string t1, .int .i64 t2, .bool t3, .bool true] 61 (0, 0)) HF.out hb); clear HF; have HF := nHF_; clear nHF_; have nC_ := sd_ (Co.call (by first | exact HC.out | exact Co.drewN HC.out _) hb); clear HC; have HC := nC_; clear nC_; clear hb) | ((with_reducible refine gate_callee (f := 34) rfl ?_); refine goesL_ (some 43) rfl rfl Tryd.func34 (by kernel_rfl) rfl #[.pointer (some ⟨b, 0, none⟩), .string ((⟨#[58]⟩ : ByteArray) ++ t)] rfl la_ ?_; (refine (builder_write2 w0.heap.size b (Go.Lib.strCells x') ((⟨#[58]⟩ : ByteArray) ++ t) _ ?side1 ?side2 ?side3).mono ?_); (case side1 => exact HC.out.i); (case side2 => rw [Go.Lib.strCells_length]; exact LM2.out); (case side3 => exact HC.out.b.size); rintro e w6 ⟨rfl, hi, hb, hk⟩; refine ⟨_, rfl, ?_⟩; have nHT_ := sd_ (hk gt #[.int .i64 a0, .int .i64 a1, .slice A2 l2.length c2, .slice A3 l3.length c3] 34 (0, 0) HT.out (by decide) (by decide)); clear HT; have HT := nHT_; clear nHT_; have nHF_ := sd_ (hk gf #[.string t1, .int .i64 t2, .bool t3, .bool true] 61 (0, 0) HF.out (by decide) (by decide)); clear HF; have HF := nHF_; clear nHF_; have nC_ := sd_ (Co.write (by first | exact HC.out | exact Co.drewN HC.out _) hi hb hk); clear HC; have HC := nC_; clear nC_ hi hb hk))
    go_meet
    case rel => exact ⟨_, _, H', ⟨by first | omega | exact Nat.le_refl _⟩, ⟨HT.out⟩, ⟨HF.out⟩, ⟨HC.out⟩⟩
   replace c6 := Bool.eq_false_iff.mpr c6
   subst c6
   rw [if_neg (by decide)] at H1
   have H' := sd_ H1
   clear H1
   go_wp2
   go_meet
   case rel => exact ⟨_, _, H', ⟨by first | omega | exact Nat.le_refl _⟩, ⟨HT.out⟩, ⟨HF.out⟩, ⟨(by first | exact HC.out | exact Co.drewN HC.out _)⟩⟩
  case rest =>
   clear H
   obtain ⟨kl, x'', HA, HJ2, HT, HF, HC⟩ := hcut
   have hce_gt0 : wc.cell? ⟨gt, 0, none⟩ = some (.int .i64 a0) := (blk_cell HT.out 0).trans rfl; have hfe_gt0 := blk_frozen HT.out 0; have hce_gt1 : wc.cell? ⟨gt, 1, none⟩ = some (.int .i64 a1) := (blk_cell HT.out 1).trans rfl; have hfe_gt1 := blk_frozen HT.out 1; have hce_gt2 : wc.cell? ⟨gt, 2, none⟩ = some (.slice A2 l2.length c2) := (blk_cell HT.out 2).trans rfl; have hfe_gt2 := blk_frozen HT.out 2; have hce_gt3 : wc.cell? ⟨gt, 3, none⟩ = some (.slice A3 l3.length c3) := (blk_cell HT.out 3).trans rfl; have hfe_gt3 := blk_frozen HT.out 3
   go_wp2
   go_loopg [47] kl (fun kq v47 wr => ∃ (y : ByteArray) (i : Int), v47 = .int .i64 i ∧ Aside0 (impl_writeTerm.l0 kq y i l3 = some r) ∧ Aside0 (kq ≤ kl) ∧ Aside0 (wr.heap[gt]? = some (.cells #[.int .i64 a0, .int .i64 a1, .slice A2 l2.length c2, .slice A3 l3.length c3] 34 (0, 0))) ∧ Aside0 (wr.heap[gf]? = some (.cells #[.string t1, .int .i64 t2, .bool t3, .bool t4] 61 (0, 0))) ∧ Aside0 (Co w0 w b y wr))
   case atStart => exact ⟨x'', 0, rfl, HA, ⟨Nat.le_refl _⟩, HT, HF, ⟨(by first | exact HC.out | exact Co.drewN HC.out _)⟩⟩
   case round =>
    clear HA
    obtain ⟨y, i, rfl, HA, HK1, HT, HF, HC⟩ := hrel
    cases gk with
    | zero => exact absurd HA.out (by simp [impl_writeTerm.l0])
    | succ k1 =>
    have H1 := HA.out
    clear HA
    simp only [impl_writeTerm.l0] at H1
    by_cases c8 : i < (l3.length : Int)
    ·rw [if_pos c8] at H1
     have c8b : decide (i < (l3.length : Int)) = true := decide_eq_true c8
     by_cases c9 : ¬ (0 ≤ i)
     ·rw [if_neg c9] at H1; exact absurd H1 (by simp)
     replace c9 := Decidable.not_not.mp c9
     rw [if_pos c9] at H1
     have c9b : decide (0 ≤ i) = true := decide_eq_true c9
     by_cases c10 : ¬ (y.size + 1 ≤ 140737488355328)
     ·rw [if_neg c10] at H1; exact absurd H1 (by simp)
     replace c10 := Decidable.not_not.mp c10
     rw [if_pos c10] at H1
     have LM3 := sd_ c10
     have H := sd_ H1
     clear H1 c10
     obtain ⟨ad, B2, d2, B3, d3, e_, hx0, hx1, hx2, hx3, hl2, hi2, hl3, hi3⟩ := at_T34 HR3.out i c9 c8
     cases e_
     replace hx0 := (HC.out.b.cell (World.block_lt_of_cell? w0 _ hx0)).trans hx0
     replace hx1 := (HC.out.b.cell (World.block_lt_of_cell? w0 _ hx1)).trans hx1
     replace hx2 := (HC.out.b.cell (World.block_lt_of_cell? w0 _ hx2)).trans hx2
     replace hx3 := (HC.out.b.cell (World.block_lt_of_cell? w0 _ hx3)).trans hx3
     have HS2 := sd_ hi2
     have HL2 := sd_ hl2
     have HS3 := sd_ hi3
     have HL3 := sd_ hl3
     clear hi2 hl2 hi3 hl3
     have p_ := eq_true c9
     have q_ := eq_true c8
     clear c8 c9
     go_upto_region 14 with (first | ((with_reducible refine gate_dst (N := 7) rfl ?_); (try (refine gate_guard (by rfl) ?_; dsimp only)); refine bx_ (N := 7) (cs := #[.int .i64 0, .int .i64 0, .slice none 0 0, .slice none 0 0]) (t := 34) ?_; intro gk hg w9 hbox hb; have GE_gk := sd_ (show w0.heap.size ≤ gk from by rw [hg]; exact HC.out.b.size); have GW_gk := sd_ (show w.heap.size ≤ gk from by rw [hg]; exact HC.out.s); have NT_gk := sd_ (show gt ≠ gk from by rw [hg]; exact Nat.ne_of_lt (blk_lt HT.out)); have NF_gk := sd_ (show gf ≠ gk from by rw [hg]; exact Nat.ne_of_lt (blk_lt HF.out)); have nHT_ := sd_ (blk_below (g := gt) (o := .cells #[.int .i64 a0, .int .i64 a1, .slice A2 l2.length c2, .slice (some ad) l3.length c3] 34 (0, 0)) HT.out hb); clear HT; have HT := nHT_; clear nHT_; have nHF_ := sd_ (blk_below (g := gf) (o := .cells #[.string t1, .int .i64 t2, .bool t3, .bool t4] 61 (0, 0)) HF.out hb); clear HF; have HF := nHF_; clear nHF_; have nC_ := sd_ (Co.call (by first | exact HC.out | exact Co.drewN HC.out _) hb); clear HC; have HC := nC_; clear nC_; have HG := sd_ hbox; clear hg hb hbox; have hca_gk0 : w9.cell? ⟨gk, 0, none⟩ = some (.int .i64 0) := (blk_cell HG.out 0).trans rfl; have hfa_gk0 := blk_frozen HG.out 0; have hca_gk1 : w9.cell? ⟨gk, 1, none⟩ = some (.int .i64 0) := (blk_cell HG.out 1).trans rfl; have hfa_gk1 := blk_frozen HG.out 1; have hca_gk2 : w9.cell? ⟨gk, 2, none⟩ = some (.slice none 0 0) := (blk_cell HG.out 2).trans rfl; have hfa_gk2 := blk_frozen HG.out 2; have hca_gk3 : w9.cell? ⟨gk, 3, none⟩ = some (.slice none 0 0) := (blk_cell HG.out 3).trans rfl; have hfa_gk3 := blk_frozen HG.out 3))
     refine gen_wp (fun W => Co w0 w b y W ∧ W.heap[gt]? = some (.cells #[.int .i64 a0, .int .i64 a1, .slice A2 l2.length c2, .slice (some ad) l3.length c3] 34 (0, 0)) ∧ W.heap[gf]? = some (.cells #[.string t1, .int .i64 t2, .bool t3, .bool t4] 61 (0, 0)) ∧ W.heap[gk]? = some (.cells #[.int .i64 (rd_T34 l3 i).f0, .int .i64 (rd_T34 l3 i).f1, .slice B2 (rd_T34 l3 i).f2.length d2, .slice B3 (rd_T34 l3 i).f3.length d3] 34 (0, 0))) ⟨(Co.set4 HC.out HG.out (by decide) (by decide) GE_gk.out GW_gk.out _ _ _ _).1, far4 HT.out NT_gk.out _ _ _ _, far4 HF.out NF_gk.out _ _ _ _, (Co.set4 HC.out HG.out (by decide) (by decide) GE_gk.out GW_gk.out _ _ _ _).2⟩ ?_
     clear HC HT HF HG
     intro w10 h10
     have HC := sd_ h10.1
     have HT := sd_ h10.2.1
     have HF := sd_ h10.2.2.1
     have HG := sd_ h10.2.2.2
     clear h10
     by_cases c11 : i = 0
     ·have H1 := H.out
      clear H
      rw [if_pos c11] at H1
      have c11b : (i == 0) = true := beq_iff_eq.mpr c11
      clear c11
      cases k1 with
      | zero => exact absurd H1 (by simp [impl_writeTerm.l1])
      | succ k1 =>
      simp only [impl_writeTerm.l1] at H1
      replace H1 := Option.bind_eq_some_iff.mp H1
      obtain ⟨z, A9, H1⟩ := H1
      have A10 := sd_ A9
      have H' := sd_ H1
      clear A9 H1
      go_wp2_with (first | ((with_reducible refine gate_callee (f := 34) rfl ?_); refine goesL_ (some 55) rfl rfl Tryd.func34 (by kernel_rfl) rfl #[.pointer (some ⟨b, 0, none⟩), .string (⟨#[40]⟩ : ByteArray)] rfl la_ ?_; (refine (builder_write2 w0.heap.size b (Go.Lib.strCells y) (⟨#[40]⟩ : ByteArray) _ ?side1 ?side2 ?side3).mono ?_); (case side1 => exact HC.out.i); (case side2 => rw [Go.Lib.strCells_length]; exact LM3.out); (case side3 => exact HC.out.b.size); rintro e w11 ⟨rfl, hi, hb, hk⟩; refine ⟨_, rfl, ?_⟩; have nHT_ := sd_ (hk gt #[.int .i64 a0, .int .i64 a1, .slice A2 l2.length c2, .slice (some ad) l3.length c3] 34 (0, 0) HT.out (by decide) (by decide)); clear HT; have HT := nHT_; clear nHT_; have nHF_ := sd_ (hk gf #[.string t1, .int .i64 t2, .bool t3, .bool t4] 61 (0, 0) HF.out (by decide) (by decide)); clear HF; have HF := nHF_; clear nHF_; have nHG_ := sd_ (hk gk #[.int .i64 (rd_T34 l3 i).f0, .int .i64 (rd_T34 l3 i).f1, .slice B2 (rd_T34 l3 i).f2.length d2, .slice B3 (rd_T34 l3 i).f3.length d3] 34 (0, 0) HG.out (by decide) (by decide)); clear HG; have HG := nHG_; clear nHG_; have nC_ := sd_ (Co.write (by first | exact HC.out | exact Co.drewN HC.out _) hi hb hk); clear HC; have HC := nC_; clear nC_ hi hb hk; have hcf_gk0 : w11.cell? ⟨gk, 0, none⟩ = some (.int .i64 (rd_T34 l3 i).f0) := (blk_cell HG.out 0).trans rfl; have hff_gk0 := blk_frozen HG.out 0; have hcf_gk1 : w11.cell? ⟨gk, 1, none⟩ = some (.int .i64 (rd_T34 l3 i).f1) := (blk_cell HG.out 1).trans rfl; have hff_gk1 := blk_frozen HG.out 1; have hcf_gk2 : w11.cell? ⟨gk, 2, none⟩ = some (.slice B2 (rd_T34 l3 i).f2.length d2) := (blk_cell HG.out 2).trans rfl; have hff_gk2 := blk_frozen HG.out 2; have hcf_gk3 : w11.cell? ⟨gk, 3, none⟩ = some (.slice B3 (rd_T34 l3 i).f3.length d3) := (blk_cell HG.out 3).trans rfl; have hff_gk3 := blk_frozen HG.out 3) | ((with_reducible refine gate_callee (f := 26) rfl ?_); refine goesL_ (some 60) rfl rfl Tryd.func26 (by kernel_rfl) rfl #[.pointer (some ⟨b, 0, none⟩), .agg #[.int .i64 (rd_T34 l3 i).f0, .int .i64 (rd_T34 l3 i).f1, .slice B2 (rd_T34 l3 i).f2.length d2, .slice B3 (rd_T34 l3 i).f3.length d3]] rfl la_ ?_; (refine (ih k1 (by have := HK1.out; have := HJ2.out; have := HJ.out; omega) w0 b (y ++ (⟨#[40]⟩ : ByteArray)) (rd_T34 l3 i).f0 (rd_T34 l3 i).f1 B2 d2 (rd_T34 l3 i).f2 B3 d3 (rd_T34 l3 i).f3 z _ HS2.out HL2.out HS3.out HL3.out ?side1 ?side2 HT0.out A10.out).mono ?_); (case side1 => exact HC.out.b); (case side2 => exact HC.out.i); rintro e w12 ⟨rfl, hco⟩; refine ⟨_, rfl, ?_⟩; have hk := hco.k; have nHT_ := sd_ (hk gt #[.int .i64 a0, .int .i64 a1, .slice A2 l2.length c2, .slice (some ad) l3.length c3] 34 (0, 0) HT.out (by decide) (by decide)); clear HT; have HT := nHT_; clear nHT_; have nHF_ := sd_ (hk gf #[.string t1, .int .i64 t2, .bool t3, .bool t4] 61 (0, 0) HF.out (by decide) (by decide)); clear HF; have HF := nHF_; clear nHF_; have nC_ := sd_ (show Co w0 w b z w12 from ⟨hco.i, hco.b, Keeps.trans HC.out.k hco.k, Nat.le_trans HC.out.s hco.s⟩); clear HC; have HC := nC_; clear nC_ hk hco))
      go_roundg k1
      case measure => have := HK1.out; omega
      case rel => exact ⟨z, wrap64 (i + 1), sm_, H', ⟨by have := HK1.out; omega⟩, ⟨HT.out⟩, ⟨HF.out⟩, ⟨HC.out⟩⟩
     have H1 := H.out
     clear H
     rw [if_neg c11] at H1
     have c11b : (i == 0) = false := beq_eq_false_iff_ne.mpr c11
     clear c11
     cases k1 with
     | zero => exact absurd H1 (by simp [impl_writeTerm.l1])
     | succ k1 =>
     simp only [impl_writeTerm.l1] at H1
     replace H1 := Option.bind_eq_some_iff.mp H1
     obtain ⟨z, A9, H1⟩ := H1
     have A10 := sd_ A9
     have H' := sd_ H1
     clear A9 H1
     go_wp2_with (first | ((with_reducible refine gate_callee (f := 34) rfl ?_); refine goesL_ (some 57) rfl rfl Tryd.func34 (by kernel_rfl) rfl #[.pointer (some ⟨b, 0, none⟩), .string (⟨#[44]⟩ : ByteArray)] rfl la_ ?_; (refine (builder_write2 w0.heap.size b (Go.Lib.strCells y) (⟨#[44]⟩ : ByteArray) _ ?side1 ?side2 ?side3).mono ?_); (case side1 => exact HC.out.i); (case side2 => rw [Go.Lib.strCells_length]; exact LM3.out); (case side3 => exact HC.out.b.size); rintro e w11 ⟨rfl, hi, hb, hk⟩; refine ⟨_, rfl, ?_⟩; have nHT_ := sd_ (hk gt #[.int .i64 a0, .int .i64 a1, .slice A2 l2.length c2, .slice (some ad) l3.length c3] 34 (0, 0) HT.out (by decide) (by decide)); clear HT; have HT := nHT_; clear nHT_; have nHF_ := sd_ (hk gf #[.string t1, .int .i64 t2, .bool t3, .bool t4] 61 (0, 0) HF.out (by decide) (by decide)); clear HF; have HF := nHF_; clear nHF_; have nHG_ := sd_ (hk gk #[.int .i64 (rd_T34 l3 i).f0, .int .i64 (rd_T34 l3 i).f1, .slice B2 (rd_T34 l3 i).f2.length d2, .slice B3 (rd_T34 l3 i).f3.length d3] 34 (0, 0) HG.out (by decide) (by decide)); clear HG; have HG := nHG_; clear nHG_; have nC_ := sd_ (Co.write (by first | exact HC.out | exact Co.drewN HC.out _) hi hb hk); clear HC; have HC := nC_; clear nC_ hi hb hk; have hcf_gk0 : w11.cell? ⟨gk, 0, none⟩ = some (.int .i64 (rd_T34 l3 i).f0) := (blk_cell HG.out 0).trans rfl; have hff_gk0 := blk_frozen HG.out 0; have hcf_gk1 : w11.cell? ⟨gk, 1, none⟩ = some (.int .i64 (rd_T34 l3 i).f1) := (blk_cell HG.out 1).trans rfl; have hff_gk1 := blk_frozen HG.out 1; have hcf_gk2 : w11.cell? ⟨gk, 2, none⟩ = some (.slice B2 (rd_T34 l3 i).f2.length d2) := (blk_cell HG.out 2).trans rfl; have hff_gk2 := blk_frozen HG.out 2; have hcf_gk3 : w11.cell? ⟨gk, 3, none⟩ = some (.slice B3 (rd_T34 l3 i).f3.length d3) := (blk_cell HG.out 3).trans rfl; have hff_gk3 := blk_frozen HG.out 3) | ((with_reducible refine gate_callee (f := 26) rfl ?_); refine goesL_ (some 60) rfl rfl Tryd.func26 (by kernel_rfl) rfl #[.pointer (some ⟨b, 0, none⟩), .agg #[.int .i64 (rd_T34 l3 i).f0, .int .i64 (rd_T34 l3 i).f1, .slice B2 (rd_T34 l3 i).f2.length d2, .slice B3 (rd_T34 l3 i).f3.length d3]] rfl la_ ?_; (refine (ih k1 (by have := HK1.out; have := HJ2.out; have := HJ.out; omega) w0 b (y ++ (⟨#[44]⟩ : ByteArray)) (rd_T34 l3 i).f0 (rd_T34 l3 i).f1 B2 d2 (rd_T34 l3 i).f2 B3 d3 (rd_T34 l3 i).f3 z _ HS2.out HL2.out HS3.out HL3.out ?side1 ?side2 HT0.out A10.out).mono ?_); (case side1 => exact HC.out.b); (case side2 => exact HC.out.i); rintro e w12 ⟨rfl, hco⟩; refine ⟨_, rfl, ?_⟩; have hk := hco.k; have nHT_ := sd_ (hk gt #[.int .i64 a0, .int .i64 a1, .slice A2 l2.length c2, .slice (some ad) l3.length c3] 34 (0, 0) HT.out (by decide) (by decide)); clear HT; have HT := nHT_; clear nHT_; have nHF_ := sd_ (hk gf #[.string t1, .int .i64 t2, .bool t3, .bool t4] 61 (0, 0) HF.out (by decide) (by decide)); clear HF; have HF := nHF_; clear nHF_; have nC_ := sd_ (show Co w0 w b z w12 from ⟨hco.i, hco.b, Keeps.trans HC.out.k hco.k, Nat.le_trans HC.out.s hco.s⟩); clear HC; have HC := nC_; clear nC_ hk hco))
     go_roundg k1
     case measure => have := HK1.out; omega
     case rel => exact ⟨z, wrap64 (i + 1), sm_, H', ⟨by have := HK1.out; omega⟩, ⟨HT.out⟩, ⟨HF.out⟩, ⟨HC.out⟩⟩
    rw [if_neg c8] at H1
    have c8b : decide (i < (l3.length : Int)) = false := decide_eq_false c8
    by_cases c10 : ¬ (y.size + 1 ≤ 140737488355328)
    ·rw [if_neg c10] at H1; exact absurd H1 (by simp)
    replace c10 := Decidable.not_not.mp c10
    rw [if_pos c10] at H1
    obtain rfl := Option.some.inj H1
    have LM3 := sd_ c10
    clear H1 c10 c8
    go_wp2_with (first | ((with_reducible refine gate_callee (f := 34) rfl ?_); refine goesL_ (some 63) rfl rfl Tryd.func34 (by kernel_rfl) rfl #[.pointer (some ⟨b, 0, none⟩), .string (⟨#[41]⟩ : ByteArray)] rfl la_ ?_; (refine (builder_write2 w0.heap.size b (Go.Lib.strCells y) (⟨#[41]⟩ : ByteArray) _ ?side1 ?side2 ?side3).mono ?_); (case side1 => exact HC.out.i); (case side2 => rw [Go.Lib.strCells_length]; exact LM3.out); (case side3 => exact HC.out.b.size); rintro e w11 ⟨rfl, hi, hb, hk⟩; refine ⟨_, rfl, ?_⟩; have nHT_ := sd_ (hk gt #[.int .i64 a0, .int .i64 a1, .slice A2 l2.length c2, .slice A3 l3.length c3] 34 (0, 0) HT.out (by decide) (by decide)); clear HT; have HT := nHT_; clear nHT_; have nHF_ := sd_ (hk gf #[.string t1, .int .i64 t2, .bool t3, .bool t4] 61 (0, 0) HF.out (by decide) (by decide)); clear HF; have HF := nHF_; clear nHF_; have nC_ := sd_ (Co.write (by first | exact HC.out | exact Co.drewN HC.out _) hi hb hk); clear HC; have HC := nC_; clear nC_ hi hb hk))
    go_end0
    exact ⟨rfl, HC.out⟩
end Go.Proofs.YtlhiacnmcckjgaaDoor.P
