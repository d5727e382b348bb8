-- by hand: impl.typeText: a Builder that takes each code's text
import Derived.Test.YtlhiacnmcckjgaaDoorS0
import Derived.Test.YtlhiacnmcckjgaaDoorPf35
/-! short words -/
namespace Go.Proofs.YtlhiacnmcckjgaaDoor.P
open Go.RowKit Go.Proofs.YtlhiacnmcckjgaaDoorW.PrintWords Go.Proofs.YtlhiacnmcckjgaaDoorW.PrintLast Go.Proofs.YtlhiacnmcckjgaaDoorW.PrintMore
set_option linter.unusedVariables false
set_option linter.unusedSimpArgs false
/-! ### impl_typeText: function 19 (by hand) -/
theorem strCells_app (s t : ByteArray) : Go.Lib.strCells (s ++ t) = Go.Lib.strCells s ++ Go.Lib.strCells t := by
 have h : (s ++ t).data.toList = s.data.toList ++ t.data.toList := by simp [ByteArray.data_append]
 unfold Go.Lib.strCells; rw [h, List.map_append]
def impl_typeText.l0 : Nat → List Int → ByteArray → Int → Option ByteArray
 | 0, _, _, _ => none
 | k + 1, x0, x3, x8 => if x8 < (x0.length : Int) then (if 0 ≤ x8 then ((impl_codeText.f (rd x0 x8)).bind fun t => (if x3.size + t.size ≤ 140737488355328 then (impl_typeText.l0 k x0 (x3 ++ t) (wrap64 (x8 + 1))) else none)) else none) else some x3
def impl_typeText.f (k : Nat) (l0 : List Int) : Option ByteArray := impl_typeText.l0 k l0 (⟨#[]⟩ : ByteArray) 0
set_option maxHeartbeats 8000000 in
set_option maxRecDepth 100000 in
theorem impl_typeText.calls (k : Nat) (A0 : Option Addr) (c0 : Nat) (l0 : List Int) (r : ByteArray) (w : World) (hr0 : Kd.C (Kd.int .i64) w A0 l0.length l0) (hc0 : l0.length ≤ c0) (h : impl_typeText.f k l0 = some r) :
  Calls Tryd.prog 19 #[.slice A0 l0.length c0] w fun e w' => e = .returned (.string r) ∧ Below w.heap.size w w' := by
 have HR0 := sd_ hr0
 have HC0 := sd_ hc0
 clear hr0 hc0
 have H' := sd_ (show impl_typeText.l0 k l0 (⟨#[]⟩ : ByteArray) 0 = some r from h)
 clear h
 go_enter Tryd.func19, Tryd.ntmps19
 go_wp2
 go_loopg [8] k (fun kq v8 wr => ∃ (x3_1 : ByteArray) (x8_1 : Int), v8 = .int .i64 x8_1 ∧ Aside0 (impl_typeText.l0 kq l0 x3_1 x8_1 = some r) ∧ Aside0 (kq ≤ k) ∧ Aside0 (Go.Lib.IsBuilder 48 5 w.heap.size w.heap.size (Go.Lib.strCells x3_1) wr) ∧ Aside0 (Below w.heap.size w wr))
 case atStart => exact ⟨⟨#[]⟩, 0, rfl, H', ⟨Nat.le_refl _⟩, ⟨Go.Lib.fresh_isBuilder 48 5 w⟩, ⟨below_alloc (Below.refl w.heap.size w) _⟩⟩
 case round =>
  clear H'
  obtain ⟨x3_1, x8_1, rfl, HA, HK1, HI, HB⟩ := hrel
  cases gk with
  | zero => exact absurd HA.out (by simp [impl_typeText.l0])
  | succ k1 =>
   have H := HA.out
   clear HA
   simp only [impl_typeText.l0] at H
   by_cases c4 : x8_1 < (l0.length : Int)
   ·rw [if_pos c4] at H
    have c4b0 : decide (x8_1 < (l0.length : Int)) = true := decide_eq_true c4
    by_cases c5 : 0 ≤ x8_1
    ·rw [if_pos c5] at H
     have c5b0 : decide (0 ≤ x8_1) = true := decide_eq_true c5
     replace H := Option.bind_eq_some_iff.mp H
     obtain ⟨t, A60, H⟩ := H
     have A6 := sd_ A60
     clear A60
     by_cases c7 : x3_1.size + t.size ≤ 140737488355328
     ·rw [if_pos c7] at H
      have LM := sd_ c7
      clear c7
      have H' := sd_ H
      clear H
      obtain ⟨ad114, e114, hx114_0⟩ := Kd.at_int HR0.out x8_1 c5 c4
      cases e114
      replace hx114_0 := (HB.out.cell (World.block_lt_of_cell? w _ hx114_0)).trans hx114_0
      have p114 := eq_true c5
      have q114 := eq_true c4
      clear c4 c5
      go_wp2_with (first | ((with_reducible refine gate_callee (f := 35) rfl ?_); refine goesL_ (some 13) rfl rfl Tryd.func35 (by kernel_rfl) rfl #[.int .i64 (rd l0 x8_1)] rfl la_ ?_; (with_reducible refine (impl_codeText.calls (rd l0 x8_1) t _ A6.out).mono ?_); rintro e w' ⟨rfl, ⟨nd, rfl⟩⟩; refine ⟨_, rfl, ?_⟩) | ((with_reducible refine gate_callee (f := 34) rfl ?_); refine goesL_ (some 14) rfl rfl Tryd.func34 (by kernel_rfl) rfl #[.pointer (some ⟨w.heap.size, 0, none⟩), .string t] rfl la_ ?_; (refine (builder_write w.heap.size w.heap.size (Go.Lib.strCells x3_1) t _ ?side1 ?side2 ?side3).mono ?_); (case side1 => exact HI.out); (case side2 => rw [Go.Lib.strCells_length]; exact LM.out); (case side3 => exact below_size (bw0_ HB.out)); rintro e w2 ⟨rfl, h1, b1⟩; refine ⟨_, rfl, ?_⟩; have HI2 := sd_ (show Go.Lib.IsBuilder 48 5 w.heap.size w.heap.size (Go.Lib.strCells (x3_1 ++ t)) w2 from by rw [strCells_app]; exact Or.inr h1); have HB2 := sd_ (show Below w.heap.size w w2 from Below.trans (bw0_ HB.out) b1); clear h1 b1 HI HB))
      go_roundg k1
      case measure => have := HK1.out; omega
      case rel => exact ⟨x3_1 ++ t, wrap64 (x8_1 + 1), sm_, H', ⟨by have := HK1.out; omega⟩, ⟨HI2.out⟩, ⟨HB2.out⟩⟩
     rw [if_neg c7] at H
     exact absurd H (by simp)
    rw [if_neg c5] at H
    exact absurd H (by simp)
   rw [if_neg c4] at H
   have c4b0 : decide (x8_1 < (l0.length : Int)) = false := decide_eq_false c4
   clear c4
   obtain rfl := Option.some.inj H
   go_wp2_with (first | ((with_reducible refine gate_callee (f := 27) rfl ?_); refine goesL_ (some 16) rfl rfl Tryd.func27 (by kernel_rfl) rfl #[.pointer (some ⟨w.heap.size, 0, none⟩)] rfl la_ ?_; (refine (builder_string w.heap.size w.heap.size x3_1.data.toList _ ?side1 ?side2).mono ?_); (case side1 => exact HI.out); (case side2 => exact below_size (bw0_ HB.out)); rintro e w2 ⟨rfl, b1⟩; refine ⟨_, rfl, ?_⟩; have HB2 := sd_ (show Below w.heap.size w w2 from Below.trans (bw0_ HB.out) b1); clear b1))
   go_ret
   exact ⟨by first | rfl | (simp; done), bw0_ HB2.out⟩
end Go.Proofs.YtlhiacnmcckjgaaDoor.P
