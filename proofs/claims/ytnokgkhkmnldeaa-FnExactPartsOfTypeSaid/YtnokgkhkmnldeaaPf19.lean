-- by hand: laws.markIntSS
import Derived.Test.YtnokgkhkmnldeaaPf18
/-! short words -/
namespace Go.Proofs.Ytnokgkhkmnldeaa.P
open Go.RowKit Go.Proofs.YtnokgkhkmnldeaaW.PrintWords Go.Proofs.YtnokgkhkmnldeaaW.PrintLast Go.Proofs.YtnokgkhkmnldeaaW.PrintMore
set_option linter.unusedVariables false
set_option linter.unusedSimpArgs false
/-! ### laws_markIntSS: function 19 (by hand) -/
def laws_markIntSS.l0 : Nat → List (List Int) → Int → Int → Option (Int × List (List Int))
 | 0, _, _, _ => none
 | k + 1, x0, x1, x5 => if x5 < (x0.length : Int) then (if 0 ≤ x5 then ((laws_markIntS.f k (rd_L1 x0 x5) x1).bind fun t => (laws_markIntSS.l0 k (x0.set x5.toNat t.2) t.1 (wrap64 (x5 + 1)))) else none) else (some (x1, x0))
def laws_markIntSS.f (k : Nat) (l0 : List (List Int)) (a1 : Int) : Option (Int × List (List Int)) := laws_markIntSS.l0 k l0 a1 0
/-- An inner row was written in place: the others stand. -/
theorem mark_back {W w1 : World} {base : Nat} {ok oki okp : Nat → Prop} {v u : Value} {xs : List (List Int)} {x' : List Int} {i : Int} (hkp : Kept W w1 oki) (hr : Kd.R (Kd.int .i64) 3 w1 base okp u x') (hu : ∀ k, u.ownBlock = some k → oki k)
  (hH : Kd.H (Kd.slice 3 (Kd.int .i64)) 22 W base ok v xs i oki [u]) : Kd.S (Kd.slice 3 (Kd.int .i64)) 22 w1 base ok v (xs.set i.toNat x') :=
 Kd.H_back (okp := fun k => some k = u.ownBlock) (Kd.H_step hH fun k _ hn hlt => hkp.2 k hlt hn) ⟨u, rfl, Kd.R_tight rfl hr⟩ fun k hk => hu k hk.symm
theorem kept_then {w w1 w2 : World} {P Q : Nat → Prop} (h : Kept w w1 P) (k : Kept w1 w2 Q) (hq : ∀ i, Q i → P i) : Kept w w2 P :=
 ⟨Nat.le_trans h.1 k.1, fun i hi hn => (k.2 i (Nat.lt_of_lt_of_le hi h.1) fun hh => hn (hq i hh)).trans (h.2 i hi hn)⟩
set_option maxHeartbeats 8000000 in
set_option maxRecDepth 100000 in
theorem laws_markIntSS.calls (k : Nat) (P0_ : Nat → Prop) (u9000_ : Value) (l0 : List (List Int)) (a1 : Int) (r1 : Int) (r2 : List (List Int)) (w0 w : World) (hB : Below w0.heap.size w0 w) (ho0 : Kd.S (Kd.slice 3 (Kd.int .i64)) 22 w w0.heap.size P0_ u9000_ l0) (h : laws_markIntSS.f k l0 a1 = some (r1, r2)) :
  Calls Try.prog 19 #[u9000_, .int .i64 a1] w fun e w' => e = .returned (.int .i64 r1) ∧ Kd.S (Kd.slice 3 (Kd.int .i64)) 22 w' w0.heap.size (fun k_ => (P0_ k_ ∨ w.heap.size ≤ k_)) u9000_ r2 ∧ Below w0.heap.size w0 w' ∧ Kept w w' (fun k_ => P0_ k_) := by
 obtain ⟨A0, c0, rfl⟩ := Kd.S_slice ho0
 have HO := sd_ ho0
 have HB := sd_ hB
 have HK := sd_ (Kept.refl w (fun k_ => P0_ k_))
 have H' := sd_ (show laws_markIntSS.l0 k l0 a1 0 = some (r1, r2) from h)
 clear ho0 hB h
 go_enter Try.func19, Try.ntmps19
 go_wp2
 go_loopg [1, 5] k (fun kq v1 v5 w' => ∃ (x0_1 : List (List Int)) (x1_1 : Int) (x5_1 : Int), v1 = .int .i64 x1_1 ∧ v5 = .int .i64 x5_1 ∧ Aside0 (laws_markIntSS.l0 kq x0_1 x1_1 x5_1 = some (r1, r2)) ∧ Aside0 (kq ≤ k) ∧ Aside0 (x0_1.length = l0.length) ∧ Aside0 (Kd.S (Kd.slice 3 (Kd.int .i64)) 22 w' w0.heap.size P0_ (.slice A0 l0.length c0) x0_1) ∧ Aside0 (Below w0.heap.size w0 w') ∧ Aside0 (Kept w w' (fun k_ => P0_ k_)))
 case atStart => exact ⟨l0, a1, 0, sm_, sm_, H', ⟨Nat.le_refl _⟩, ⟨rfl⟩, ⟨by (with_reducible repeat (first | apply Kd.S_alloc | apply Kd.S_drewN | apply Kd.S_drew)); exact HO.out⟩, ⟨bw0_ HB.out⟩, ⟨⟨HK.out.1, HK.out.2⟩⟩⟩
 case round =>
  clear H'
  obtain ⟨x0_1, x1_1, x5_1, rfl, rfl, HA, HK1, HL, HO, HB, HK⟩ := hrel
  cases gk with
  | zero => exact absurd HA.out (by simp [laws_markIntSS.l0])
  | succ k1 =>
   have H := HA.out
   clear HA
   simp only [laws_markIntSS.l0] at H
   by_cases c3 : x5_1 < (x0_1.length : Int)
   ·rw [if_pos c3] at H
    have c3' : x5_1 < (l0.length : Int) := by have := HL.out; omega
    have c3b0 : decide (x5_1 < (l0.length : Int)) = true := decide_eq_true c3'
    by_cases c4 : 0 ≤ x5_1
    ·rw [if_pos c4] at H
     have c4b0 : decide (0 ≤ x5_1) = true := decide_eq_true c4
     replace H := Option.bind_eq_some_iff.mp H
     obtain ⟨⟨t1, t2⟩, A50, H⟩ := H
     try dsimp only at H
     have A5 := sd_ A50
     clear A50
     have H' := sd_ H
     clear H
     obtain ⟨g, cap, ev, _⟩ := Kd.S_form HO.out (by omega)
     have eA : A0 = some ⟨g, 0, none⟩ := (by injection ev)
     clear ev
     subst eA
     obtain ⟨oki, c, hcl, hM, hcc, hoki, hH0⟩ := Kd.S_lend HO.out ([] : List Int) x5_1 c4 c3'
     rw [show x0_1.getD x5_1.toNat ([] : List Int) = rd_L1 x0_1 x5_1 from rfl] at hM
     obtain ⟨ui, rfl, hRi0⟩ := hM
     obtain ⟨Ai, ci, rfl⟩ := Kd.R_slice hRi0
     have hu := hRi0.1
     have hx := hcc 0 _ rfl
     rw [show (Kd.slice 3 (Kd.int .i64)).sz = 1 from rfl, Nat.mul_one, Nat.add_zero] at hx
     have hRi := sd_ hRi0
     have hH := sd_ hH0
     clear hRi0 hH0 hcc
     have p1 := eq_true c4
     have q1 := eq_true c3'
     go_wp2_with (first | ((with_reducible refine gate_callee (f := 18) rfl ?_); refine goesL_ (some 17) rfl rfl Try.func18 (by kernel_rfl) rfl #[.slice Ai (rd_L1 x0_1 x5_1).length ci, .int .i64 x1_1] rfl la_ ?_; (with_reducible refine (laws_markIntS.calls k1 oki _ (rd_L1 x0_1 x5_1) x1_1 t1 t2 w0 _ ?side1 ?side2 A5.out).mono ?_); (case side1 => repeat (first | (with_reducible first | exact HB.out | apply below_alloc | apply pw_below_drewN | apply below_drew1) | exact HB.out)); (case side2 => (with_reducible repeat (first | apply Kd.R_alloc | apply Kd.R_drewN | apply Kd.R_drew)); exact hRi.out); rintro e w12 ⟨rfl, hr, hb, hkp⟩; refine ⟨_, rfl, ?_⟩; have HO' := sd_ (mark_back hkp hr hu (by (with_reducible repeat (first | apply Kd.H_alloc | apply Kd.H_drewN | apply Kd.H_drew)); exact hH.out)); have HK' := sd_ (kept_then (show Kept w _ (fun k_ => P0_ k_) from ⟨HK.out.1, HK.out.2⟩) hkp fun i hi => (hoki i hi).1); have HB' := sd_ hb; clear hr hb hkp))
     go_roundg k1
     case measure => have := HK1.out; omega
     case rel => exact ⟨(x0_1.set x5_1.toNat t2), t1, (wrap64 (x5_1 + 1)), sm_, sm_, H', ⟨by have := HK1.out; omega⟩, ⟨by rw [List.length_set]; exact HL.out⟩, ⟨by (with_reducible repeat (first | apply Kd.S_alloc | apply Kd.S_drewN | apply Kd.S_drew)); exact HO'.out⟩, ⟨by repeat (first | (with_reducible first | exact HB'.out | apply below_alloc | apply pw_below_drewN | apply below_drew1) | exact HB'.out)⟩, ⟨⟨HK'.out.1, HK'.out.2⟩⟩⟩
    rw [if_neg c4] at H
    exact absurd H (by simp)
   rw [if_neg c3] at H
   have c3b0 : decide (x5_1 < (l0.length : Int)) = false := decide_eq_false (by have := HL.out; omega)
   simp only [Option.some.injEq, Prod.mk.injEq] at H
   obtain ⟨rfl, rfl⟩ := H
   go_wp2
   go_ret
   exact ⟨by first | rfl | (simp; done) | (simp [*]; done), by (with_reducible repeat (first | apply Kd.S_alloc | apply Kd.S_drewN | apply Kd.S_drew)); exact Kd.S_mono HO.out (fun _ hk => .inl hk), bw0_ HB.out, ⟨HK.out.1, HK.out.2⟩⟩
end Go.Proofs.Ytnokgkhkmnldeaa.P
