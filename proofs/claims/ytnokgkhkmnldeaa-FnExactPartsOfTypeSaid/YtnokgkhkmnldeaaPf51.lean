import Derived.Test.YtnokgkhkmnldeaaP0
import Derived.Lib.SliceRun
/-! short words -/
namespace Go.Proofs.Ytnokgkhkmnldeaa.P
open Go.RowKit Go.Proofs.YtnokgkhkmnldeaaW.PrintWords Go.Proofs.YtnokgkhkmnldeaaW.PrintLast
set_option linter.unusedVariables false
set_option linter.unusedSimpArgs false
/-! ### slices_Clone_int_int: function 51 (by hand) -/
def slices_Clone_int_int.f (l0 : List Int) : Option (List Int) := if ([] : List Int).length + l0.length < 17592186044416 then some ([] ++ l0) else none
set_option maxHeartbeats 8000000 in
set_option maxRecDepth 100000 in
theorem slices_Clone_int_int.calls (A0 : Option Addr) (c0 : Nat) (l0 : List Int) (r : List Int) (w : World) (hr0 : Kd.C (Kd.int .i64) w A0 l0.length l0) (hc0 : l0.length ≤ c0) (h : slices_Clone_int_int.f l0 = some r) :
  Calls Try.prog 51 #[.slice A0 l0.length c0] w fun e w' => ∃ v0_ : Value, e = .returned (v0_) ∧ Kd.R (Kd.int .i64) 3 w' w.heap.size (fun _ => True) v0_ r ∧ Below w.heap.size w w' := by
 have HR0 := sd_ hr0
 have HC0 := sd_ hc0
 clear hr0 hc0
 have HB := sd_ (Below.refl w.heap.size w)
 have H : (if ([] : List Int).length + l0.length < 17592186044416 then some ([] ++ l0) else none) = some r := h
 clear h
 obtain ⟨y108, hy108⟩ : ∃ y_ : List Int, y_ = (([] : List Int)) := ⟨_, rfl⟩
 rw [← hy108] at H
 have Ny108 := sd_ hy108
 clear hy108
 by_cases c2 : y108.length + l0.length < 17592186044416
 ·rw [if_pos c2] at H
  have LMc2 := sd_ c2
  clear c2
  obtain ⟨y111, hy111⟩ : ∃ y_ : List Int, y_ = (y108 ++ l0) := ⟨_, rfl⟩
  rw [← hy111] at H
  have Ny111 := sd_ hy111
  clear hy111
  obtain rfl := Option.some.inj H
  have q22 : ∀ (w : World) (a : Option Addr) (n c : Nat), (binOp .eql 22 (.slice a n c) (.slice none 0 0)).run Try.prog w = .ok (.bool a.isNone) w := fun w a n c => Go.Lib.run_eql_slice_nil w 22 3 a n c 0 0 Try.underlying22
  cases A0 with
  | none =>
   have e0 : l0 = [] := by
    rcases l0 with _ | ⟨z, zs⟩
    ·rfl
    obtain ⟨ad, e, _⟩ := Kd.at_int HR0.out 0 (by omega) (by simp only [List.length_cons]; omega)
    cases e
   subst e0
   have e1 : y111 = [] := by rw [Ny111.out, Ny108.out]; rfl
   rw [e1]
   go_enter Try.func51, Try.ntmps51
   go_wp2
   go_ret
   exact ⟨_, by first | rfl | simp, Kd.R_nil _ _ _ _ _, HB.out⟩
  | some ad =>
   go_enter Try.func51, Try.ntmps51
   go_wp2_with (first | ((with_reducible refine gate_dst (N := 5) rfl ?_); refine Kd.R_lit (Kd.int .i64) _ 3 ?hg (N := 5) ?hd (xs := ([] : List Int)) (inner := []) (ok := fun _ => True) (okp := fun _ => True) ?hr ?hp (fun _ hk => hk) trivial (Below.refl _ _) (Nat.le_refl _) (by simp) ?_; (case hd => rfl); (case hg => rfl); (case hr => first | (go_simp; done) | (go_simp; rfl)); (case hp => exact (Reps.none _ _)); intro v109 w3 ho4 hb hg_ hnew_; clear hg_ hnew_; (first | rw [← Ny108.out] at ho4 | (simp only [Int.reduceToNat] at ho4; rw [← Ny108.out] at ho4)); have HO110 := sd_ (Kd.R_lower ho4 (below_size HB.out)); replace HB := sd_ (below_step HB.out hb); clear hb ho4) | ((with_reducible refine gate_builtin (b := .append) (xs := #[.tmp 5, .tmp 6]) rfl ?_); at_builtin; refine Kd.R_append_rows (Kd.int .i64) (w0 := w) w.heap.size rfl (.tmp 5) (.tmp 6) 22 3 (.int .i64 0) 8 rfl Try.underlying22 info3 rfl (by decide) (by omega) v109 y108 l0 _ _ _ (fun _ => True) (fun _ => False) rfl rfl ?aO ?aR (fun _ _ h => h) (fun _ h => h.elim) ?aF ?aB ?aS ?aL ?_; (case aR => exact (Kd.C_below HR0.out HB.out)); (case aB => exact HB.out); (case aF => exact (fun _ _ => trivial)); (case aO => exact HO110.out); (case aS => exact (below_size HB.out)); (case aL => have := LMc2.out; omega); intro v112 w5 ho hb hg hat; rw [← Ny111.out] at ho; have n0_ := sd_ (hb); have n1_ := sd_ (ho); clear HB; clear HO110; have HB := n0_; have HO113 := n1_; clear n0_ n1_; clear ho hb hg hat))
   go_ret
   exact ⟨_, by first | rfl | simp, HO113.out, HB.out⟩
 rw [if_neg c2] at H
 exact absurd H (by simp)
end Go.Proofs.Ytnokgkhkmnldeaa.P
