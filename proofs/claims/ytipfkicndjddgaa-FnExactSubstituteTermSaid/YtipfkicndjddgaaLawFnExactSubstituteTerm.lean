/- The law FnExactSubstituteTerm holds for every input: whatever it is handed, the call returns true, and its arguments read as before. No condition. -/
import Derived.Test.YtipfkicndjddgaaRows
import Derived.Test.YtipfkicndjddgaaPf6
import Derived.Test.YtipfkicndjddgaaPureFnExactSubstituteTerm
import Derived.Test.YtipfkicndjddgaaM1
import Derived.WalkKit
import Derived.ProofKit
import Derived.OpenShut
import Derived.ShutString
import Derived.ChangeOld
import Derived.Below
import Derived.SizedLaws
import Derived.Carry
namespace Go.Proofs.Ytipfkicndjddgaa.fnExactSubstituteTerm
open Go.ChangeShapes Go.WideShapes Go.ChangeAt Go.RowKit Go.Proofs.Ytipfkicndjddgaa.P Go.Proofs.YtipfkicndjddgaaW.PrintWords Go.Proofs.YtipfkicndjddgaaW.PrintLast
open Go.ChangeMaps (open_string shut_string)
theorem own : ownKnob Try.prog.godebug = none := by kernel_rfl
theorem laidOut : laidOutB Try.prog = true := by kernel_rfl
set_option maxRecDepth 100000 in
theorem lifted (os : Os) (started : os.Started) (H : Type) (enc : TypeId × Value → H) :
    ReturnsInHanded {} Try.checked os 6 .any (Rows.fnExactSubstituteTermSpec.pre6 enc Try.prog Try.f6 Rows.fnExactSubstituteTermRow.domain false) (Rows.fnExactSubstituteTermSpec.post enc Try.prog Try.f6 false true false false) := by
  refine returnsInHanded_of_change_sized (C := Try.checked) own started (by kernel_rfl) Try.func6
    (ChangeSpec.witness6 (enc := enc) (C := Try.checked) false ⟨#[], #[.agg #[.int .i64 0, .int .i64 0, .slice none 0 0, .slice none 0 0], .int .i64 0, .agg #[.int .i64 0, .int .i64 0, .slice none 0 0, .slice none 0 0]], []⟩ 8 (by kernel_rfl) (by kernel_rfl) (by kernel_rfl) (by kernel_rfl)) ?_
  intro W base args ds gs before hval0 hW hcnd hsz0 _
  have hval : ∀ (j : Nat) t v, Try.f6.params[j]? = some t → args[j]? = some v → Value.okWide Try.prog W .any base t v := hval0
  have hW' := hW
  obtain ⟨p, q, hA0, hV, rfl, hfz, hnd⟩ := hW
  have hA : DataW.TrodAll enc Try.prog W 0 (fun _ => true) true Try.f6.params.toList args.toList ds p := hA0
  rw [Try.params6] at hA hval
  obtain ⟨v0, vs0, d0, ds0, p0, q0, hargs, rfl, rfl, h0, r0⟩ := trodAll_cons hA
  obtain ⟨v1, vs1, d1, ds1, p1, q1, rfl, rfl, rfl, h1, r1⟩ := trodAll_cons r0
  obtain ⟨v2, vs2, d2, ds2, p2, q2, rfl, rfl, rfl, h2, r2⟩ := trodAll_cons r1
  obtain ⟨rfl, rfl, rfl⟩ := trodAll_nil r2
  obtain rfl : args = #[v0, v1, v2] := by cases args; simp_all
  obtain ⟨rfl, rfl⟩ := trodVars_none hV
  have k0 := h0
  have lt0 : ∀ x ∈ p0, x.block < W.heap.size := by obtain ⟨m, hm⟩ := k0; exact DataW.trod_lt m _ _ _ hm
  obtain ⟨cs0, rfl, hsz0⟩ := okWide_struct Try.underlying36 (hval 0 36 v0 rfl rfl)
  obtain ⟨fuel0, hf0⟩ := h0
  obtain ⟨y0, hK0, hw0⟩ := opens_36 H enc W fuel0 _ _ hf0
  obtain ⟨A0_2, c0_2, A0_3, c0_3, e0, hc0_2, hC0_2, hc0_3, hC0_3⟩ := k36_open hK0
  obtain rfl : cs0 = #[.int .i64 y0.f0, .int .i64 y0.f1, .slice A0_2 y0.f2.length c0_2, .slice A0_3 y0.f3.length c0_3] := Array.toList_inj.1 e0
  obtain ⟨a1, rfl, rfl, rfl, w1⟩ := open_int Try.underlying3 (hval 1 3 v1 rfl rfl) h1
  have k2 := h2
  have lt2 : ∀ x ∈ p2, x.block < W.heap.size := by obtain ⟨m, hm⟩ := k2; exact DataW.trod_lt m _ _ _ hm
  obtain ⟨cs2, rfl, hsz2⟩ := okWide_struct Try.underlying36 (hval 2 36 v2 rfl rfl)
  obtain ⟨fuel2, hf2⟩ := h2
  obtain ⟨y2, hK2, hw2⟩ := opens_36 H enc W fuel2 _ _ hf2
  obtain ⟨A2_2, c2_2, A2_3, c2_3, e2, hc2_2, hC2_2, hc2_3, hC2_3⟩ := k36_open hK2
  obtain rfl : cs2 = #[.int .i64 y2.f0, .int .i64 y2.f1, .slice A2_2 y2.f2.length c2_2, .slice A2_3 y2.f3.length c2_3] := Array.toList_inj.1 e2
  obtain ⟨k, hP⟩ := Pure.FnExactSubstituteTerm y0.f0 y0.f1 y0.f2 y0.f3 a1 y2.f0 y2.f1 y2.f2 y2.f3 (Wf36.out hw0).1 (Wf36.out hw0).2.1 (Wf36.out hw0).2.2.1 (Wf36.out hw0).2.2.2 w1 (Wf36.out hw2).1 (Wf36.out hw2).2.1 (Wf36.out hw2).2.2.1 (Wf36.out hw2).2.2.2
  clear hA0 hval0 hsz0 hval hcnd
  refine (laws_FnExactSubstituteTerm.calls k y0.f0 y0.f1 _ _ y0.f2 _ _ y0.f3 a1 y2.f0 y2.f1 _ _ y2.f2 _ _ y2.f3 true W hC0_2 hc0_2 hC0_3 hc0_3 hC2_2 hc2_2 hC2_3 hc2_3 hP rfl).mono fun e W' ⟨he, bel0⟩ => ?_
  have bel : Below W.heap.size W W' := bel0
  subst he
  exact ⟨_, rfl, _, _, _, [], _, [], hW', trodAll_mk1 (shut_bool Try.underlying4 _), (trodAll_cons_mk (Below.trod laidOut (by kernel_rfl) (of_decide_eq_true (by kernel_rfl)) k0 bel lt0) (trodAll_cons_mk (shut_int Try.underlying3 w1) (trodAll_cons_mk (Below.trod laidOut (by kernel_rfl) (of_decide_eq_true (by kernel_rfl)) k2 bel lt2) trodAll_mk0))), rfl, bel.frame _, fun h => by cases h⟩
theorem over : Rows.fnExactSubstituteTermRow.holds Try.pinned (OpenSpec.ofChange Rows.fnExactSubstituteTermSpec) :=
  OpenClaim.holds_of_wide 6 Try.f6 rfl rfl rfl rfl rfl rfl rfl ⟨rfl, rfl, rfl, rfl, rfl⟩ rfl rfl rfl rfl rfl (by kernel_rfl) Try.func6 (by kernel_rfl)
    (of_decide_eq_true (by kernel_rfl)) (by unfold Func.isWrapper; first | (rw [if_pos (by decide +kernel)]; kernel_rfl) | (rw [if_neg (by decide +kernel)]; exact ⟨rfl, rfl⟩))
    (fun os started H enc _ => lifted os started H enc)
end Go.Proofs.Ytipfkicndjddgaa.fnExactSubstituteTerm
namespace Go.Proofs.Ytipfkicndjddgaa
/-- The row, under a short name, for the claim. -/
theorem fnExactSubstituteTerm_holds : Rows.FnExactSubstituteTermSaid := fnExactSubstituteTerm.over
#print axioms fnExactSubstituteTerm_holds
end Go.Proofs.Ytipfkicndjddgaa
