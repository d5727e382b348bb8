/- The law FnExactViewsOf holds for every input: whatever it is handed, the call returns true, and its arguments read as before. No condition. -/
import Derived.Test.YtipfkicndjddgaaRows
import Derived.Test.YtipfkicndjddgaaM10
import Derived.Test.YtipfkicndjddgaaPureFnExactViewsOf
import Derived.Test.YtipfkicndjddgaaM2
import Derived.WalkKit
import Derived.ProofKit
import Derived.OpenShut
import Derived.ShutString
import Derived.ChangeOld
import Derived.Below
import Derived.SizedLaws
import Derived.Carry
namespace Go.Proofs.Ytipfkicndjddgaa.fnExactViewsOf
open Go.ChangeShapes Go.WideShapes Go.ChangeAt Go.RowKit Go.Proofs.Ytipfkicndjddgaa.P Go.Proofs.YtipfkicndjddgaaW.PrintWords Go.Proofs.YtipfkicndjddgaaW.PrintLast
open Go.ChangeMaps (open_string shut_string)
theorem own : ownKnob Try.prog.godebug = none := by kernel_rfl
theorem laidOut : laidOutB Try.prog = true := by kernel_rfl
set_option maxRecDepth 100000 in
theorem lifted (os : Os) (started : os.Started) (H : Type) (enc : TypeId × Value → H) :
    ReturnsInHanded {} Try.checked os 7 .any (Rows.fnExactViewsOfSpec.pre6 enc Try.prog Try.f7 Rows.fnExactViewsOfRow.domain false) (Rows.fnExactViewsOfSpec.post enc Try.prog Try.f7 false true false false) := by
  refine returnsInHanded_of_change_sized (C := Try.checked) own started (by kernel_rfl) Try.func7
    (ChangeSpec.witness6 (enc := enc) (C := Try.checked) false ⟨#[], #[.agg #[.int .i64 0, .slice none 0 0, .slice none 0 0, .slice none 0 0]], []⟩ 8 (by kernel_rfl) (by kernel_rfl) (by kernel_rfl) (by kernel_rfl)) ?_
  intro W base args ds gs before hval0 hW hcnd hsz0 _
  have hval : ∀ (j : Nat) t v, Try.f7.params[j]? = some t → args[j]? = some v → Value.okWide Try.prog W .any base t v := hval0
  have hW' := hW
  obtain ⟨p, q, hA0, hV, rfl, hfz, hnd⟩ := hW
  have hA : DataW.TrodAll enc Try.prog W 0 (fun _ => true) true Try.f7.params.toList args.toList ds p := hA0
  rw [Try.params7] at hA hval
  obtain ⟨v0, vs0, d0, ds0, p0, q0, hargs, rfl, rfl, h0, r0⟩ := trodAll_cons hA
  obtain ⟨rfl, rfl, rfl⟩ := trodAll_nil r0
  obtain rfl : args = #[v0] := by cases args; simp_all
  obtain ⟨rfl, rfl⟩ := trodVars_none hV
  have k0 := h0
  have lt0 : ∀ x ∈ p0, x.block < W.heap.size := by obtain ⟨m, hm⟩ := k0; exact DataW.trod_lt m _ _ _ hm
  obtain ⟨cs0, rfl, hsz0⟩ := okWide_struct Try.underlying25 (hval 0 25 v0 rfl rfl)
  obtain ⟨fuel0, hf0⟩ := h0
  obtain ⟨y0, hK0, hw0⟩ := opens_25 H enc W fuel0 _ _ hf0
  obtain ⟨A0_1, c0_1, A0_2, c0_2, A0_3, c0_3, e0, hc0_1, hC0_1, hc0_2, hC0_2, hc0_3, hC0_3⟩ := k25_open hK0
  obtain rfl : cs0 = #[.int .i64 y0.f0, .slice A0_1 y0.f1.length c0_1, .slice A0_2 y0.f2.length c0_2, .slice A0_3 y0.f3.length c0_3] := Array.toList_inj.1 e0
  obtain ⟨k, hP⟩ := Pure.FnExactViewsOf y0.f0 y0.f1 y0.f2 y0.f3 (Wf25.out hw0).1 (Wf25.out hw0).2.1 (Wf25.out hw0).2.2.1 (Wf25.out hw0).2.2.2
  clear hA0 hval0 hsz0 hval hcnd
  refine (laws_FnExactViewsOf.calls k y0.f0 _ _ y0.f1 _ _ y0.f2 _ _ y0.f3 true W hC0_1 hc0_1 hC0_2 hc0_2 hC0_3 hc0_3 hP rfl).mono fun e W' ⟨he, bel0⟩ => ?_
  have bel : Below W.heap.size W W' := bel0
  subst he
  exact ⟨_, rfl, _, _, _, [], _, [], hW', trodAll_mk1 (shut_bool Try.underlying4 _), (trodAll_cons_mk (Below.trod laidOut (by kernel_rfl) (of_decide_eq_true (by kernel_rfl)) k0 bel lt0) trodAll_mk0), rfl, bel.frame _, fun h => by cases h⟩
theorem over : Rows.fnExactViewsOfRow.holds Try.pinned (OpenSpec.ofChange Rows.fnExactViewsOfSpec) :=
  OpenClaim.holds_of_wide 7 Try.f7 rfl rfl rfl rfl rfl rfl rfl ⟨rfl, rfl, rfl, rfl, rfl⟩ rfl rfl rfl rfl rfl (by kernel_rfl) Try.func7 (by kernel_rfl)
    (of_decide_eq_true (by kernel_rfl)) (by unfold Func.isWrapper; first | (rw [if_pos (by decide +kernel)]; kernel_rfl) | (rw [if_neg (by decide +kernel)]; exact ⟨rfl, rfl⟩))
    (fun os started H enc _ => lifted os started H enc)
end Go.Proofs.Ytipfkicndjddgaa.fnExactViewsOf
namespace Go.Proofs.Ytipfkicndjddgaa
/-- The row, under a short name, for the claim. -/
theorem fnExactViewsOf_holds : Rows.FnExactViewsOfSaid := fnExactViewsOf.over
#print axioms fnExactViewsOf_holds
end Go.Proofs.Ytipfkicndjddgaa
