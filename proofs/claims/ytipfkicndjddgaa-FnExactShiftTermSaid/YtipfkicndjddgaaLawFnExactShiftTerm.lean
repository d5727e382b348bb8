/- The law FnExactShiftTerm holds for every input: whatever it is handed, the call returns true, and its arguments read as before. No condition. -/
import Derived.Test.YtipfkicndjddgaaRows
import Derived.Test.YtipfkicndjddgaaM12
import Derived.Test.YtipfkicndjddgaaPureFnExactShiftTerm
import Derived.Test.YtipfkicndjddgaaM1
import Derived.WalkKit
import Derived.ProofKit
import Derived.OpenShut
import Derived.ShutString
import Derived.ChangeOld
import Derived.Below
import Derived.SizedLaws
import Derived.Carry
namespace Go.Proofs.Ytipfkicndjddgaa.fnExactShiftTerm
open Go.ChangeShapes Go.WideShapes Go.ChangeAt Go.RowKit Go.Proofs.Ytipfkicndjddgaa.P Go.Proofs.YtipfkicndjddgaaW.PrintWords Go.Proofs.YtipfkicndjddgaaW.PrintLast
open Go.ChangeMaps (open_string shut_string)
theorem own : ownKnob Try.prog.godebug = none := by kernel_rfl
theorem laidOut : laidOutB Try.prog = true := by kernel_rfl
set_option maxRecDepth 100000 in
theorem lifted (os : Os) (started : os.Started) (H : Type) (enc : TypeId × Value → H) :
    ReturnsInHanded {} Try.checked os 5 .any (Rows.fnExactShiftTermSpec.pre6 enc Try.prog Try.f5 Rows.fnExactShiftTermRow.domain false) (Rows.fnExactShiftTermSpec.post enc Try.prog Try.f5 false true false false) := by
  refine returnsInHanded_of_change_sized (C := Try.checked) own started (by kernel_rfl) Try.func5
    (ChangeSpec.witness6 (enc := enc) (C := Try.checked) false ⟨#[], #[.agg #[.int .i64 0, .int .i64 0, .slice none 0 0, .slice none 0 0], .int .i64 0, .int .i64 0], []⟩ 8 (by kernel_rfl) (by kernel_rfl) (by kernel_rfl) (by kernel_rfl)) ?_
  intro W base args ds gs before hval0 hW hcnd hsz0 _
  have hval : ∀ (j : Nat) t v, Try.f5.params[j]? = some t → args[j]? = some v → Value.okWide Try.prog W .any base t v := hval0
  have hW' := hW
  obtain ⟨p, q, hA0, hV, rfl, hfz, hnd⟩ := hW
  have hA : DataW.TrodAll enc Try.prog W 0 (fun _ => true) true Try.f5.params.toList args.toList ds p := hA0
  rw [Try.params5] at hA hval
  obtain ⟨v0, vs0, d0, ds0, p0, q0, hargs, rfl, rfl, h0, r0⟩ := trodAll_cons hA
  obtain ⟨v1, vs1, d1, ds1, p1, q1, rfl, rfl, rfl, h1, r1⟩ := trodAll_cons r0
  obtain ⟨v2, vs2, d2, ds2, p2, q2, rfl, rfl, rfl, h2, r2⟩ := trodAll_cons r1
  obtain ⟨rfl, rfl, rfl⟩ := trodAll_nil r2
  obtain rfl : args = #[v0, v1, v2] := by cases args; simp_all
  obtain ⟨rfl, rfl⟩ := trodVars_none hV
  have k0 := h0
  have lt0 : ∀ x ∈ p0, x.block < W.heap.size := by obtain ⟨m, hm⟩ := k0; exact DataW.trod_lt m _ _ _ hm
  obtain ⟨cs0, rfl, hsz0⟩ := okWide_struct Try.underlying36 (hval 0 36 v0 rfl rfl)
  obtain ⟨fuel0, hf0⟩ := h0
  obtain ⟨y0, hK0, hw0⟩ := opens_36 H enc W fuel0 _ _ hf0
  obtain ⟨A0_2, c0_2, A0_3, c0_3, e0, hc0_2, hC0_2, hc0_3, hC0_3⟩ := k36_open hK0
  obtain rfl : cs0 = #[.int .i64 y0.f0, .int .i64 y0.f1, .slice A0_2 y0.f2.length c0_2, .slice A0_3 y0.f3.length c0_3] := Array.toList_inj.1 e0
  obtain ⟨a1, rfl, rfl, rfl, w1⟩ := open_int Try.underlying3 (hval 1 3 v1 rfl rfl) h1
  obtain ⟨a2, rfl, rfl, rfl, w2⟩ := open_int Try.underlying3 (hval 2 3 v2 rfl rfl) h2
  obtain ⟨k, hP⟩ := Pure.FnExactShiftTerm y0.f0 y0.f1 y0.f2 y0.f3 a1 a2 (Wf36.out hw0).1 (Wf36.out hw0).2.1 (Wf36.out hw0).2.2.1 (Wf36.out hw0).2.2.2 w1 w2
  clear hA0 hval0 hsz0 hval hcnd
  refine (laws_FnExactShiftTerm.calls k y0.f0 y0.f1 _ _ y0.f2 _ _ y0.f3 a1 a2 true W hC0_2 hc0_2 hC0_3 hc0_3 hP rfl).mono fun e W' ⟨he, bel0⟩ => ?_
  have bel : Below W.heap.size W W' := bel0
  subst he
  exact ⟨_, rfl, _, _, _, [], _, [], hW', trodAll_mk1 (shut_bool Try.underlying4 _), (trodAll_cons_mk (Below.trod laidOut (by kernel_rfl) (of_decide_eq_true (by kernel_rfl)) k0 bel lt0) (trodAll_cons_mk (shut_int Try.underlying3 w1) (trodAll_cons_mk (shut_int Try.underlying3 w2) trodAll_mk0))), rfl, bel.frame _, fun h => by cases h⟩
theorem over : Rows.fnExactShiftTermRow.holds Try.pinned (OpenSpec.ofChange Rows.fnExactShiftTermSpec) :=
  OpenClaim.holds_of_wide 5 Try.f5 rfl rfl rfl rfl rfl rfl rfl ⟨rfl, rfl, rfl, rfl, rfl⟩ rfl rfl rfl rfl rfl (by kernel_rfl) Try.func5 (by kernel_rfl)
    (of_decide_eq_true (by kernel_rfl)) (by unfold Func.isWrapper; first | (rw [if_pos (by decide +kernel)]; kernel_rfl) | (rw [if_neg (by decide +kernel)]; exact ⟨rfl, rfl⟩))
    (fun os started H enc _ => lifted os started H enc)
end Go.Proofs.Ytipfkicndjddgaa.fnExactShiftTerm
namespace Go.Proofs.Ytipfkicndjddgaa
/-- The row, under a short name, for the claim. -/
theorem fnExactShiftTerm_holds : Rows.FnExactShiftTermSaid := fnExactShiftTerm.over
#print axioms fnExactShiftTerm_holds
end Go.Proofs.Ytipfkicndjddgaa
