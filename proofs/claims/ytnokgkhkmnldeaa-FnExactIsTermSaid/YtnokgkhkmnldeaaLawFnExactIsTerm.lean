/- The law FnExactIsTerm holds for every input: whatever it is handed, the call returns true, and its arguments read as before. No condition. -/
import Derived.Test.YtnokgkhkmnldeaaRows
import Derived.Test.YtnokgkhkmnldeaaPf12
import Derived.Test.YtnokgkhkmnldeaaPureFnExactIsTerm
import Derived.Test.YtnokgkhkmnldeaaM1
import Derived.WalkKit
import Derived.ProofKit
import Derived.OpenShut
import Derived.ShutString
import Derived.ChangeOld
import Derived.Below
import Derived.SizedLaws
import Derived.Carry
namespace Go.Proofs.Ytnokgkhkmnldeaa.fnExactIsTerm
open Go.ChangeShapes Go.WideShapes Go.ChangeAt Go.RowKit Go.Proofs.Ytnokgkhkmnldeaa.P Go.Proofs.YtnokgkhkmnldeaaW.PrintWords Go.Proofs.YtnokgkhkmnldeaaW.PrintLast
open Go.ChangeMaps (open_string shut_string)
theorem own : ownKnob Try.prog.godebug = none := by kernel_rfl
theorem laidOut : laidOutB Try.prog = true := by kernel_rfl
set_option maxRecDepth 100000 in
theorem lifted (os : Os) (started : os.Started) (H : Type) (enc : TypeId × Value → H) :
    ReturnsInHanded {} Try.checked os 12 .any (Rows.fnExactIsTermSpec.pre6 enc Try.prog Try.f12 Rows.fnExactIsTermRow.domain false) (Rows.fnExactIsTermSpec.post enc Try.prog Try.f12 false true false false) := by
  refine returnsInHanded_of_change_sized (C := Try.checked) own started (by kernel_rfl) Try.func12
    (ChangeSpec.witness6 (enc := enc) (C := Try.checked) false ⟨#[], #[.agg #[.int .i64 0, .slice none 0 0, .slice none 0 0, .slice none 0 0], .agg #[.int .i64 0, .int .i64 0, .slice none 0 0, .slice none 0 0], .int .i64 0], []⟩ 8 (by kernel_rfl) (by kernel_rfl) (by kernel_rfl) (by kernel_rfl)) ?_
  intro W base args ds gs before hval0 hW hcnd hsz0 _
  have hval : ∀ (j : Nat) t v, Try.f12.params[j]? = some t → args[j]? = some v → Value.okWide Try.prog W .any base t v := hval0
  have hW' := hW
  obtain ⟨p, q, hA0, hV, rfl, hfz, hnd⟩ := hW
  have hA : DataW.TrodAll enc Try.prog W 0 (fun _ => true) true Try.f12.params.toList args.toList ds p := hA0
  rw [Try.params12] at hA hval
  obtain ⟨v0, vs0, d0, ds0, p0, q0, hargs, rfl, rfl, h0, r0⟩ := trodAll_cons hA
  obtain ⟨v1, vs1, d1, ds1, p1, q1, rfl, rfl, rfl, h1, r1⟩ := trodAll_cons r0
  obtain ⟨v2, vs2, d2, ds2, p2, q2, rfl, rfl, rfl, h2, r2⟩ := trodAll_cons r1
  obtain ⟨rfl, rfl, rfl⟩ := trodAll_nil r2
  obtain rfl : args = #[v0, v1, v2] := by cases args; simp_all
  obtain ⟨rfl, rfl⟩ := trodVars_none hV
  have k0 := h0
  have lt0 : ∀ x ∈ p0, x.block < W.heap.size := by obtain ⟨m, hm⟩ := k0; exact DataW.trod_lt m _ _ _ hm
  obtain ⟨cs0, rfl, hsz0⟩ := okWide_struct Try.underlying34 (hval 0 34 v0 rfl rfl)
  obtain ⟨fuel0, hf0⟩ := h0
  obtain ⟨y0, hK0, hw0⟩ := opens_34 H enc W fuel0 _ _ hf0
  obtain ⟨A0_1, c0_1, A0_2, c0_2, A0_3, c0_3, e0, hc0_1, hC0_1, hc0_2, hC0_2, hc0_3, hC0_3⟩ := k34_open hK0
  obtain rfl : cs0 = #[.int .i64 y0.f0, .slice A0_1 y0.f1.length c0_1, .slice A0_2 y0.f2.length c0_2, .slice A0_3 y0.f3.length c0_3] := Array.toList_inj.1 e0
  have k1 := h1
  have lt1 : ∀ x ∈ p1, x.block < W.heap.size := by obtain ⟨m, hm⟩ := k1; exact DataW.trod_lt m _ _ _ hm
  obtain ⟨cs1, rfl, hsz1⟩ := okWide_struct Try.underlying43 (hval 1 43 v1 rfl rfl)
  obtain ⟨fuel1, hf1⟩ := h1
  obtain ⟨y1, hK1, hw1⟩ := opens_43 H enc W fuel1 _ _ hf1
  obtain ⟨A1_2, c1_2, A1_3, c1_3, e1, hc1_2, hC1_2, hc1_3, hC1_3⟩ := k43_open hK1
  obtain rfl : cs1 = #[.int .i64 y1.f0, .int .i64 y1.f1, .slice A1_2 y1.f2.length c1_2, .slice A1_3 y1.f3.length c1_3] := Array.toList_inj.1 e1
  obtain ⟨a2, rfl, rfl, rfl, w2⟩ := open_int Try.underlying3 (hval 2 3 v2 rfl rfl) h2
  obtain ⟨k, hP⟩ := Pure.FnExactIsTerm y0.f0 y0.f1 y0.f2 y0.f3 y1.f0 y1.f1 y1.f2 y1.f3 a2 (Wf34.out hw0).1 (Wf34.out hw0).2.1 (Wf34.out hw0).2.2.1 (Wf34.out hw0).2.2.2 (Wf43.out hw1).1 (Wf43.out hw1).2.1 (Wf43.out hw1).2.2.1 (Wf43.out hw1).2.2.2 w2
  clear hA0 hval0 hsz0 hval hcnd
  refine (laws_FnExactIsTerm.calls k y0.f0 _ _ y0.f1 _ _ y0.f2 _ _ y0.f3 y1.f0 y1.f1 _ _ y1.f2 _ _ y1.f3 a2 true W hC0_1 hc0_1 hC0_2 hc0_2 hC0_3 hc0_3 hC1_2 hc1_2 hC1_3 hc1_3 hP rfl).mono fun e W' ⟨he, bel0⟩ => ?_
  have bel : Below W.heap.size W W' := bel0
  subst he
  exact ⟨_, rfl, _, _, _, [], _, [], hW', trodAll_mk1 (shut_bool Try.underlying4 _), (trodAll_cons_mk (Below.trod laidOut (by kernel_rfl) (of_decide_eq_true (by kernel_rfl)) k0 bel lt0) (trodAll_cons_mk (Below.trod laidOut (by kernel_rfl) (of_decide_eq_true (by kernel_rfl)) k1 bel lt1) (trodAll_cons_mk (shut_int Try.underlying3 w2) trodAll_mk0))), rfl, bel.frame _, fun h => by cases h⟩
theorem over : Rows.fnExactIsTermRow.holds Try.pinned (OpenSpec.ofChange Rows.fnExactIsTermSpec) :=
  OpenClaim.holds_of_wide 12 Try.f12 rfl rfl rfl rfl rfl rfl rfl ⟨rfl, rfl, rfl, rfl, rfl⟩ rfl rfl rfl rfl rfl (by kernel_rfl) Try.func12 (by kernel_rfl)
    (of_decide_eq_true (by kernel_rfl)) (by unfold Func.isWrapper; first | (rw [if_pos (by decide +kernel)]; kernel_rfl) | (rw [if_neg (by decide +kernel)]; exact ⟨rfl, rfl⟩))
    (fun os started H enc _ => lifted os started H enc)
end Go.Proofs.Ytnokgkhkmnldeaa.fnExactIsTerm
namespace Go.Proofs.Ytnokgkhkmnldeaa
/-- The row, under a short name, for the claim. -/
theorem fnExactIsTerm_holds : Rows.FnExactIsTermSaid := fnExactIsTerm.over
#print axioms fnExactIsTerm_holds
end Go.Proofs.Ytnokgkhkmnldeaa
