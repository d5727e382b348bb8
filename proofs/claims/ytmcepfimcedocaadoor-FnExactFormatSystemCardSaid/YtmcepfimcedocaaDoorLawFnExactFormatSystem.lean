/- The law FnExactFormatSystem holds for every input: whatever it is handed, the call returns true, and its arguments read as before. Conditions: the package variables that its code's text names read as the row's laid data; the card ties these data to the program's text (later looks). -/
import Derived.Test.YtmcepfimcedocaaDoorRows
import Derived.Test.YtmcepfimcedocaaDoorM20
import Derived.Test.YtmcepfimcedocaaDoorM1
import Derived.WalkKit
import Derived.ProofKit
import Derived.OpenShut
import Derived.ShutString
import Derived.ChangeOld
import Derived.Below
import Derived.SizedLaws
import Derived.Carry
import Derived.LaidMore
import Derived.Lib.LaidTab
import Derived.Stop.Joined
import Derived.SevenTiedAt
import Derived.Test.YtmcepfimcedocaaDoorTie
import Derived.Test.YtmcepfimcedocaaDoorCards
namespace Go.Proofs.YtmcepfimcedocaaDoor.fnExactFormatSystem
open Go.ChangeShapes Go.WideShapes Go.ChangeAt Go.RowKit Go.Proofs.YtmcepfimcedocaaDoor.P Go.Proofs.YtmcepfimcedocaaDoorW.PrintWords Go.Proofs.YtmcepfimcedocaaDoorW.PrintLast
open Go.ChangeMaps (open_string shut_string)
theorem own : ownKnob Tryd.prog.godebug = none := by kernel_rfl
theorem laidOut : laidOutB Tryd.prog = true := by kernel_rfl
/-- The door's own heap meets the condition. -/
theorem door_met (os : Os) (args : Array Value) : laidMetH Tryd.prog Rows.fnExactFormatSystemRow.laid ((World.doorLaid Tryd.prog 400 os).forCall (fun _ _ => 0) ⟨#[], args, []⟩).memory :=
  laidMetH_of_parts3 (fuel := 8) (laidMet_of_run' 8 (by kernel_rfl) (by kernel_rfl)) (by kernel_rfl) (by kernel_rfl)
set_option maxRecDepth 100000 in
theorem lifted (os : Os) (started : os.Started) (H : Type) (enc : TypeId × Value → H) :
    ReturnsInHanded {} Tryd.checked os 3 .any (fun w args => (Rows.fnExactFormatSystemSpec.pre enc Tryd.prog Tryd.f3 [] false w args ∧ laidMetH Tryd.prog Rows.fnExactFormatSystemRow.laid w) ∧ sizedMet enc Tryd.prog Tryd.f3 (OpenSpec.ofChange Rows.fnExactFormatSystemSpec) false w args) (Rows.fnExactFormatSystemSpec.post enc Tryd.prog Tryd.f3 false true false false) := by
  refine returnsInHanded_of_change_and (C := Tryd.checked) (X := fun w _ => laidMetH Tryd.prog Rows.fnExactFormatSystemRow.laid w) (fun _ _ _ hh h => h.of_heap hh) own started (by kernel_rfl) Tryd.func3
    (ChangeSpec.witness_shaped (enc := enc) (C := Tryd.checked) (os := os) (X := fun w _ => laidMetH Tryd.prog Rows.fnExactFormatSystemRow.laid w) false (World.doorLaid Tryd.prog 400 os) #[.agg #[.int .i64 0, .slice none 0 0, .slice none 0 0, .slice none 0 0]] 8 rfl (World.shaped_of_RefB (by kernel_rfl) (by kernel_rfl)) (by kernel_rfl) (by kernel_rfl) (by kernel_rfl) (door_met os _)) ?_
  intro W base args ds gs before hval0 hW hcnd hsz0 hL _
  have hval : ∀ (j : Nat) t v, Tryd.f3.params[j]? = some t → args[j]? = some v → Value.okWide Tryd.prog W .any base t v := hval0
  have hW' := hW
  obtain ⟨p, q, hA0, hV, rfl, hfz, hnd⟩ := hW
  have hA : DataW.TrodAll enc Tryd.prog W 0 (fun _ => true) true Tryd.f3.params.toList args.toList ds p := hA0
  rw [Tryd.params3] at hA hval
  obtain ⟨v0, vs0, d0, ds0, p0, q0, hargs, rfl, rfl, h0, r0⟩ := trodAll_cons hA
  obtain ⟨rfl, rfl, rfl⟩ := trodAll_nil r0
  obtain rfl : args = #[v0] := by cases args; simp_all
  obtain ⟨rfl, rfl⟩ := trodVars_none hV
  have k0 := h0
  have lt0 : ∀ x ∈ p0, x.block < W.heap.size := by obtain ⟨m, hm⟩ := k0; exact DataW.trod_lt m _ _ _ hm
  obtain ⟨cs0, rfl, hsz0⟩ := okWide_struct Tryd.underlying25 (hval 0 25 v0 rfl rfl)
  obtain ⟨fuel0, hf0⟩ := h0
  obtain ⟨y0, hK0, hw0⟩ := opens_25 H enc W fuel0 _ _ hf0
  obtain ⟨A0_1, c0_1, A0_2, c0_2, A0_3, c0_3, e0, hc0_1, hC0_1, hc0_2, hC0_2, hc0_3, hC0_3⟩ := k25_open hK0
  obtain rfl : cs0 = #[.int .i64 y0.f0, .slice A0_1 y0.f1.length c0_1, .slice A0_2 y0.f2.length c0_2, .slice A0_3 y0.f3.length c0_3] := Array.toList_inj.1 e0
  obtain ⟨k, hP⟩ := Pure.FnExactFormatSystem y0.f0 y0.f1 y0.f2 y0.f3 (Wf25.out hw0).1 (Wf25.out hw0).2.1 (Wf25.out hw0).2.2.1 (Wf25.out hw0).2.2.2
  clear hA0 hval0 hsz0 hval hcnd
  refine (laws_FnExactFormatSystem.calls k y0.f0 _ _ y0.f1 _ _ y0.f2 _ _ y0.f3 true W hC0_1 hc0_1 hC0_2 hc0_2 hC0_3 hc0_3 hP rfl).mono fun e W' ⟨he, bel0⟩ => ?_
  have bel : Below W.heap.size W W' := bel0
  subst he
  exact ⟨_, rfl, _, _, _, [], _, [], hW', trodAll_mk1 (shut_bool Tryd.underlying4 _), (trodAll_cons_mk (Below.trod laidOut (by kernel_rfl) (of_decide_eq_true (by kernel_rfl)) k0 bel lt0) trodAll_mk0), rfl, bel.frame _, fun h => by cases h⟩
theorem over : Rows.fnExactFormatSystemRow.holds Tryd.pinned (OpenSpec.ofChange Rows.fnExactFormatSystemSpec) :=
  OpenClaim.holds_of_wide 3 Tryd.f3 rfl rfl rfl rfl rfl rfl rfl ⟨rfl, rfl, rfl, rfl, rfl⟩ rfl rfl rfl rfl rfl (by kernel_rfl) Tryd.func3 (by kernel_rfl)
    (of_decide_eq_true (by kernel_rfl)) (by unfold Func.isWrapper; first | (rw [if_pos (by decide +kernel)]; kernel_rfl) | (rw [if_neg (by decide +kernel)]; exact ⟨rfl, rfl⟩))
    (fun os started H enc _ => lifted os started H enc)
end Go.Proofs.YtmcepfimcedocaaDoor.fnExactFormatSystem
namespace Go.Proofs.YtmcepfimcedocaaDoor
/-- The tied card, for the claim. -/
theorem fnExactFormatSystem_holds : Rows.FnExactFormatSystemCardSaid :=
  Claim7.holds_tied_plain_at .later [] [.data, .data, .data] true (true, "3cdabb00bc852aa692a489fc453945d513e743e7c20b4df41b8dc0f130581eb9") false
    fnExactFormatSystem.over (fun _ h => by cases h) (by kernel_rfl) (fun _ h => by cases h) fnExactFormatSystem_row_tie rfl ⟨rfl, rfl⟩ (by kernel_rfl) rfl
    (fun f fn hf hfn => by
      obtain rfl : f = 3 := Option.some.inj ((show Tryd.prog.funcNamed "loop.example/g03111/laws.FnExactFormatSystem" = some 3 by kernel_rfl).symm.trans hf) |>.symm
      obtain rfl : fn = Tryd.f3 := (Option.some.inj (Tryd.func3.symm.trans hfn)).symm
      exact ⟨by kernel_rfl, fun j t ht => by
        rw [Tryd.params3] at ht
        rcases j with _ | j
        · obtain rfl : t = 25 := by simpa using ht.symm
          exact (show Tryd.prog.wantsStandIn 25 = false by kernel_rfl)
        · simp at ht⟩)
    (by kernel_rfl)
#print axioms fnExactFormatSystem_holds
end Go.Proofs.YtmcepfimcedocaaDoor
