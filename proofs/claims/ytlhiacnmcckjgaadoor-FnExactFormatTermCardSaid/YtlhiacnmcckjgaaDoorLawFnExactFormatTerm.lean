/- The law FnExactFormatTerm holds for every input: whatever it is handed, the call returns true, and its arguments read as before. Conditions: the package variables that its code's text names read as the row's laid data; the card ties these data to the program's text (later looks). -/
import Derived.Test.YtlhiacnmcckjgaaDoorRows
import Derived.Test.YtlhiacnmcckjgaaDoorM11
import Derived.Test.YtlhiacnmcckjgaaDoorM1
import Derived.WalkKit
import Derived.ProofKit
import Derived.OpenShut
import Derived.ShutString
import Derived.ChangeOld
import Derived.Below
import Derived.SizedLaws
import Derived.Carry
import Derived.LaidMore
import Derived.Lib.LaidTab
import Derived.Stop.Joined
import Derived.SevenTiedAt
import Derived.Test.YtlhiacnmcckjgaaDoorTie
import Derived.Test.YtlhiacnmcckjgaaDoorCards
namespace Go.Proofs.YtlhiacnmcckjgaaDoor.fnExactFormatTerm
open Go.ChangeShapes Go.WideShapes Go.ChangeAt Go.RowKit Go.Proofs.YtlhiacnmcckjgaaDoor.P Go.Proofs.YtlhiacnmcckjgaaDoorW.PrintWords Go.Proofs.YtlhiacnmcckjgaaDoorW.PrintLast
open Go.ChangeMaps (open_string shut_string)
theorem own : ownKnob Tryd.prog.godebug = none := by kernel_rfl
theorem laidOut : laidOutB Tryd.prog = true := by kernel_rfl
/-- The door's own heap meets the condition. -/
theorem door_met (os : Os) (args : Array Value) : laidMetH Tryd.prog Rows.fnExactFormatTermRow.laid ((World.doorLaid Tryd.prog 400 os).forCall (fun _ _ => 0) ⟨#[], args, []⟩).memory :=
  laidMetH_of_parts3 (fuel := 8) (laidMet_of_run' 8 (by kernel_rfl) (by kernel_rfl)) (by kernel_rfl) (by kernel_rfl)
/-- The row's condition lays the table of the powers of ten. -/
theorem tabs_of {W : World} (h : laidMetH Tryd.prog Rows.fnExactFormatTermRow.laid W) : Tabs W := by
  rw [MakeChecks.laidMetH_plain _ _ _ (by kernel_rfl)] at h
  obtain ⟨ps, ⟨g0, t0, cs0, f0, p0, q0, hg0, ht0, hv0, hd0, ⟨g1, t1, cs1, f1, p1, q1, hg1, ht1, hv1, hd1, ⟨g2, t2, cs2, f2, p2, q2, hg2, ht2, hv2, hd2, _, _⟩, _⟩, _⟩, _, _⟩ := h
  obtain rfl := Option.some.inj ((show Tryd.prog.globalNamed "internal/strconv.uint64pow10" = some 0 by kernel_rfl).symm.trans hg2)
  obtain rfl := Option.some.inj ((show (Tryd.prog.globals[0]?).map (·.type) = some 82 by kernel_rfl).symm.trans ht2)
  have e := Go.Lib.cells_of_tab (k := .u64) (zs := Go.Lib.pow10Tab) Tryd.underlying82 Tryd.underlying76 (by kernel_rfl) (by kernel_rfl) hd2
  unfold Tabs Go.Lib.TabIs
  rw [hv2, ← e]
set_option maxRecDepth 100000 in
theorem lifted (os : Os) (started : os.Started) (H : Type) (enc : TypeId × Value → H) :
    ReturnsInHanded {} Tryd.checked os 4 .any (fun w args => (Rows.fnExactFormatTermSpec.pre enc Tryd.prog Tryd.f4 [] false w args ∧ laidMetH Tryd.prog Rows.fnExactFormatTermRow.laid w) ∧ sizedMet enc Tryd.prog Tryd.f4 (OpenSpec.ofChange Rows.fnExactFormatTermSpec) false w args) (Rows.fnExactFormatTermSpec.post enc Tryd.prog Tryd.f4 false true false false) := by
  refine returnsInHanded_of_change_and (C := Tryd.checked) (X := fun w _ => laidMetH Tryd.prog Rows.fnExactFormatTermRow.laid w) (fun _ _ _ hh h => h.of_heap hh) own started (by kernel_rfl) Tryd.func4
    (ChangeSpec.witness_shaped (enc := enc) (C := Tryd.checked) (os := os) (X := fun w _ => laidMetH Tryd.prog Rows.fnExactFormatTermRow.laid w) false (World.doorLaid Tryd.prog 400 os) #[.agg #[.int .i64 0, .int .i64 0, .slice none 0 0, .slice none 0 0]] 8 rfl (World.shaped_of_RefB (by kernel_rfl) (by kernel_rfl)) (by kernel_rfl) (by kernel_rfl) (by kernel_rfl) (door_met os _)) ?_
  intro W base args ds gs before hval0 hW hcnd hsz0 hL _
  have hval : ∀ (j : Nat) t v, Tryd.f4.params[j]? = some t → args[j]? = some v → Value.okWide Tryd.prog W .any base t v := hval0
  have hW' := hW
  obtain ⟨p, q, hA0, hV, rfl, hfz, hnd⟩ := hW
  have hA : DataW.TrodAll enc Tryd.prog W 0 (fun _ => true) true Tryd.f4.params.toList args.toList ds p := hA0
  rw [Tryd.params4] at hA hval
  obtain ⟨v0, vs0, d0, ds0, p0, q0, hargs, rfl, rfl, h0, r0⟩ := trodAll_cons hA
  obtain ⟨rfl, rfl, rfl⟩ := trodAll_nil r0
  obtain rfl : args = #[v0] := by cases args; simp_all
  obtain ⟨rfl, rfl⟩ := trodVars_none hV
  have k0 := h0
  have lt0 : ∀ x ∈ p0, x.block < W.heap.size := by obtain ⟨m, hm⟩ := k0; exact DataW.trod_lt m _ _ _ hm
  obtain ⟨cs0, rfl, hsz0⟩ := okWide_struct Tryd.underlying29 (hval 0 29 v0 rfl rfl)
  obtain ⟨fuel0, hf0⟩ := h0
  obtain ⟨y0, hK0, hw0⟩ := opens_29 H enc W fuel0 _ _ hf0
  obtain ⟨A0_2, c0_2, A0_3, c0_3, e0, hc0_2, hC0_2, hc0_3, hC0_3⟩ := k29_open hK0
  obtain rfl : cs0 = #[.int .i64 y0.f0, .int .i64 y0.f1, .slice A0_2 y0.f2.length c0_2, .slice A0_3 y0.f3.length c0_3] := Array.toList_inj.1 e0
  obtain ⟨k, hP⟩ := Pure.FnExactFormatTerm y0.f0 y0.f1 y0.f2 y0.f3 (Wf29.out hw0).1 (Wf29.out hw0).2.1 (Wf29.out hw0).2.2.1 (Wf29.out hw0).2.2.2
  clear hA0 hval0 hsz0 hval hcnd
  refine (laws_FnExactFormatTerm.calls k y0.f0 y0.f1 _ _ y0.f2 _ _ y0.f3 true W hC0_2 hc0_2 hC0_3 hc0_3 (tabs_of hL) hP rfl).mono fun e W' ⟨he, bel0⟩ => ?_
  have bel : Below W.heap.size W W' := bel0
  subst he
  exact ⟨_, rfl, _, _, _, [], _, [], hW', trodAll_mk1 (shut_bool Tryd.underlying4 _), (trodAll_cons_mk (Below.trod laidOut (by kernel_rfl) (of_decide_eq_true (by kernel_rfl)) k0 bel lt0) trodAll_mk0), rfl, bel.frame _, fun h => by cases h⟩
theorem over : Rows.fnExactFormatTermRow.holds Tryd.pinned (OpenSpec.ofChange Rows.fnExactFormatTermSpec) :=
  OpenClaim.holds_of_wide 4 Tryd.f4 rfl rfl rfl rfl rfl rfl rfl ⟨rfl, rfl, rfl, rfl, rfl⟩ rfl rfl rfl rfl rfl (by kernel_rfl) Tryd.func4 (by kernel_rfl)
    (of_decide_eq_true (by kernel_rfl)) (by unfold Func.isWrapper; first | (rw [if_pos (by decide +kernel)]; kernel_rfl) | (rw [if_neg (by decide +kernel)]; exact ⟨rfl, rfl⟩))
    (fun os started H enc _ => lifted os started H enc)
end Go.Proofs.YtlhiacnmcckjgaaDoor.fnExactFormatTerm
namespace Go.Proofs.YtlhiacnmcckjgaaDoor
/-- The tied card, for the claim. -/
theorem fnExactFormatTerm_holds : Rows.FnExactFormatTermCardSaid :=
  Claim7.holds_tied_plain_at .later [] [.data, .data, .data] true (true, "564897ef906a9fe6efb3c6352d53d80327cda087dcac022f08929122e7b73160") false
    fnExactFormatTerm.over (fun _ h => by cases h) (by kernel_rfl) (fun _ h => by cases h) fnExactFormatTerm_row_tie rfl ⟨rfl, rfl⟩ (by kernel_rfl) rfl
    (fun f fn hf hfn => by
      obtain rfl : f = 4 := Option.some.inj ((show Tryd.prog.funcNamed "loop.example/g03111/laws.FnExactFormatTerm" = some 4 by kernel_rfl).symm.trans hf) |>.symm
      obtain rfl : fn = Tryd.f4 := (Option.some.inj (Tryd.func4.symm.trans hfn)).symm
      exact ⟨by kernel_rfl, fun j t ht => by
        rw [Tryd.params4] at ht
        rcases j with _ | j
        · obtain rfl : t = 29 := by simpa using ht.symm
          exact (show Tryd.prog.wantsStandIn 29 = false by kernel_rfl)
        · simp at ht⟩)
    (by kernel_rfl)
#print axioms fnExactFormatTerm_holds
end Go.Proofs.YtlhiacnmcckjgaaDoor
