/- FnExactParseSystem: the pure statement. -/
import Derived.Test.YtmcepfimcedocaaDoorPf4
import Derived.Test.YtmcepfimcedocaaDoorB51
set_option linter.unusedSimpArgs false
set_option linter.unusedVariables false
namespace Go.Proofs.YtmcepfimcedocaaDoor.Pure
open Go.RowKit Go.Proofs.YtmcepfimcedocaaDoor.P Go.Proofs.YtmcepfimcedocaaDoorW.PrintWords Go.Proofs.YtmcepfimcedocaaDoorW.PrintLast
theorem FnExactParseSystem : laws_FnExactParseSystem.Pure := by
  intro x hx
  refine evRounds ?_
  unfold laws_FnExactParseSystem.f
  by_cases c : (x.size : Int) > 1048576
  · simp only [if_pos c]; exact Ev.now _
  · simp only [if_neg c]
    obtain ⟨r1, r2, r3, r4, r5, ⟨q1, q2, q3⟩, s1, s2⟩ := parseBoth x (by omega)
    have er := eqSystem r1 r2 r3 r4 q1 q2 q3
    have held := heldSys r1 r2.length r3.length r4.length 1 q1 q2 q3 (by decide) (by decide)
    have nn : ¬ (1 + (r2.length : Int) + r3.length + r4.length < 0) := by omega
    refine Ev.bind s1 (Ev.bind s2 (Ev.bind er ?_))
    simp only [if_true]
    refine Ev.step (f := fun k => (laws_markSystem.f k r1 r2 r3 r4 1).bind fun m => (laws_heldSystem.f k r1 m.2.1 m.2.2.1 m.2.2.2 1).bind fun t => if t < 0 then some false else if t = m.1 then (impl_ParseSystem.f k x).bind fun w => (laws_eqSystem.f k w.1 w.2.1 w.2.2.1 w.2.2.2.1 r1 r2 r3 r4).bind fun e => if e = true then laws_FnExactParseSystem.j1 k m.1 (w.2.2.2.2 != r5) r1 m.2.1 m.2.2.1 m.2.2.2 else laws_FnExactParseSystem.j1 k m.1 true r1 m.2.1 m.2.2.1 m.2.2.2 else some false) (fun k => ?_) (Ev.bind (markSys r1 r2 r3 r4 1 q1 q2 q3 (by decide) (by decide)) (Ev.bind held ?_))
    · simp only [laws_FnExactParseSystem.j0, bne_self_eq_false, Bool.false_eq_true, if_false]
    · simp only [if_neg nn, if_true]
      refine Ev.bind s2 (Ev.bind er ?_)
      simp only [if_true]
      refine Ev.step (f := fun k => (laws_heldSystem.f k r1 (marks 1 r2.length) (marks (1 + r2.length) r3.length) (marksB (1 + r2.length + r3.length) r4.length) 1).bind fun t => if t < 0 then some false else if t = 1 + (r2.length : Int) + r3.length + r4.length then some true else some false) (fun k => ?_) (Ev.bind held ?_)
      · simp only [laws_FnExactParseSystem.j1, bne_self_eq_false, Bool.false_eq_true, if_false]
      · simp only [if_neg nn, if_true]; exact Ev.now _
end Go.Proofs.YtmcepfimcedocaaDoor.Pure
