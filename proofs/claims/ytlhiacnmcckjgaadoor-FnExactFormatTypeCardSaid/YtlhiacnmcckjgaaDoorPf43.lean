-- by hand: strconv.Itoa, below 100
import Derived.Test.YtlhiacnmcckjgaaDoorP0
import Derived.Test.YtlhiacnmcckjgaaDoorS0
/-! short words -/
namespace Go.Proofs.YtlhiacnmcckjgaaDoor.P
open Go.RowKit Go.Proofs.YtlhiacnmcckjgaaDoorW.PrintWords Go.Proofs.YtlhiacnmcckjgaaDoorW.PrintLast Go.Proofs.YtlhiacnmcckjgaaDoorW.PrintMore
/-! ### strconv_Itoa_43: function 43 (by hand) -/
def strconv_Itoa_43.f (a0 : Int) : Option ByteArray := if 0 ≤ a0 then (if a0 < 100 then some (⟨(Go.Lib.decDigits a0.toNat).toArray⟩ : ByteArray) else none) else none
theorem strconv_Itoa_43.calls (a0 : Int) (r : ByteArray) (w : World) (h : strconv_Itoa_43.f a0 = some r) :
  Calls Tryd.prog 43 #[.int .i64 a0] w fun e w' => e = .returned (.string r) ∧ Drawn0 w w' := by
 unfold strconv_Itoa_43.f at h
 by_cases c : 0 ≤ a0
 ·rw [if_pos c] at h
  by_cases c1 : a0 < 100
  ·rw [if_pos c1] at h
   obtain rfl := Option.some.inj h
   obtain ⟨i, rfl⟩ := Int.eq_ofNat_of_zero_le c
   refine (itoa_small i (by omega) w).mono fun e w' ⟨he, hw⟩ => ?_
   subst he hw
   exact ⟨rfl, Drawn0.refl _⟩
  rw [if_neg c1] at h; cases h
 rw [if_neg c] at h; cases h
end Go.Proofs.YtlhiacnmcckjgaaDoor.P
