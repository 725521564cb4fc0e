/- Written by a program of this session over the kit's print: YtihknjmibnonjaaDoorF48. -/
import Derived.Test.YtihknjmibnonjaaDoorH
namespace Go.Proofs.YtihknjmibnonjaaDoor.X
open Go.RowKit Go.Proofs.YtihknjmibnonjaaDoorW.PrintWords Go.Proofs.YtihknjmibnonjaaDoorW.PrintLast Go.Proofs.YtihknjmibnonjaaDoorW.PrintMore Go.Proofs.YtihknjmibnonjaaDoor.More
attribute [local go_sem] max2_int min2_int max_two min_two max_three min_three max_four min_four binOp_string_leq binOp_string_gtr   -- for this text's walks alone
set_option linter.unusedVariables false
set_option linter.unusedSimpArgs false

/-! ### audit_word: function 48 -/
def audit_word.f (a0 : ByteArray) : Option (ByteArray) := if a0.toList = ([] : List UInt8) then (some (⟨#[45]⟩ : ByteArray)) else (some a0)
set_option maxHeartbeats 8000000 in
set_option maxRecDepth 100000 in
theorem audit_word.calls (a0 : ByteArray) (r : ByteArray) (w : World) (h : audit_word.f a0 = some r) :
    Calls Tryd.prog 48 #[.string a0] w fun e w' => e = .returned (.string r) ∧ Drawn0 w w' := by
  have H : (if a0.toList = ([] : List UInt8) then (some (⟨#[45]⟩ : ByteArray)) else (some a0)) = some r := h
  clear h
  by_cases c2 : a0.toList = ([] : List UInt8)
  · rw [if_pos c2] at H
    have c2b0 : (a0.toList == ([] : List UInt8)) = true := beq_iff_eq.mpr c2
    have c2b1 : (a0.toList != ([] : List UInt8)) = false := bne_eq_false_iff_eq.mpr c2
    clear c2
    obtain rfl := Option.some.inj H
    go_enter Tryd.func48, Tryd.ntmps48
    go_wp2
    go_ret
    exact ⟨by first | rfl | (simp; done) | (simp [*]; done), by repeat (first | exact Drawn0.refl _ | apply Drawn0.step)⟩
  · rw [if_neg c2] at H
    have c2b0 : (a0.toList == ([] : List UInt8)) = false := beq_eq_false_iff_ne.mpr c2
    have c2b1 : (a0.toList != ([] : List UInt8)) = true := bne_iff_ne.mpr c2
    obtain rfl := Option.some.inj H
    go_enter Tryd.func48, Tryd.ntmps48
    go_wp2
    go_ret
    exact ⟨by first | rfl | (simp; done) | (simp [*]; done), by repeat (first | exact Drawn0.refl _ | apply Drawn0.step)⟩

end Go.Proofs.YtihknjmibnonjaaDoor.X
