/- Written by a program of this session over the kit's print: YtophnhmlknbmeaaDoorF28. -/
import Derived.Test.YtophnhmlknbmeaaDoorH
import Derived.Test.YtophnhmlknbmeaaDoorF25
namespace Go.Proofs.YtophnhmlknbmeaaDoor.X
open Go.RowKit Go.Proofs.YtophnhmlknbmeaaDoorW.PrintWords Go.Proofs.YtophnhmlknbmeaaDoorW.PrintLast Go.Proofs.YtophnhmlknbmeaaDoorW.PrintMore Go.Proofs.YtophnhmlknbmeaaDoor.More
attribute [local go_sem] max2_int min2_int max_two min_two max_three min_three max_four min_four binOp_string_leq binOp_string_gtr   -- for this text's walks alone
set_option linter.unusedVariables false
set_option linter.unusedSimpArgs false

/-! ### acl_who: function 28 -/
def acl_who.f (a0 : ByteArray) : Option (Bool) := if a0.toList = ([42] : List UInt8) then (some true) else ((path_Name.f a0).bind fun t101 => (some t101))
set_option maxHeartbeats 8000000 in
set_option maxRecDepth 100000 in
theorem acl_who.calls (a0 : ByteArray) (r : Bool) (w : World) (h : acl_who.f a0 = some r) :
    Calls Tryd.prog 28 #[.string a0] w fun e w' => e = .returned (.bool r) ∧ Below w.heap.size w w' := by
  have HB := Aside0.mk (Below.refl w.heap.size w)
  have H : (if a0.toList = ([42] : List UInt8) then (some true) else ((path_Name.f a0).bind fun t101 => (some t101))) = some r := h
  clear h
  by_cases c2 : a0.toList = ([42] : List UInt8)
  · rw [if_pos c2] at H
    have c2b0 : (a0.toList == ([42] : List UInt8)) = true := beq_iff_eq.mpr c2
    have c2b1 : (a0.toList != ([42] : List UInt8)) = false := bne_eq_false_iff_eq.mpr c2
    clear c2
    obtain rfl := Option.some.inj H
    go_enter Tryd.func28, Tryd.ntmps28
    go_wp2
    go_ret
    exact ⟨by first | rfl | (simp [errW_none, errW_some] <;> rfl) | (simp [*, errW_none, errW_some] <;> rfl), by repeat (first | (with_reducible first | exact HB.out | apply below_alloc | apply pw_below_drewN | apply below_drew1) | exact HB.out)⟩
  · rw [if_neg c2] at H
    have c2b0 : (a0.toList == ([42] : List UInt8)) = false := beq_eq_false_iff_ne.mpr c2
    have c2b1 : (a0.toList != ([42] : List UInt8)) = true := bne_iff_ne.mpr c2
    replace H := Option.bind_eq_some_iff.mp H
    obtain ⟨t101, A30, H⟩ := H
    replace H : (some t101) = some r := H
    have A3 := Aside0.mk A30
    clear A30
    obtain rfl := Option.some.inj H
    go_enter Tryd.func28, Tryd.ntmps28
    go_wp2_with (first | (go_at_call 25; (with_reducible refine (path_Name.calls a0 t101 _ A3.out).mono ?_); rintro e w4 ⟨rfl, hb⟩; have n0_ := Aside0.mk (below_step (by repeat (first | (with_reducible first | exact HB.out | apply below_alloc | apply pw_below_drewN | apply below_drew1) | exact HB.out)) hb); clear HB; have HB := n0_; clear n0_; (try clear hb); (try clear hb2); (try clear hk); (try clear hi)))
    go_ret
    exact ⟨by first | rfl | (simp [errW_none, errW_some] <;> rfl) | (simp [*, errW_none, errW_some] <;> rfl), by repeat (first | (with_reducible first | exact HB.out | apply below_alloc | apply pw_below_drewN | apply below_drew1) | exact HB.out)⟩

end Go.Proofs.YtophnhmlknbmeaaDoor.X
