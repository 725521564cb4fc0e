/- Parts that several texts share: F48, F69, F70, F71, F49, BigSt, PLab4, MapL, ALog, AAdd, AText, PAud, ALaw, ALaw2, PHash, PHashOf, AChain, PEnc, QLess, QSort, ASeen. -/
import Derived.Test.YtihknjmibnonjaaDoorH
import Derived.Test.YtihknjmibnonjaaDoorWMore
import Derived.Laws.Tables
import Derived.Laws.CopyOwn
import Derived.Test.YtihknjmibnonjaaDoorF9
import Derived.Maps.RangeWalk
import Derived.DeepKeys4
import Derived.WideKeyEntry
import Derived.Laws.Cover3
import Derived.Deep.RegionLaw
import Derived.Test.YtihknjmibnonjaaDoorF31
import Derived.Test.YtihknjmibnonjaaDoorLib
import Derived.Test.YtihknjmibnonjaaDoorF47
import Derived.Test.YtihknjmibnonjaaDoorF12
import Derived.Test.YtihknjmibnonjaaDoorF37
import Derived.Test.YtihknjmibnonjaaDoorBits
import Derived.Test.YtihknjmibnonjaaDoorF36
import Derived.Test.YtihknjmibnonjaaDoorF16
import Derived.Test.YtihknjmibnonjaaDoorF38
import Derived.Test.YtihknjmibnonjaaDoorF18
import Derived.WalkKit
import Derived.BigCall
import Derived.Deep.RegionWith
import Derived.Deep.DeepCutAuto
import Derived.Deep.QuietTactic
import Derived.BigQuiet
import Derived.Deep.DrawnRows
import Derived.Sort.Grow
import Derived.Shelf.SlSortCmp.NoneTotal
import Derived.Test.YtihknjmibnonjaaDoorF39
section
/- Written by a program of this session over the kit's print: YtihknjmibnonjaaDoorF48. -/
namespace Go.Proofs.YtihknjmibnonjaaDoor.X
open Go.RowKit Go.Proofs.YtihknjmibnonjaaDoorW.PrintWords Go.Proofs.YtihknjmibnonjaaDoorW.PrintLast Go.Proofs.YtihknjmibnonjaaDoorW.PrintMore Go.Proofs.YtihknjmibnonjaaDoor.More
attribute [local go_sem] max2_int min2_int max_two min_two max_three min_three max_four min_four binOp_string_leq binOp_string_gtr   -- for this text's walks alone
set_option linter.unusedVariables false
set_option linter.unusedSimpArgs false

/-! ### audit_word: function 48 -/
def audit_word.f (a0 : ByteArray) : Option (ByteArray) := if a0.toList = ([] : List UInt8) then (some (⟨#[45]⟩ : ByteArray)) else (some a0)
set_option maxHeartbeats 8000000 in
set_option maxRecDepth 100000 in
theorem audit_word.calls (a0 : ByteArray) (r : ByteArray) (w : World) (h : audit_word.f a0 = some r) :
  Calls Tryd.prog 48 #[.string a0] w fun e w' => e = .returned (.string r) ∧ Drawn0 w w' := by
 have H : (if a0.toList = ([] : List UInt8) then (some (⟨#[45]⟩ : ByteArray)) else (some a0)) = some r := h
 clear h
 by_cases c2 : a0.toList = ([] : List UInt8)
 ·rw [if_pos c2] at H
  have c2b0 : (a0.toList == ([] : List UInt8)) = true := beq_iff_eq.mpr c2
  have c2b1 : (a0.toList != ([] : List UInt8)) = false := bne_eq_false_iff_eq.mpr c2
  clear c2
  obtain rfl := Option.some.inj H
  go_enter Tryd.func48, Tryd.ntmps48
  go_wp2
  go_ret
  exact ⟨by first | rfl | (simp; done) | (simp [*]; done), by repeat (first | exact Drawn0.refl _ | apply Drawn0.step)⟩
 ·rw [if_neg c2] at H
  have c2b0 : (a0.toList == ([] : List UInt8)) = false := beq_eq_false_iff_ne.mpr c2
  have c2b1 : (a0.toList != ([] : List UInt8)) = true := bne_iff_ne.mpr c2
  obtain rfl := Option.some.inj H
  go_enter Tryd.func48, Tryd.ntmps48
  go_wp2
  go_ret
  exact ⟨by first | rfl | (simp; done) | (simp [*]; done), by repeat (first | exact Drawn0.refl _ | apply Drawn0.step)⟩

end Go.Proofs.YtihknjmibnonjaaDoor.X
end

section
/- Written by a program of this session over the kit's print: YtihknjmibnonjaaDoorF69. -/
namespace Go.Proofs.YtihknjmibnonjaaDoor.X
open Go.RowKit Go.Proofs.YtihknjmibnonjaaDoorW.PrintWords Go.Proofs.YtihknjmibnonjaaDoorW.PrintLast Go.Proofs.YtihknjmibnonjaaDoorW.PrintMore Go.Proofs.YtihknjmibnonjaaDoor.More
attribute [local go_sem] max2_int min2_int max_two min_two max_three min_three max_four min_four binOp_string_leq binOp_string_gtr   -- for this text's walks alone
set_option linter.unusedVariables false
set_option linter.unusedSimpArgs false

/-! ### api_wordOfArgs: function 69 -/
def api_wordOfArgs.f (a0 : Int) : Option (ByteArray) := if a0 = 1 then (some (⟨#[97, 114, 103]⟩ : ByteArray)) else (if a0 = 2 then (some (⟨#[110, 111, 110, 101]⟩ : ByteArray)) else (if a0 = 3 then (some (⟨#[107, 105, 110, 100]⟩ : ByteArray)) else (if a0 = 4 then (some (⟨#[109, 97, 110, 121]⟩ : ByteArray)) else (if a0 = 5 then (some (⟨#[108, 111, 110, 103]⟩ : ByteArray)) else (if a0 = 6 then (some (⟨#[119, 111, 114, 100]⟩ : ByteArray)) else (if a0 = 7 then (some (⟨#[105, 115]⟩ : ByteArray)) else (if a0 = 8 then (some (⟨#[99, 117, 116]⟩ : ByteArray)) else (if a0 = 9 then (some (⟨#[109, 111, 114, 101]⟩ : ByteArray)) else (some (⟨#[101, 114, 114, 111, 114]⟩ : ByteArray))))))))))
set_option maxHeartbeats 8000000 in
set_option maxRecDepth 100000 in
theorem api_wordOfArgs.calls (a0 : Int) (r : ByteArray) (w : World) (h : api_wordOfArgs.f a0 = some r) :
  Calls Tryd.prog 69 #[.int .i64 a0] w fun e w' => e = .returned (.string r) ∧ Drawn0 w w' := by
 have H : (if a0 = 1 then (some (⟨#[97, 114, 103]⟩ : ByteArray)) else (if a0 = 2 then (some (⟨#[110, 111, 110, 101]⟩ : ByteArray)) else (if a0 = 3 then (some (⟨#[107, 105, 110, 100]⟩ : ByteArray)) else (if a0 = 4 then (some (⟨#[109, 97, 110, 121]⟩ : ByteArray)) else (if a0 = 5 then (some (⟨#[108, 111, 110, 103]⟩ : ByteArray)) else (if a0 = 6 then (some (⟨#[119, 111, 114, 100]⟩ : ByteArray)) else (if a0 = 7 then (some (⟨#[105, 115]⟩ : ByteArray)) else (if a0 = 8 then (some (⟨#[99, 117, 116]⟩ : ByteArray)) else (if a0 = 9 then (some (⟨#[109, 111, 114, 101]⟩ : ByteArray)) else (some (⟨#[101, 114, 114, 111, 114]⟩ : ByteArray))))))))))) = some r := h
 clear h
 by_cases c2 : a0 = 1
 ·rw [if_pos c2] at H
  have c2b0 : (a0 == 1) = true := beq_iff_eq.mpr c2
  have c2b1 : (a0 != 1) = false := bne_eq_false_iff_eq.mpr c2
  clear c2
  obtain rfl := Option.some.inj H
  go_enter Tryd.func69, Tryd.ntmps69
  go_wp2
  go_ret
  exact ⟨by first | rfl | (simp; done) | (simp [*]; done), by repeat (first | exact Drawn0.refl _ | apply Drawn0.step)⟩
 ·rw [if_neg c2] at H
  have c2b0 : (a0 == 1) = false := beq_eq_false_iff_ne.mpr c2
  have c2b1 : (a0 != 1) = true := bne_iff_ne.mpr c2
  by_cases c3 : a0 = 2
  ·rw [if_pos c3] at H
   have c3b0 : (a0 == 2) = true := beq_iff_eq.mpr c3
   have c3b1 : (a0 != 2) = false := bne_eq_false_iff_eq.mpr c3
   clear c3
   obtain rfl := Option.some.inj H
   go_enter Tryd.func69, Tryd.ntmps69
   go_wp2
   go_ret
   exact ⟨by first | rfl | (simp; done) | (simp [*]; done), by repeat (first | exact Drawn0.refl _ | apply Drawn0.step)⟩
  ·rw [if_neg c3] at H
   have c3b0 : (a0 == 2) = false := beq_eq_false_iff_ne.mpr c3
   have c3b1 : (a0 != 2) = true := bne_iff_ne.mpr c3
   by_cases c4 : a0 = 3
   ·rw [if_pos c4] at H
    have c4b0 : (a0 == 3) = true := beq_iff_eq.mpr c4
    have c4b1 : (a0 != 3) = false := bne_eq_false_iff_eq.mpr c4
    clear c4
    obtain rfl := Option.some.inj H
    go_enter Tryd.func69, Tryd.ntmps69
    go_wp2
    go_ret
    exact ⟨by first | rfl | (simp; done) | (simp [*]; done), by repeat (first | exact Drawn0.refl _ | apply Drawn0.step)⟩
   ·rw [if_neg c4] at H
    have c4b0 : (a0 == 3) = false := beq_eq_false_iff_ne.mpr c4
    have c4b1 : (a0 != 3) = true := bne_iff_ne.mpr c4
    by_cases c5 : a0 = 4
    ·rw [if_pos c5] at H
     have c5b0 : (a0 == 4) = true := beq_iff_eq.mpr c5
     have c5b1 : (a0 != 4) = false := bne_eq_false_iff_eq.mpr c5
     clear c5
     obtain rfl := Option.some.inj H
     go_enter Tryd.func69, Tryd.ntmps69
     go_wp2
     go_ret
     exact ⟨by first | rfl | (simp; done) | (simp [*]; done), by repeat (first | exact Drawn0.refl _ | apply Drawn0.step)⟩
    ·rw [if_neg c5] at H
     have c5b0 : (a0 == 4) = false := beq_eq_false_iff_ne.mpr c5
     have c5b1 : (a0 != 4) = true := bne_iff_ne.mpr c5
     by_cases c6 : a0 = 5
     ·rw [if_pos c6] at H
      have c6b0 : (a0 == 5) = true := beq_iff_eq.mpr c6
      have c6b1 : (a0 != 5) = false := bne_eq_false_iff_eq.mpr c6
      clear c6
      obtain rfl := Option.some.inj H
      go_enter Tryd.func69, Tryd.ntmps69
      go_wp2
      go_ret
      exact ⟨by first | rfl | (simp; done) | (simp [*]; done), by repeat (first | exact Drawn0.refl _ | apply Drawn0.step)⟩
     ·rw [if_neg c6] at H
      have c6b0 : (a0 == 5) = false := beq_eq_false_iff_ne.mpr c6
      have c6b1 : (a0 != 5) = true := bne_iff_ne.mpr c6
      by_cases c7 : a0 = 6
      ·rw [if_pos c7] at H
       have c7b0 : (a0 == 6) = true := beq_iff_eq.mpr c7
       have c7b1 : (a0 != 6) = false := bne_eq_false_iff_eq.mpr c7
       clear c7
       obtain rfl := Option.some.inj H
       go_enter Tryd.func69, Tryd.ntmps69
       go_wp2
       go_ret
       exact ⟨by first | rfl | (simp; done) | (simp [*]; done), by repeat (first | exact Drawn0.refl _ | apply Drawn0.step)⟩
      ·rw [if_neg c7] at H
       have c7b0 : (a0 == 6) = false := beq_eq_false_iff_ne.mpr c7
       have c7b1 : (a0 != 6) = true := bne_iff_ne.mpr c7
       by_cases c8 : a0 = 7
       ·rw [if_pos c8] at H
        have c8b0 : (a0 == 7) = true := beq_iff_eq.mpr c8
        have c8b1 : (a0 != 7) = false := bne_eq_false_iff_eq.mpr c8
        clear c8
        obtain rfl := Option.some.inj H
        go_enter Tryd.func69, Tryd.ntmps69
        go_wp2
        go_ret
        exact ⟨by first | rfl | (simp; done) | (simp [*]; done), by repeat (first | exact Drawn0.refl _ | apply Drawn0.step)⟩
       ·rw [if_neg c8] at H
        have c8b0 : (a0 == 7) = false := beq_eq_false_iff_ne.mpr c8
        have c8b1 : (a0 != 7) = true := bne_iff_ne.mpr c8
        by_cases c9 : a0 = 8
        ·rw [if_pos c9] at H
         have c9b0 : (a0 == 8) = true := beq_iff_eq.mpr c9
         have c9b1 : (a0 != 8) = false := bne_eq_false_iff_eq.mpr c9
         clear c9
         obtain rfl := Option.some.inj H
         go_enter Tryd.func69, Tryd.ntmps69
         go_wp2
         go_ret
         exact ⟨by first | rfl | (simp; done) | (simp [*]; done), by repeat (first | exact Drawn0.refl _ | apply Drawn0.step)⟩
        ·rw [if_neg c9] at H
         have c9b0 : (a0 == 8) = false := beq_eq_false_iff_ne.mpr c9
         have c9b1 : (a0 != 8) = true := bne_iff_ne.mpr c9
         by_cases c10 : a0 = 9
         ·rw [if_pos c10] at H
          have c10b0 : (a0 == 9) = true := beq_iff_eq.mpr c10
          have c10b1 : (a0 != 9) = false := bne_eq_false_iff_eq.mpr c10
          clear c10
          obtain rfl := Option.some.inj H
          go_enter Tryd.func69, Tryd.ntmps69
          go_wp2
          go_ret
          exact ⟨by first | rfl | (simp; done) | (simp [*]; done), by repeat (first | exact Drawn0.refl _ | apply Drawn0.step)⟩
         ·rw [if_neg c10] at H
          have c10b0 : (a0 == 9) = false := beq_eq_false_iff_ne.mpr c10
          have c10b1 : (a0 != 9) = true := bne_iff_ne.mpr c10
          obtain rfl := Option.some.inj H
          go_enter Tryd.func69, Tryd.ntmps69
          go_wp2
          go_ret
          exact ⟨by first | rfl | (simp; done) | (simp [*]; done), by repeat (first | exact Drawn0.refl _ | apply Drawn0.step)⟩

end Go.Proofs.YtihknjmibnonjaaDoor.X
end

section
/- Written by a program of this session over the kit's print: YtihknjmibnonjaaDoorF70. -/
namespace Go.Proofs.YtihknjmibnonjaaDoor.X
open Go.RowKit Go.Proofs.YtihknjmibnonjaaDoorW.PrintWords Go.Proofs.YtihknjmibnonjaaDoorW.PrintLast Go.Proofs.YtihknjmibnonjaaDoorW.PrintMore Go.Proofs.YtihknjmibnonjaaDoor.More
attribute [local go_sem] max2_int min2_int max_two min_two max_three min_three max_four min_four binOp_string_leq binOp_string_gtr   -- for this text's walks alone
set_option linter.unusedVariables false
set_option linter.unusedSimpArgs false

/-! ### api_wordOfSystem: function 70 -/
def api_wordOfSystem.f (a0 : Int) : Option (ByteArray) := if a0 = 11 then (some (⟨#[98, 97, 100]⟩ : ByteArray)) else (if a0 = 12 then (some (⟨#[100, 101, 97, 100]⟩ : ByteArray)) else (if a0 = 13 then (some (⟨#[102, 117, 108, 108]⟩ : ByteArray)) else (if a0 = 14 then (some (⟨#[98, 117, 115, 121]⟩ : ByteArray)) else (if a0 = 15 then (some (⟨#[108, 97, 98, 101, 108]⟩ : ByteArray)) else (if a0 = 16 then (some (⟨#[97, 99, 108]⟩ : ByteArray)) else (if a0 = 17 then (some (⟨#[113, 117, 111, 116, 97]⟩ : ByteArray)) else (if a0 = 18 then (some (⟨#[108, 111, 103]⟩ : ByteArray)) else (if a0 = 19 then (some (⟨#[114, 117, 108, 101]⟩ : ByteArray)) else (if a0 = 20 then (some (⟨#[108, 111, 103, 105, 110]⟩ : ByteArray)) else (if a0 = 21 then (some (⟨#[110, 97, 109, 101]⟩ : ByteArray)) else (some (⟨#[101, 114, 114, 111, 114]⟩ : ByteArray))))))))))))
set_option maxHeartbeats 8000000 in
set_option maxRecDepth 100000 in
theorem api_wordOfSystem.calls (a0 : Int) (r : ByteArray) (w : World) (h : api_wordOfSystem.f a0 = some r) :
  Calls Tryd.prog 70 #[.int .i64 a0] w fun e w' => e = .returned (.string r) ∧ Drawn0 w w' := by
 have H : (if a0 = 11 then (some (⟨#[98, 97, 100]⟩ : ByteArray)) else (if a0 = 12 then (some (⟨#[100, 101, 97, 100]⟩ : ByteArray)) else (if a0 = 13 then (some (⟨#[102, 117, 108, 108]⟩ : ByteArray)) else (if a0 = 14 then (some (⟨#[98, 117, 115, 121]⟩ : ByteArray)) else (if a0 = 15 then (some (⟨#[108, 97, 98, 101, 108]⟩ : ByteArray)) else (if a0 = 16 then (some (⟨#[97, 99, 108]⟩ : ByteArray)) else (if a0 = 17 then (some (⟨#[113, 117, 111, 116, 97]⟩ : ByteArray)) else (if a0 = 18 then (some (⟨#[108, 111, 103]⟩ : ByteArray)) else (if a0 = 19 then (some (⟨#[114, 117, 108, 101]⟩ : ByteArray)) else (if a0 = 20 then (some (⟨#[108, 111, 103, 105, 110]⟩ : ByteArray)) else (if a0 = 21 then (some (⟨#[110, 97, 109, 101]⟩ : ByteArray)) else (some (⟨#[101, 114, 114, 111, 114]⟩ : ByteArray))))))))))))) = some r := h
 clear h
 by_cases c2 : a0 = 11
 ·rw [if_pos c2] at H
  have c2b0 : (a0 == 11) = true := beq_iff_eq.mpr c2
  have c2b1 : (a0 != 11) = false := bne_eq_false_iff_eq.mpr c2
  clear c2
  obtain rfl := Option.some.inj H
  go_enter Tryd.func70, Tryd.ntmps70
  go_wp2
  go_ret
  exact ⟨by first | rfl | (simp; done) | (simp [*]; done), by repeat (first | exact Drawn0.refl _ | apply Drawn0.step)⟩
 ·rw [if_neg c2] at H
  have c2b0 : (a0 == 11) = false := beq_eq_false_iff_ne.mpr c2
  have c2b1 : (a0 != 11) = true := bne_iff_ne.mpr c2
  by_cases c3 : a0 = 12
  ·rw [if_pos c3] at H
   have c3b0 : (a0 == 12) = true := beq_iff_eq.mpr c3
   have c3b1 : (a0 != 12) = false := bne_eq_false_iff_eq.mpr c3
   clear c3
   obtain rfl := Option.some.inj H
   go_enter Tryd.func70, Tryd.ntmps70
   go_wp2
   go_ret
   exact ⟨by first | rfl | (simp; done) | (simp [*]; done), by repeat (first | exact Drawn0.refl _ | apply Drawn0.step)⟩
  ·rw [if_neg c3] at H
   have c3b0 : (a0 == 12) = false := beq_eq_false_iff_ne.mpr c3
   have c3b1 : (a0 != 12) = true := bne_iff_ne.mpr c3
   by_cases c4 : a0 = 13
   ·rw [if_pos c4] at H
    have c4b0 : (a0 == 13) = true := beq_iff_eq.mpr c4
    have c4b1 : (a0 != 13) = false := bne_eq_false_iff_eq.mpr c4
    clear c4
    obtain rfl := Option.some.inj H
    go_enter Tryd.func70, Tryd.ntmps70
    go_wp2
    go_ret
    exact ⟨by first | rfl | (simp; done) | (simp [*]; done), by repeat (first | exact Drawn0.refl _ | apply Drawn0.step)⟩
   ·rw [if_neg c4] at H
    have c4b0 : (a0 == 13) = false := beq_eq_false_iff_ne.mpr c4
    have c4b1 : (a0 != 13) = true := bne_iff_ne.mpr c4
    by_cases c5 : a0 = 14
    ·rw [if_pos c5] at H
     have c5b0 : (a0 == 14) = true := beq_iff_eq.mpr c5
     have c5b1 : (a0 != 14) = false := bne_eq_false_iff_eq.mpr c5
     clear c5
     obtain rfl := Option.some.inj H
     go_enter Tryd.func70, Tryd.ntmps70
     go_wp2
     go_ret
     exact ⟨by first | rfl | (simp; done) | (simp [*]; done), by repeat (first | exact Drawn0.refl _ | apply Drawn0.step)⟩
    ·rw [if_neg c5] at H
     have c5b0 : (a0 == 14) = false := beq_eq_false_iff_ne.mpr c5
     have c5b1 : (a0 != 14) = true := bne_iff_ne.mpr c5
     by_cases c6 : a0 = 15
     ·rw [if_pos c6] at H
      have c6b0 : (a0 == 15) = true := beq_iff_eq.mpr c6
      have c6b1 : (a0 != 15) = false := bne_eq_false_iff_eq.mpr c6
      clear c6
      obtain rfl := Option.some.inj H
      go_enter Tryd.func70, Tryd.ntmps70
      go_wp2
      go_ret
      exact ⟨by first | rfl | (simp; done) | (simp [*]; done), by repeat (first | exact Drawn0.refl _ | apply Drawn0.step)⟩
     ·rw [if_neg c6] at H
      have c6b0 : (a0 == 15) = false := beq_eq_false_iff_ne.mpr c6
      have c6b1 : (a0 != 15) = true := bne_iff_ne.mpr c6
      by_cases c7 : a0 = 16
      ·rw [if_pos c7] at H
       have c7b0 : (a0 == 16) = true := beq_iff_eq.mpr c7
       have c7b1 : (a0 != 16) = false := bne_eq_false_iff_eq.mpr c7
       clear c7
       obtain rfl := Option.some.inj H
       go_enter Tryd.func70, Tryd.ntmps70
       go_wp2
       go_ret
       exact ⟨by first | rfl | (simp; done) | (simp [*]; done), by repeat (first | exact Drawn0.refl _ | apply Drawn0.step)⟩
      ·rw [if_neg c7] at H
       have c7b0 : (a0 == 16) = false := beq_eq_false_iff_ne.mpr c7
       have c7b1 : (a0 != 16) = true := bne_iff_ne.mpr c7
       by_cases c8 : a0 = 17
       ·rw [if_pos c8] at H
        have c8b0 : (a0 == 17) = true := beq_iff_eq.mpr c8
        have c8b1 : (a0 != 17) = false := bne_eq_false_iff_eq.mpr c8
        clear c8
        obtain rfl := Option.some.inj H
        go_enter Tryd.func70, Tryd.ntmps70
        go_wp2
        go_ret
        exact ⟨by first | rfl | (simp; done) | (simp [*]; done), by repeat (first | exact Drawn0.refl _ | apply Drawn0.step)⟩
       ·rw [if_neg c8] at H
        have c8b0 : (a0 == 17) = false := beq_eq_false_iff_ne.mpr c8
        have c8b1 : (a0 != 17) = true := bne_iff_ne.mpr c8
        by_cases c9 : a0 = 18
        ·rw [if_pos c9] at H
         have c9b0 : (a0 == 18) = true := beq_iff_eq.mpr c9
         have c9b1 : (a0 != 18) = false := bne_eq_false_iff_eq.mpr c9
         clear c9
         obtain rfl := Option.some.inj H
         go_enter Tryd.func70, Tryd.ntmps70
         go_wp2
         go_ret
         exact ⟨by first | rfl | (simp; done) | (simp [*]; done), by repeat (first | exact Drawn0.refl _ | apply Drawn0.step)⟩
        ·rw [if_neg c9] at H
         have c9b0 : (a0 == 18) = false := beq_eq_false_iff_ne.mpr c9
         have c9b1 : (a0 != 18) = true := bne_iff_ne.mpr c9
         by_cases c10 : a0 = 19
         ·rw [if_pos c10] at H
          have c10b0 : (a0 == 19) = true := beq_iff_eq.mpr c10
          have c10b1 : (a0 != 19) = false := bne_eq_false_iff_eq.mpr c10
          clear c10
          obtain rfl := Option.some.inj H
          go_enter Tryd.func70, Tryd.ntmps70
          go_wp2
          go_ret
          exact ⟨by first | rfl | (simp; done) | (simp [*]; done), by repeat (first | exact Drawn0.refl _ | apply Drawn0.step)⟩
         ·rw [if_neg c10] at H
          have c10b0 : (a0 == 19) = false := beq_eq_false_iff_ne.mpr c10
          have c10b1 : (a0 != 19) = true := bne_iff_ne.mpr c10
          by_cases c11 : a0 = 20
          ·rw [if_pos c11] at H
           have c11b0 : (a0 == 20) = true := beq_iff_eq.mpr c11
           have c11b1 : (a0 != 20) = false := bne_eq_false_iff_eq.mpr c11
           clear c11
           obtain rfl := Option.some.inj H
           go_enter Tryd.func70, Tryd.ntmps70
           go_wp2
           go_ret
           exact ⟨by first | rfl | (simp; done) | (simp [*]; done), by repeat (first | exact Drawn0.refl _ | apply Drawn0.step)⟩
          ·rw [if_neg c11] at H
           have c11b0 : (a0 == 20) = false := beq_eq_false_iff_ne.mpr c11
           have c11b1 : (a0 != 20) = true := bne_iff_ne.mpr c11
           by_cases c12 : a0 = 21
           ·rw [if_pos c12] at H
            have c12b0 : (a0 == 21) = true := beq_iff_eq.mpr c12
            have c12b1 : (a0 != 21) = false := bne_eq_false_iff_eq.mpr c12
            clear c12
            obtain rfl := Option.some.inj H
            go_enter Tryd.func70, Tryd.ntmps70
            go_wp2
            go_ret
            exact ⟨by first | rfl | (simp; done) | (simp [*]; done), by repeat (first | exact Drawn0.refl _ | apply Drawn0.step)⟩
           ·rw [if_neg c12] at H
            have c12b0 : (a0 == 21) = false := beq_eq_false_iff_ne.mpr c12
            have c12b1 : (a0 != 21) = true := bne_iff_ne.mpr c12
            obtain rfl := Option.some.inj H
            go_enter Tryd.func70, Tryd.ntmps70
            go_wp2
            go_ret
            exact ⟨by first | rfl | (simp; done) | (simp [*]; done), by repeat (first | exact Drawn0.refl _ | apply Drawn0.step)⟩

end Go.Proofs.YtihknjmibnonjaaDoor.X
end

section
/- Written by a program of this session over the kit's print: YtihknjmibnonjaaDoorF71. -/
namespace Go.Proofs.YtihknjmibnonjaaDoor.X
open Go.RowKit Go.Proofs.YtihknjmibnonjaaDoorW.PrintWords Go.Proofs.YtihknjmibnonjaaDoorW.PrintLast Go.Proofs.YtihknjmibnonjaaDoorW.PrintMore Go.Proofs.YtihknjmibnonjaaDoor.More
attribute [local go_sem] max2_int min2_int max_two min_two max_three min_three max_four min_four binOp_string_leq binOp_string_gtr   -- for this text's walks alone
set_option linter.unusedVariables false
set_option linter.unusedSimpArgs false

/-! ### api_wordOfFaults: function 71 -/
def api_wordOfFaults.f (a0 : Int) : Option (ByteArray) := if a0 = 31 then (some (⟨#[114, 101, 97, 100]⟩ : ByteArray)) else (if a0 = 32 then (some (⟨#[119, 114, 105, 116, 101]⟩ : ByteArray)) else (if a0 = 33 then (some (⟨#[101, 120, 101, 99]⟩ : ByteArray)) else (if a0 = 34 then (some (⟨#[103, 97, 116, 101]⟩ : ByteArray)) else (if a0 = 35 then (some (⟨#[98, 111, 117, 110, 100]⟩ : ByteArray)) else (if a0 = 36 then (some (⟨#[111, 112]⟩ : ByteArray)) else (if a0 = 37 then (some (⟨#[115, 116, 97, 99, 107]⟩ : ByteArray)) else (some (⟨#[101, 114, 114, 111, 114]⟩ : ByteArray))))))))
set_option maxHeartbeats 8000000 in
set_option maxRecDepth 100000 in
theorem api_wordOfFaults.calls (a0 : Int) (r : ByteArray) (w : World) (h : api_wordOfFaults.f a0 = some r) :
  Calls Tryd.prog 71 #[.int .i64 a0] w fun e w' => e = .returned (.string r) ∧ Drawn0 w w' := by
 have H : (if a0 = 31 then (some (⟨#[114, 101, 97, 100]⟩ : ByteArray)) else (if a0 = 32 then (some (⟨#[119, 114, 105, 116, 101]⟩ : ByteArray)) else (if a0 = 33 then (some (⟨#[101, 120, 101, 99]⟩ : ByteArray)) else (if a0 = 34 then (some (⟨#[103, 97, 116, 101]⟩ : ByteArray)) else (if a0 = 35 then (some (⟨#[98, 111, 117, 110, 100]⟩ : ByteArray)) else (if a0 = 36 then (some (⟨#[111, 112]⟩ : ByteArray)) else (if a0 = 37 then (some (⟨#[115, 116, 97, 99, 107]⟩ : ByteArray)) else (some (⟨#[101, 114, 114, 111, 114]⟩ : ByteArray))))))))) = some r := h
 clear h
 by_cases c2 : a0 = 31
 ·rw [if_pos c2] at H
  have c2b0 : (a0 == 31) = true := beq_iff_eq.mpr c2
  have c2b1 : (a0 != 31) = false := bne_eq_false_iff_eq.mpr c2
  clear c2
  obtain rfl := Option.some.inj H
  go_enter Tryd.func71, Tryd.ntmps71
  go_wp2
  go_ret
  exact ⟨by first | rfl | (simp; done) | (simp [*]; done), by repeat (first | exact Drawn0.refl _ | apply Drawn0.step)⟩
 ·rw [if_neg c2] at H
  have c2b0 : (a0 == 31) = false := beq_eq_false_iff_ne.mpr c2
  have c2b1 : (a0 != 31) = true := bne_iff_ne.mpr c2
  by_cases c3 : a0 = 32
  ·rw [if_pos c3] at H
   have c3b0 : (a0 == 32) = true := beq_iff_eq.mpr c3
   have c3b1 : (a0 != 32) = false := bne_eq_false_iff_eq.mpr c3
   clear c3
   obtain rfl := Option.some.inj H
   go_enter Tryd.func71, Tryd.ntmps71
   go_wp2
   go_ret
   exact ⟨by first | rfl | (simp; done) | (simp [*]; done), by repeat (first | exact Drawn0.refl _ | apply Drawn0.step)⟩
  ·rw [if_neg c3] at H
   have c3b0 : (a0 == 32) = false := beq_eq_false_iff_ne.mpr c3
   have c3b1 : (a0 != 32) = true := bne_iff_ne.mpr c3
   by_cases c4 : a0 = 33
   ·rw [if_pos c4] at H
    have c4b0 : (a0 == 33) = true := beq_iff_eq.mpr c4
    have c4b1 : (a0 != 33) = false := bne_eq_false_iff_eq.mpr c4
    clear c4
    obtain rfl := Option.some.inj H
    go_enter Tryd.func71, Tryd.ntmps71
    go_wp2
    go_ret
    exact ⟨by first | rfl | (simp; done) | (simp [*]; done), by repeat (first | exact Drawn0.refl _ | apply Drawn0.step)⟩
   ·rw [if_neg c4] at H
    have c4b0 : (a0 == 33) = false := beq_eq_false_iff_ne.mpr c4
    have c4b1 : (a0 != 33) = true := bne_iff_ne.mpr c4
    by_cases c5 : a0 = 34
    ·rw [if_pos c5] at H
     have c5b0 : (a0 == 34) = true := beq_iff_eq.mpr c5
     have c5b1 : (a0 != 34) = false := bne_eq_false_iff_eq.mpr c5
     clear c5
     obtain rfl := Option.some.inj H
     go_enter Tryd.func71, Tryd.ntmps71
     go_wp2
     go_ret
     exact ⟨by first | rfl | (simp; done) | (simp [*]; done), by repeat (first | exact Drawn0.refl _ | apply Drawn0.step)⟩
    ·rw [if_neg c5] at H
     have c5b0 : (a0 == 34) = false := beq_eq_false_iff_ne.mpr c5
     have c5b1 : (a0 != 34) = true := bne_iff_ne.mpr c5
     by_cases c6 : a0 = 35
     ·rw [if_pos c6] at H
      have c6b0 : (a0 == 35) = true := beq_iff_eq.mpr c6
      have c6b1 : (a0 != 35) = false := bne_eq_false_iff_eq.mpr c6
      clear c6
      obtain rfl := Option.some.inj H
      go_enter Tryd.func71, Tryd.ntmps71
      go_wp2
      go_ret
      exact ⟨by first | rfl | (simp; done) | (simp [*]; done), by repeat (first | exact Drawn0.refl _ | apply Drawn0.step)⟩
     ·rw [if_neg c6] at H
      have c6b0 : (a0 == 35) = false := beq_eq_false_iff_ne.mpr c6
      have c6b1 : (a0 != 35) = true := bne_iff_ne.mpr c6
      by_cases c7 : a0 = 36
      ·rw [if_pos c7] at H
       have c7b0 : (a0 == 36) = true := beq_iff_eq.mpr c7
       have c7b1 : (a0 != 36) = false := bne_eq_false_iff_eq.mpr c7
       clear c7
       obtain rfl := Option.some.inj H
       go_enter Tryd.func71, Tryd.ntmps71
       go_wp2
       go_ret
       exact ⟨by first | rfl | (simp; done) | (simp [*]; done), by repeat (first | exact Drawn0.refl _ | apply Drawn0.step)⟩
      ·rw [if_neg c7] at H
       have c7b0 : (a0 == 36) = false := beq_eq_false_iff_ne.mpr c7
       have c7b1 : (a0 != 36) = true := bne_iff_ne.mpr c7
       by_cases c8 : a0 = 37
       ·rw [if_pos c8] at H
        have c8b0 : (a0 == 37) = true := beq_iff_eq.mpr c8
        have c8b1 : (a0 != 37) = false := bne_eq_false_iff_eq.mpr c8
        clear c8
        obtain rfl := Option.some.inj H
        go_enter Tryd.func71, Tryd.ntmps71
        go_wp2
        go_ret
        exact ⟨by first | rfl | (simp; done) | (simp [*]; done), by repeat (first | exact Drawn0.refl _ | apply Drawn0.step)⟩
       ·rw [if_neg c8] at H
        have c8b0 : (a0 == 37) = false := beq_eq_false_iff_ne.mpr c8
        have c8b1 : (a0 != 37) = true := bne_iff_ne.mpr c8
        obtain rfl := Option.some.inj H
        go_enter Tryd.func71, Tryd.ntmps71
        go_wp2
        go_ret
        exact ⟨by first | rfl | (simp; done) | (simp [*]; done), by repeat (first | exact Drawn0.refl _ | apply Drawn0.step)⟩

end Go.Proofs.YtihknjmibnonjaaDoor.X
end

section
/- Written by a program of this session over the kit's print: YtihknjmibnonjaaDoorF49. -/
namespace Go.Proofs.YtihknjmibnonjaaDoor.X
open Go.RowKit Go.Proofs.YtihknjmibnonjaaDoorW.PrintWords Go.Proofs.YtihknjmibnonjaaDoorW.PrintLast Go.Proofs.YtihknjmibnonjaaDoorW.PrintMore Go.Proofs.YtihknjmibnonjaaDoor.More
attribute [local go_sem] max2_int min2_int max_two min_two max_three min_three max_four min_four binOp_string_leq binOp_string_gtr   -- for this text's walks alone
set_option linter.unusedVariables false
set_option linter.unusedSimpArgs false

/-! ### api_Errno_Error: function 49 -/
def api_Errno_Error.f (a0 : Int) : Option (ByteArray) := if a0 = 0 then (some (⟨#[111, 107]⟩ : ByteArray)) else (if a0 < 11 then ((api_wordOfArgs.f a0).bind fun t101 => (some t101)) else (if a0 < 31 then ((api_wordOfSystem.f a0).bind fun t102 => (some t102)) else ((api_wordOfFaults.f a0).bind fun t103 => (some t103))))
set_option maxHeartbeats 8000000 in
set_option maxRecDepth 100000 in
theorem api_Errno_Error.calls (a0 : Int) (r : ByteArray) (w : World) (h : api_Errno_Error.f a0 = some r) :
  Calls Tryd.prog 49 #[.int .i64 a0] w fun e w' => e = .returned (.string r) ∧ Drawn0 w w' := by
 have H : (if a0 = 0 then (some (⟨#[111, 107]⟩ : ByteArray)) else (if a0 < 11 then ((api_wordOfArgs.f a0).bind fun t101 => (some t101)) else (if a0 < 31 then ((api_wordOfSystem.f a0).bind fun t102 => (some t102)) else ((api_wordOfFaults.f a0).bind fun t103 => (some t103))))) = some r := h
 clear h
 by_cases c2 : a0 = 0
 ·rw [if_pos c2] at H
  have c2b0 : (a0 == 0) = true := beq_iff_eq.mpr c2
  have c2b1 : (a0 != 0) = false := bne_eq_false_iff_eq.mpr c2
  clear c2
  obtain rfl := Option.some.inj H
  go_enter Tryd.func49, Tryd.ntmps49
  go_wp2
  go_ret
  exact ⟨by first | rfl | (simp; done) | (simp [*]; done), by repeat (first | exact Drawn0.refl _ | apply Drawn0.step)⟩
 ·rw [if_neg c2] at H
  have c2b0 : (a0 == 0) = false := beq_eq_false_iff_ne.mpr c2
  have c2b1 : (a0 != 0) = true := bne_iff_ne.mpr c2
  by_cases c3 : a0 < 11
  ·rw [if_pos c3] at H
   have c3b0 : decide (a0 < 11) = true := decide_eq_true c3
   clear c3
   replace H := Option.bind_eq_some_iff.mp H
   obtain ⟨t101, A40, H⟩ := H
   try dsimp only at H
   have A4 := Aside0.mk A40
   clear A40
   obtain rfl := Option.some.inj H
   go_enter Tryd.func49, Tryd.ntmps49
   go_wp2_with (first | ((with_reducible refine gate_callee (f := 69) rfl ?_); refine goesL_ (some 10) rfl rfl Tryd.func69 (by kernel_rfl) rfl #[.int .i64 a0] rfl (by (try simp only [List.map_toArray, List.map_cons, List.map_nil]); first | done | rfl | (simp only [List.length_drop, List.length_take]; rfl)) ?_; (with_reducible refine (api_wordOfArgs.calls a0 t101 _ A4.out).mono ?_); rintro e w' ⟨rfl, ⟨nd, rfl⟩⟩; refine ⟨_, rfl, ?_⟩))
   go_ret
   exact ⟨by first | rfl | (simp; done) | (simp [*]; done), by repeat (first | exact Drawn0.refl _ | apply Drawn0.step)⟩
  ·rw [if_neg c3] at H
   have c3b0 : decide (a0 < 11) = false := decide_eq_false c3
   clear c3
   by_cases c5 : a0 < 31
   ·rw [if_pos c5] at H
    have c5b0 : decide (a0 < 31) = true := decide_eq_true c5
    clear c5
    replace H := Option.bind_eq_some_iff.mp H
    obtain ⟨t102, A60, H⟩ := H
    try dsimp only at H
    have A6 := Aside0.mk A60
    clear A60
    obtain rfl := Option.some.inj H
    go_enter Tryd.func49, Tryd.ntmps49
    go_wp2_with (first | ((with_reducible refine gate_callee (f := 70) rfl ?_); refine goesL_ (some 15) rfl rfl Tryd.func70 (by kernel_rfl) rfl #[.int .i64 a0] rfl (by (try simp only [List.map_toArray, List.map_cons, List.map_nil]); first | done | rfl | (simp only [List.length_drop, List.length_take]; rfl)) ?_; (with_reducible refine (api_wordOfSystem.calls a0 t102 _ A6.out).mono ?_); rintro e w' ⟨rfl, ⟨nd, rfl⟩⟩; refine ⟨_, rfl, ?_⟩))
    go_ret
    exact ⟨by first | rfl | (simp; done) | (simp [*]; done), by repeat (first | exact Drawn0.refl _ | apply Drawn0.step)⟩
   ·rw [if_neg c5] at H
    have c5b0 : decide (a0 < 31) = false := decide_eq_false c5
    clear c5
    replace H := Option.bind_eq_some_iff.mp H
    obtain ⟨t103, A70, H⟩ := H
    try dsimp only at H
    have A7 := Aside0.mk A70
    clear A70
    obtain rfl := Option.some.inj H
    go_enter Tryd.func49, Tryd.ntmps49
    go_wp2_with (first | ((with_reducible refine gate_callee (f := 71) rfl ?_); refine goesL_ (some 17) rfl rfl Tryd.func71 (by kernel_rfl) rfl #[.int .i64 a0] rfl (by (try simp only [List.map_toArray, List.map_cons, List.map_nil]); first | done | rfl | (simp only [List.length_drop, List.length_take]; rfl)) ?_; (with_reducible refine (api_wordOfFaults.calls a0 t103 _ A7.out).mono ?_); rintro e w' ⟨rfl, ⟨nd, rfl⟩⟩; refine ⟨_, rfl, ?_⟩))
    go_ret
    exact ⟨by first | rfl | (simp; done) | (simp [*]; done), by repeat (first | exact Drawn0.refl _ | apply Drawn0.step)⟩

end Go.Proofs.YtihknjmibnonjaaDoor.X
end

section
/- A struct of many cells stored into its block: at once, into a world that is named anew. -/
namespace Go.Proofs.YtihknjmibnonjaaDoor.More
open Go.RowKit Go.Proofs.YtihknjmibnonjaaDoorW.PrintWords
section
variable {P : Program} {ops : Array Oper} {rest : List Oper} {o : Oper} {a : Act} {Q : Exit → Act → World → Prop} {w : World}
theorem bigstore_ (hgd : o.guard = none) (ty : TypeId) (x y : Operand) (ho : o.op = .store ty x y)
  (g : Nat) (cells : Array Value) (hx : a.eval x = .pointer (some ⟨g, 0, none⟩)) (hy : a.eval y = .agg cells)
  (t : TypeId) (old : Array Value) (hg : w.heap[g]? = some (.cells old t (0, 0))) (hi : (P.info? ty).map (·.size) = some cells.size)
  (hold : old.size = cells.size) (h1 : cells.toList.all (·.oneCell') = true)
  (h : ∀ w1, w1.heap[g]? = some (.cells cells t (0, 0)) → KeepBut w w1 g none → (∀ j q, w.heap[j]? = some q → j ≠ g → w1.heap[j]? = some q) → (∀ B w0, Below B w0 w → B ≤ g → Below B w0 w1) →
   wpList P ops Q rest (a.put o.dst undef) w1) : wpList P ops Q (o :: rest) a w :=
 wpList_store_row hgd ty x y ho g cells hx hy t old hg hi hold (by rw [← Array.all_toList]; exact h1) (h _ (setRow_heap w g old cells t _ hg) ⟨by rw [size_setRow]; exact Nat.le_refl _, fun i _ hne _ => setRow_other w g i cells hne⟩ (fun j q hj hne => (setRow_other w g j cells hne).trans hj) (fun B w0 hb hB => below_setRow hb hB cells))
end
end Go.Proofs.YtihknjmibnonjaaDoor.More
end

section
/- Labels in plain numbers. -/
namespace Go.Proofs.YtihknjmibnonjaaDoor.Pure
open Go.RowKit Go.Proofs.YtihknjmibnonjaaDoor.X Go.Proofs.YtihknjmibnonjaaDoorW.PrintWords Go.Proofs.YtihknjmibnonjaaDoorW.PrintLast Go.Proofs.YtihknjmibnonjaaDoor.Lib Go.Proofs.YtihknjmibnonjaaDoorW.PrintMore

theorem good4_f (a b c d : Int) : donjonlaw4_Good.f a b c d = some (a % 4, b % 256, c % 4, d % 256) := by
 unfold donjonlaw4_Good.f donjonlaw4_within.f
 obtain ⟨r1, e1, _, _, h1⟩ := within_small (a := a) (n := 4) (by omega) (by omega)
 obtain ⟨r2, e2, _, _, h2⟩ := within_small (a := b) (n := 256) (by omega) (by omega)
 obtain ⟨r3, e3, _, _, h3⟩ := within_small (a := c) (n := 4) (by omega) (by omega)
 obtain ⟨r4, e4, _, _, h4⟩ := within_small (a := d) (n := 256) (by omega) (by omega)
 rw [e1, e2, e3, e4, h1, h2, h3, h4]
 rfl
/-- A label such as may be. -/
structure Lab (s c i d : Int) : Prop where
 s0 : 0 ≤ s
 s1 : s < 4
 c0 : 0 ≤ c
 c1 : c < 256
 i0 : 0 ≤ i
 i1 : i < 4
 d0 : 0 ≤ d
 d1 : d < 256
theorem lab_good (a b c d : Int) : Lab (a % 4) (b % 256) (c % 4) (d % 256) := ⟨by omega, by omega, by omega, by omega, by omega, by omega, by omega, by omega⟩
end Go.Proofs.YtihknjmibnonjaaDoor.Pure
end

section
/- Maps keyed by labels, whatever they hold, told as functions: looked up, stored into, ranged over. -/
namespace Go.Proofs.YtihknjmibnonjaaDoor.X
open Go.RowKit Go.Proofs.YtihknjmibnonjaaDoorW.PrintWords Go.Proofs.YtihknjmibnonjaaDoorW.PrintLast Go.Proofs.YtihknjmibnonjaaDoorW.PrintMore Go.Proofs.YtihknjmibnonjaaDoor.More
set_option linter.unusedVariables false
set_option linter.unusedSimpArgs false
set_option maxRecDepth 100000
abbrev SL := S23
instance decL : DecidableEq SL := fun x y => decidable_of_iff (x.f0 = y.f0 ∧ x.f1 = y.f1 ∧ x.f2 = y.f2 ∧ x.f3 = y.f3) (by cases x; cases y; simp)
/-- A label as a value; such as numbers are. -/
def lv (x : SL) : Value := .agg #[.int .i64 x.f0, .int .i64 x.f1, .int .i64 x.f2, .int .i64 x.f3]
def okL (x : SL) : Prop := (Lit.int .i64 x.f0).wf = true ∧ (Lit.int .i64 x.f1).wf = true ∧ (Lit.int .i64 x.f2).wf = true ∧ (Lit.int .i64 x.f3).wf = true
theorem lv_inj {x y : SL} (h : lv x = lv y) : x = y := by
 cases x; cases y
 simp only [lv, Value.agg.injEq, Array.mk.injEq, List.cons.injEq, Value.int.injEq, true_and, and_true] at h
 obtain ⟨h1, h2, h3, h4⟩ := h
 subst h1; subst h2; subst h3; subst h4
 rfl
theorem laidOutL : laidOutB Tryd.prog = true := by kernel_rfl
theorem rowL : (23 : TypeId) < Tryd.prog.types.size := of_decide_eq_true (by kernel_rfl)
theorem wideL : (match Tryd.prog.underlying 23 with | some (.array _ _) | some (.struct _) => true | _ => false) = true := by kernel_rfl
theorem lawL : Go.Maps.Keyed Tryd.prog 23 := Go.Maps.Keyed.of_law (deep_law_laid laidOutL (m := 3) (by omega) rowL (by kernel_rfl) wideL)
theorem cellsL : Tryd.prog.cellsOf 23 = 4 := by kernel_rfl
theorem cellsI : Tryd.prog.cellsOf 3 = 1 := by kernel_rfl
theorem keyTypeL : Tryd.prog.keyType 23 = true := by kernel_rfl
theorem keyLits_cell {d : Nat} {a : Value} {l : List Lit} (h : Tryd.prog.keyLits (d + 1) 3 [a] = some l) : ∃ n, a = .int .i64 n ∧ (Lit.int .i64 n).wf = true := by
 unfold Program.keyLits at h
 rw [Tryd.underlying3] at h
 cases a <;> simp at h
 obtain ⟨⟨rfl, hw⟩, _⟩ := h
 exact ⟨_, rfl, hw⟩
theorem keyLits_int_mk {d : Nat} {n : Int} (h : (Lit.int .i64 n).wf = true) : Tryd.prog.keyLits (d + 1) 3 [.int .i64 n] = some [.int .i64 n] := by
 unfold Program.keyLits
 rw [Tryd.underlying3]
 simp [h]
theorem keyLits_L {d : Nat} (a b c e : Value) : Tryd.prog.keyLits (d + 2) 23 [a, b, c, e] = (([[a], [b], [c], [e]] : List (List Value)).mapM fun l => Tryd.prog.keyLits (d + 1) 3 l).map List.flatten := by
 conv => lhs; unfold Program.keyLits
 rw [Tryd.underlying23]
 simp [cellsL, cellsI, List.mapM_cons, List.mapM_nil]
theorem typesSize : ∃ d, Tryd.prog.types.size + 1 = d + 2 := ⟨Tryd.prog.types.size - 1, by have h : 0 < Tryd.prog.types.size := Nat.lt_of_le_of_lt (Nat.zero_le _) rowL; exact (by omega : ∀ n : Nat, 0 < n → n + 1 = n - 1 + 2) _ h⟩
theorem keyOf_lv' {x : SL} (h : okL x) : ∃ l, keyOf Tryd.prog 23 (lv x) = some l := by
 obtain ⟨h0, h1, h2, h3⟩ := h
 obtain ⟨d, hd⟩ := typesSize
 unfold keyOf
 rw [Tryd.underlying23]
 have hf : Value.formed Tryd.prog 23 (lv x) = true := by
  unfold Value.formed lv
  rw [Tryd.underlying23]
  simp [cellsL]
 simp only [keyTypeL, hf, Bool.and_self, if_true]
 rw [hd]
 simp only [lv, Value.cells]
 rw [keyLits_L]
 simp [List.mapM_cons, List.mapM_nil, keyLits_int_mk h0, keyLits_int_mk h1, keyLits_int_mk h2, keyLits_int_mk h3]
/-- What a label reads as, as a key. -/
noncomputable def kl (x : SL) : Lit := (keyOf Tryd.prog 23 (lv x)).getD (.bool false)
theorem keyOf_lv {x : SL} (h : okL x) : keyOf Tryd.prog 23 (lv x) = some (kl x) := by
 obtain ⟨l, hl⟩ := keyOf_lv' h
 rw [kl, hl]
 rfl
theorem kl_inj {x y : SL} (hx : okL x) (hy : okL y) (h : kl x = kl y) : x = y := lv_inj (lawL.inj (keyOf_lv hx) (h ▸ keyOf_lv hy))
theorem kl_key {x : SL} (h : okL x) : WideAt.IsKeyLit (kl x) := lawL.key (keyOf_lv h)
theorem keyOf_inv {v : Value} {l : Lit} (h : keyOf Tryd.prog 23 v = some l) : ∃ x, v = lv x ∧ okL x ∧ l = kl x := by
 have h0 := h
 obtain ⟨d, hd⟩ := typesSize
 unfold keyOf at h
 rw [Tryd.underlying23] at h
 simp only [keyTypeL, Bool.true_and] at h
 split at h
 ·rename_i hf
  unfold Value.formed at hf
  split at hf
  ·rename_i cs
   rw [Tryd.underlying23] at hf
   simp only [cellsL, beq_iff_eq] at hf
   obtain ⟨l4⟩ := cs
   match l4, hf with
   | [a, b, c, e], _ =>
    rw [hd] at h
    simp only [Value.cells] at h
    rw [keyLits_L] at h
    simp only [List.mapM_cons, List.mapM_nil, Option.pure_def, Option.bind_eq_bind, Option.map_eq_some_iff, Option.bind_eq_some_iff] at h
    obtain ⟨_, ⟨_, ⟨_, ha, _, ⟨_, hb, _, ⟨_, hc, _, ⟨_, he, _⟩, _⟩, _⟩, _⟩, _⟩, _⟩ := h
    obtain ⟨n0, rfl, w0⟩ := keyLits_cell ha
    obtain ⟨n1, rfl, w1⟩ := keyLits_cell hb
    obtain ⟨n2, rfl, w2⟩ := keyLits_cell hc
    obtain ⟨n3, rfl, w3⟩ := keyLits_cell he
    have hok : okL ⟨n0, n1, n2, n3⟩ := ⟨w0, w1, w2, w3⟩
    refine ⟨⟨n0, n1, n2, n3⟩, rfl, hok, ?_⟩
    have := keyOf_lv hok
    exact Option.some.inj (h0.symm.trans this)
  ·cases hf
  ·rw [Tryd.underlying23] at hf
   cases hf
 ·cases h
/-- How an element reads: as itself. -/
def rv (v : Value) : Option (DataW Value × List MemPlace) := some (.held v, [])
theorem rv_inv {v : Value} {y : DataW Value × List MemPlace} (h : rv v = some y) : y = (.held v, []) := (Option.some.inj h).symm
/-- Block b is a map of at most n entries; at a label x it tells f x (z where there is none). -/
def MapIs (w : World) (b n : Nat) (z : Value) (f : SL → Value) : Prop :=
 ∃ D : DataW Value, w.ownsMap Tryd.prog 23 rv b n D ∧ ∀ x, okL x → D.atKey (kl x) (.held z) = .held (f x)
/-- A range over it is under way: 'left x': it is still to come; how many are. -/
def MapAt (w : World) (b r n : Nat) (z : Value) (f : SL → Value) (left : SL → Bool) (cnt : Nat) : Prop :=
 ∃ (D : DataW Value) (lf : Lit → Bool), w.ranges Tryd.prog 23 rv b r n D lf cnt ∧ (∀ x, okL x → D.atKey (kl x) (.held z) = .held (f x)) ∧ ∀ x, okL x → lf (kl x) = left x
section
variable {w w' : World} {b r n cnt : Nat} {z : Value} {f : SL → Value} {left : SL → Bool}
theorem MapIs.kept {row : Option Nat} (h : MapIs w b n z f) (hg : w.grownBy w' row) (hne : some b ≠ row) : MapIs w' b n z f := let ⟨D, ho, hf⟩ := h; ⟨D, ho.kept hg hne, hf⟩
theorem MapIs.below (h : MapIs w b n z f) (hb : Below w.heap.size w w') : MapIs w' b n z f := h.kept (grown_of_below hb none) (by simp)
theorem MapIs.mono (h : MapIs w b n z f) {n' : Nat} (hn : n ≤ n') : MapIs w b n' z f := let ⟨D, ho, hf⟩ := h; ⟨D, ho.mono hn, hf⟩
theorem MapIs.lt (h : MapIs w b n z f) : b < w.heap.size := let ⟨_, ho, _⟩ := h; ho.lt
theorem MapIs.isMap (h : MapIs w b n z f) : ∃ es c, w.heap[b]? = some (.map es c) := let ⟨_, ⟨es, c, hb, _⟩, _⟩ := h; ⟨es, c, hb⟩
theorem MapIs.of_block (h : MapIs w b n z f) (e : w'.heap[b]? = w.heap[b]?) : MapIs w' b n z f := by
 obtain ⟨D, ⟨es, clock, hb, r⟩, hf⟩ := h
 exact ⟨D, ⟨es, clock, e.trans hb, r⟩, hf⟩
theorem MapIs.setCell (h : MapIs w b n z f) {a : Addr} (ha : b ≠ a.block) (u : Value) : MapIs (w.setCell a u) b n z f := h.of_block (RowKit.Below.heap_setCell _ _ _ _ ha)
theorem MapIs.congr {g : SL → Value} (h : MapIs w b n z f) (e : ∀ x, okL x → f x = g x) : MapIs w b n z g := let ⟨D, ho, hf⟩ := h; ⟨D, ho, fun x hx => (hf x hx).trans (by rw [e x hx])⟩
theorem MapIs.made (w : World) (z : Value) : MapIs (w.alloc (.map #[] 0)) w.heap.size 0 z (fun _ => z) := ⟨.map [], World.ownsMap_made _ _ _ _, fun _ _ => rfl⟩
theorem MapAt.kept {row : Option Nat} (h : MapAt w b r n z f left cnt) (hg : w.grownBy w' row) (hne : some b ≠ row) (hne' : some r ≠ row) : MapAt w' b r n z f left cnt := let ⟨D, lf, ho, hf⟩ := h; ⟨D, lf, ho.kept hg hne hne', hf⟩
theorem MapAt.below (h : MapAt w b r n z f left cnt) (hb : Below w.heap.size w w') : MapAt w' b r n z f left cnt := h.kept (grown_of_below hb none) (by simp) (by simp)
theorem MapAt.lt (h : MapAt w b r n z f left cnt) : b < w.heap.size ∧ r < w.heap.size ∧ r ≠ b := let ⟨_, _, ho, _⟩ := h; ⟨ho.owns.lt, ho.lt, ho.ne⟩
theorem MapAt.is (h : MapAt w b r n z f left cnt) : MapIs w b n z f := let ⟨D, _, ho, hf, _⟩ := h; ⟨D, ho.owns, hf⟩
theorem MapAt.left_eq (h : MapAt w b r n z f left cnt) : w.rangeLeft b r = cnt := let ⟨_, _, ho, _⟩ := h; ho.left_eq
theorem MapAt.isIter (h : MapAt w b r n z f left cnt) : ∃ o s c d, w.heap[r]? = some (.mapIter o s c d) := let ⟨_, _, ⟨_, _, s, c, d, _, _, _, _, hr, _⟩, _⟩ := h; ⟨_, s, c, d, hr⟩
end
/-- One more is told. -/
def upd (f : SL → Value) (k : SL) (v : Value) : SL → Value := fun x => if x = k then v else f x
theorem upd_same (f : SL → Value) (k : SL) (v : Value) : upd f k v k = v := by simp [upd]
section
variable (w : World) {ops : Array Oper} {rest : List Oper} {o : Oper} {a : Act} {Q : Exit → Act → World → Prop}
/-- 'm[k]'. -/
theorem lookup_lab (hg : o.guard = none) (m x : Operand) (t e : TypeId) (hop : o.op = Op.lookup t m x false) (ht : Tryd.prog.underlying t = some (.map 23 e)) {z : Value} (hz : ∀ w, (zeroValue e).run Tryd.prog w = .ok z w)
  (b n : Nat) (f : SL → Value) (hm : a.eval m = .map (some b)) (h : MapIs w b n z f) (k : SL) (hk : okL k) (hx : a.eval x = lv k) (hK : wpList Tryd.prog ops Q rest (a.put o.dst (f k)) w) : wpList Tryd.prog ops Q (o :: rest) a w := by
 obtain ⟨D, hown, hf⟩ := h
 refine wpList_plain hg fun K' hK' => ?_
 obtain ⟨v, ps, hrun, hv⟩ := hown.lookup lawL ht (hz w) (show rv z = some (.held z, []) from rfl) (keyOf_lv hk)
 have e := rv_inv hv
 rw [hf k hk] at e
 injection e with e1 _
 injection e1 with e1
 unfold Oper.wp
 simp [execOp, hop, hm, hx, hrun, Result.andThen]
 refine hK' _ _ ?_
 rw [← e1]
 exact hK
/-- 'm[k] = v'. -/
theorem mapUpdate_lab (hg : o.guard = none) (m x v : Operand) (t e : TypeId) (hop : o.op = Op.mapUpdate t m x v) (ht : Tryd.prog.underlying t = some (.map 23 e)) {z : Value}
  (b n : Nat) (f : SL → Value) (hm : a.eval m = .map (some b)) (h : MapIs w b n z f) (hn : n < maxLen) (k : SL) (hk : okL k) (u : Value) (hx : a.eval x = lv k) (hv : a.eval v = u)
  (hK : ∀ w', MapIs w' b (n + 1) z (upd f k u) → w.grownBy w' (some b) → wpList Tryd.prog ops Q rest (a.put o.dst undef) w') : wpList Tryd.prog ops Q (o :: rest) a w := by
 obtain ⟨D, hown, hf⟩ := h
 refine wpList_mapUpdate_own w hg m x v t hop 23 e lawL ht rv b n D hm hown hn (lv k) u (kl k) hx hv (keyOf_lv hk) (.held u) [] rfl fun w' hown' hgr => hK w' ⟨_, hown', fun y hy => ?_⟩ hgr
 by_cases hyk : y = k
 ·subst hyk
  rw [Go.Maps.atKey_put_same hown.isMap (kl_key hk), upd_same]
 ·rw [Go.Maps.atKey_put_other (fun he => hyk (kl_inj hy hk he)), hf y hy]
  simp [upd, hyk]
/-- 'range m'. -/
theorem range_lab (hg : o.guard = none) (m : Operand) (t e : TypeId) (hop : o.op = Op.range t m) (ht : Tryd.prog.underlying t = some (.map 23 e)) {z : Value} (b n : Nat) (f : SL → Value) (hm : a.eval m = .map (some b)) (h : MapIs w b n z f)
  (hK : ∀ w' left cnt, MapAt w' b w.heap.size n z f left cnt → cnt ≤ n → (∀ x, okL x → left x = false → f x = z) → w.grownBy w' none → w'.heap.size = w.heap.size + 1 → wpList Tryd.prog ops Q rest (a.put o.dst (.pointer (some ⟨w.heap.size, 0, none⟩))) w') : wpList Tryd.prog ops Q (o :: rest) a w := by
 obtain ⟨D, hown, hf⟩ := h
 refine wpList_range_own w hg m t hop 23 e lawL ht rv b n D hm hown fun w' hr hgr hs => hK w' (fun x => Go.Maps.has D (kl x)) _ ⟨D, _, hr, hf, fun _ _ => rfl⟩ hown.size_le (fun x hx hl => ?_) hgr hs
 have e1 := Go.Maps.atKey_of_not_has hl (.held z)
 rw [hf x hx] at e1
 injection e1
/-- The step. -/
theorem next_lab (hg : o.guard = none) (it : Operand) (hop : o.op = Op.next it false) {z : Value} (b r n : Nat) (f : SL → Value) (left : SL → Bool) (cnt : Nat) (hit : a.eval it = .pointer (some ⟨r, 0, none⟩)) (h : MapAt w b r n z f left cnt)
  (hDone : (∀ x, okL x → left x = false) → wpList Tryd.prog ops Q rest (a.put o.dst (.tuple #[.bool false])) w)
  (hMore : ∀ (x : SL) (w' : World) (cnt' : Nat), okL x → left x = true → MapAt w' b r n z f (fun y => left y && !decide (y = x)) cnt' → cnt' < cnt → w.grownBy w' (some r) → w'.heap.size = w.heap.size →
   (Instr.entry (.pointer (some ⟨r, 0, none⟩))).run Tryd.prog w' = .ok (.tuple #[lv x, f x]) w' → wpList Tryd.prog ops Q rest (a.put o.dst (.tuple #[.bool true, lv x, f x])) w') : wpList Tryd.prog ops Q (o :: rest) a w := by
 obtain ⟨D, lf, hr, hf, hl⟩ := h
 refine wpList_next_ranges w hg it hop 23 lawL rv lv (fun v : Value => v) (fun key l hk => by obtain ⟨x, rfl, _⟩ := keyOf_inv hk; exact ⟨x, rfl⟩) (fun v y _ => ⟨v, rfl⟩) b r n D lf cnt hit hr
  (fun _ h0 => hDone fun x hx => by rw [← hl x hx, h0]) (fun x c l y w' cnt' hkey hlk hv hat hrg hlt hgr hsz hen => ?_)
 obtain ⟨x', ex, hx', rfl⟩ := keyOf_inv hkey
 obtain rfl := lv_inj ex
 have hy := rv_inv hv
 subst hy
 have hc := hat (.held z)
 rw [hf x hx'] at hc
 injection hc with hc
 subst hc
 refine hMore x w' cnt' hx' (by rw [← hl x hx']; exact hlk) ⟨D, _, hrg, hf, fun q hq => ?_⟩ hlt hgr hsz hen
 rw [hl q hq]
 congr 2
 by_cases hqx : q = x
 ·subst hqx
  rw [WideAt.sameKey_self (kl_key hq)]
  simp
 ·rw [Go.Maps.sameKey_ne (fun he => hqx (kl_inj hq hx' he))]
  simp [hqx]
end
/-! ### 'm[k]++', 'm[k] = append(m[k], x)': the entry is found, or laid; then it is stored into, whatever came between -/
theorem lawKL : Go.WideMaps.KeyLaw Tryd.prog 23 := deep_law_laid laidOutL (m := 3) (by omega) rowL (by kernel_rfl) wideL
open Go.WideElems Go.ChangeMaps in
theorem mapEntry_run {w : World} {b n : Nat} {z : Value} {f : SL → Value} (h : MapIs w b n z f) {k : SL} (hk : okL k) {t e : TypeId} (ht : Tryd.prog.underlying t = some (.map 23 e)) (hz : ∀ w, (zeroValue e).run Tryd.prog w = .ok z w) (hn : n < maxLen) :
  ∃ (st : Nat) (w1 : World), (Instr.mapEntry t (.map (some b)) (lv k)).run Tryd.prog w = .ok (.tuple #[f k, goInt st]) w1 ∧ MapIs w1 b (n + 1) z f ∧ w.grownBy w1 (some b) ∧ w1.heap.size = w.heap.size ∧
   ∀ (w2 : World) (v : Value), w2.heap[b]? = w1.heap[b]? → ∃ w3, (Instr.entryStore t (.map (some b)) (goInt st) v).run Tryd.prog w2 = .ok () w3 ∧ MapIs w3 b (n + 1) z (upd f k v) ∧ w2.grownBy w3 (some b) ∧ w3.heap.size = w2.heap.size := by
 obtain ⟨D, ⟨es, clock, hb, F, hs, hD⟩, hf⟩ := h
 have hkey := keyOf_lv hk
 have isM : Go.Maps.IsMap D := ⟨_, hD⟩
 have putf : ∀ u x, okL x → (D.put (kl k) (.held u)).atKey (kl x) (.held z) = .held (upd f k u x) := fun u x hx => by
  by_cases hxk : x = k
  ·subst hxk
   rw [Go.Maps.atKey_put_same isM (kl_key hk), upd_same]
  ·rw [Go.Maps.atKey_put_other (fun he => hxk (kl_inj hx hk he)), hf x hx]
   simp [upd, hxk]
 obtain ⟨v0, st, es1, clock1, he, hv0, hst⟩ := entry_then_store lawKL ht hz hb F hkey
 have hown : w.ownsMap Tryd.prog 23 rv b n D := ⟨es, clock, hb, F, hs, hD⟩
 -- what a store makes of it, in whatever world
 have store : ∀ (w2 : World) (v : Value), w2.heap[b]? = some (.map es1 clock1) → ∃ w3, (Instr.entryStore t (.map (some b)) (goInt st) v).run Tryd.prog w2 = .ok () w3 ∧ MapIs w3 b (n + 1) z (upd f k v) ∧ w2.grownBy w3 (some b) ∧ w3.heap.size = w2.heap.size := fun w2 v hw2 => by
  obtain ⟨es', clock', h1, h2⟩ := hst w2 v hw2
  obtain ⟨w', h3, h4, _⟩ := hown.update lawL ht hn hkey (show rv v = some (.held v, []) from rfl)
  rw [h2] at h3
  injection h3 with _ h3
  subst h3
  obtain ⟨es'', clock'', hb'', F'', hs'', hD''⟩ := h4
  rw [heap_setBlock_same hb] at hb''
  injection hb'' with hb''
  injection hb'' with e1 e2
  subst e1; subst e2
  exact ⟨_, h1, ⟨D.put (kl k) (.held v), ⟨es', clock', heap_setBlock_same hw2 _, F'', hs'', hD''⟩, putf v⟩, ⟨rfl, rfl, rfl, by simp [setBlock], fun i _ hi => heap_setBlock_other hw2 _ (fun e => hi (by rw [e]))⟩, by simp [setBlock]⟩
 have hsame : (setBlock w b (.map es1 clock1)).heap[b]? = some (.map es1 clock1) := heap_setBlock_same hb _
 have hz0 : f k = v0 ∧ (es1 = es ∧ clock1 = clock ∨ upd f k v0 = f ∧ MapIs (setBlock w b (.map es1 clock1)) b (n + 1) z (upd f k z) ∧ v0 = z) := by
  rcases lawL.find w hkey es.toList F.keys with ⟨h1, h2⟩ | ⟨j, e0, h1, h2, h3⟩
  ·-- a new key
   have hlk := hown.lookup lawL ht (hz w) (show rv z = some (.held z, []) from rfl) hkey
   obtain ⟨v, ps, hrun, hv⟩ := hlk
   have hr2 : (Instr.lookup t (.map (some b)) (lv k) false).run Tryd.prog w = .ok z w := by
    simp [Instr.lookup, run_underlying ht, MapKept.run_getObj_map hb, lawL.check w _ hkey, h1, hz, Result.andThen]
   rw [hrun] at hr2
   injection hr2 with e1 _
   subst e1
   have e2 := rv_inv hv
   rw [hf k hk] at e2
   injection e2 with e2 _
   injection e2 with e2
   have hm : (Instr.mapEntry t (.map (some b)) (lv k)).run Tryd.prog w = .ok (.tuple #[v, goInt clock]) (setBlock w b (.map (es.push ⟨lv k, v, clock⟩) (clock + 1))) := by
    simp [Instr.mapEntry, run_underlying ht, MapKept.run_getObj_map hb, lawL.check w false hkey, h1, hz, MapKept.run_setObj_map _ hb, Result.andThen, setBlock]
   have hu : (Instr.mapUpdate t (.map (some b)) (lv k) v).run Tryd.prog w = .ok () (setBlock w b (.map (es.push ⟨lv k, v, clock⟩) (clock + 1))) := by
    simp [Instr.mapUpdate, run_underlying ht, MapKept.run_getObj_map hb, lawL.check w false hkey, h1, MapKept.run_setObj_map _ hb, Result.andThen, setBlock]
   rw [hm] at he
   injection he with he1 he2
   have hv : v = v0 := by
    injection he1 with he1
    simp only [Array.mk.injEq, List.cons.injEq] at he1
    exact he1.1
   refine ⟨by rw [e2, hv], .inr ⟨?_, ?_, hv.symm⟩⟩
   ·funext x
    unfold upd
    split
    ·rename_i hx
     rw [hx, e2, hv]
    ·rfl
   ·rw [← he2]
    obtain ⟨w', h3, h4, _⟩ := hown.update lawL ht hn hkey (show rv v = some (.held v, []) from rfl)
    rw [hu] at h3
    injection h3 with _ h3
    subst h3
    exact ⟨_, h4, putf v⟩
  ·have hj : es[j]? = some e0 := by simpa using h2
   have hlk := hown.lookup lawL ht (hz w) (show rv z = some (.held z, []) from rfl) hkey
   obtain ⟨v, ps, hrun, hv⟩ := hlk
   have hr2 : (Instr.lookup t (.map (some b)) (lv k) false).run Tryd.prog w = .ok e0.val w := by
    simp [Instr.lookup, run_underlying ht, MapKept.run_getObj_map hb, lawL.check w _ hkey, h1, Result.andThen]
   rw [hrun] at hr2
   injection hr2 with e1 _
   subst e1
   have e2 := rv_inv hv
   rw [hf k hk] at e2
   injection e2 with e2 _
   injection e2 with e2
   have hsm : es.modify j (fun e => { e with key := lv k }) = es := by
    apply Array.ext'
    rw [Array.toList_modify, modify_eq_set _ _ _ _ h2]
    have : ({ e0 with key := lv k } : MapEntry) = e0 := by rw [← h3]
    rw [this]
    exact set_self _ _ _ h2
   have hm : (Instr.mapEntry t (.map (some b)) (lv k)).run Tryd.prog w = .ok (.tuple #[e0.val, goInt e0.born]) (setBlock w b (.map es clock)) := by
    simp [Instr.mapEntry, run_underlying ht, MapKept.run_getObj_map hb, lawL.check w false hkey, h1, hj, h3, lawL.stays w hkey, hsm, MapKept.run_setObj_map _ hb, Result.andThen, setBlock]
   rw [hm] at he
   injection he with he1 he2
   have hv : e0.val = v0 := by
    injection he1 with he1
    simp only [Array.mk.injEq, List.cons.injEq] at he1
    exact he1.1
   refine ⟨by rw [e2, hv], .inl ?_⟩
   have h5 := congrArg (fun W : World => W.heap[b]?) he2
   simp only [heap_setBlock_same hb] at h5
   injection h5 with h5
   injection h5 with h5 h6
   exact ⟨h5.symm, h6.symm⟩
 obtain ⟨hfk, hway⟩ := hz0
 rw [hfk]
 refine ⟨st, _, he, ?_, ⟨rfl, rfl, rfl, by simp [setBlock], fun i _ hi => heap_setBlock_other hb _ (fun e => hi (by rw [e]))⟩, by simp [setBlock], fun w2 v hw2 => store w2 v (hw2.trans hsame)⟩
 rcases hway with ⟨rfl, rfl⟩ | ⟨h1, h2, h3⟩
 ·exact ⟨D, ⟨es1, clock1, hsame, F, by omega, hD⟩, hf⟩
 ·subst h3
  rwa [h1] at h2
end Go.Proofs.YtihknjmibnonjaaDoor.X
end

section
/- The log: what lies in it, label by label. New, Full, All. -/
namespace Go.Proofs.YtihknjmibnonjaaDoor.X
open Go.RowKit Go.Proofs.YtihknjmibnonjaaDoorW.PrintWords Go.Proofs.YtihknjmibnonjaaDoorW.PrintLast Go.Proofs.YtihknjmibnonjaaDoorW.PrintMore Go.Proofs.YtihknjmibnonjaaDoor.More
set_option linter.unusedVariables false
set_option linter.unusedSimpArgs false
set_option maxRecDepth 100000
abbrev SE := S26
abbrev RE (W : World) (base : Nat) (ok : Nat → Prop) (v : Value) (xs : List SE) : Prop := Kd.R k26 26 W base ok v xs
/-- No row of the log lies there. -/
def okA (hdr : SL → Value) (k : Nat) : Prop := ∀ y, okL y → (hdr y).ownBlock ≠ some k
/-- A log that lies at lb: its map at mb; at a label x the row hdr x, with the entries rows x; no two rows in one place. -/
def LogIs (w : World) (lb mb n base : Nat) (hdr : SL → Value) (rows : SL → List SE) : Prop :=
 w.heap[lb]? = some (.cells #[.map (some mb)] 58 (0, 0)) ∧ MapIs w mb n (.slice none 0 0) hdr ∧
 ∀ x, okL x → RE w base (fun k => ∀ y, okL y → y ≠ x → (hdr y).ownBlock ≠ some k) (hdr x) (rows x) ∧ (rows x = [] → hdr x = .slice none 0 0)
theorem zeroSl (w : World) : (zeroValue 34).run Tryd.prog w = .ok (.slice none 0 0) w := by kernel_rfl
section
variable {w w' : World} {lb mb n base : Nat} {hdr : SL → Value} {rows : SL → List SE}
theorem LogIs.below (h : LogIs w lb mb n base hdr rows) (hb : Below w.heap.size w w') : LogIs w' lb mb n base hdr rows :=
 ⟨(hb.block lb (Array.getElem?_eq_some_iff.1 h.1).1).trans h.1, h.2.1.below hb, fun x hx => ⟨Kd.R_below (h.2.2 x hx).1 hb, (h.2.2 x hx).2⟩⟩
theorem LogIs.row (h : LogIs w lb mb n base hdr rows) {x : SL} (hx : okL x) : RE w base (fun _ => True) (hdr x) (rows x) := Kd.R_mono (h.2.2 x hx).1 (fun _ _ => trivial)
theorem LogIs.shape (h : LogIs w lb mb n base hdr rows) {x : SL} (hx : okL x) : ∃ A c, hdr x = .slice A (rows x).length c := Kd.R_slice (h.row hx)
theorem LogIs.isMap (h : LogIs w lb mb n base hdr rows) : ∃ es c, w.heap[mb]? = some (.map es c) := h.2.1.isMap
theorem LogIs.ne (h : LogIs w lb mb n base hdr rows) : lb ≠ mb := fun e => by
 obtain ⟨es, c, hm⟩ := h.isMap
 have := h.1
 rw [e, hm] at this
 cases this
theorem LogIs.old (h : LogIs w lb mb n base hdr rows) {k : Nat} (hk : w.heap.size ≤ k) : okA hdr k := fun y hy e => by
 have := Kd.R_lt (h.row hy) _ e
 omega
theorem look_run {W : World} {b n : Nat} {z : Value} {f : SL → Value} (h : MapIs W b n z f) {x : SL} (hx : okL x) {t e : TypeId} (ht : Tryd.prog.underlying t = some (.map 23 e)) (hz : ∀ w, (zeroValue e).run Tryd.prog w = .ok z w) :
  (Instr.lookup t (.map (some b)) (lv x) false).run Tryd.prog W = .ok (f x) W := by
 obtain ⟨D, hown, hf⟩ := h
 obtain ⟨v, ps, hrun, hv⟩ := hown.lookup lawL ht (hz W) (show rv z = some (.held z, []) from rfl) (keyOf_lv hx)
 have e := rv_inv hv
 rw [hf x hx] at e
 injection e with e1 _
 injection e1 with e1
 rw [hrun, e1]
theorem log_New.calls (w : World) : Calls Tryd.prog 11 #[] w fun e w' => ∃ lb mb : Nat, e = .returned (.pointer (some ⟨lb, 0, none⟩)) ∧ w.heap.size ≤ lb ∧ w.heap.size ≤ mb ∧ LogIs w' lb mb 0 w.heap.size (fun _ => .slice none 0 0) (fun _ => []) ∧ Below w.heap.size w w' := by
 have hmm := @run_makeMap Tryd.prog
 go_enter Tryd.func11, Tryd.ntmps11
 go_wp2
 go_ret
 refine ⟨w.heap.size + 1, w.heap.size, rfl, by omega, Nat.le_refl _, ⟨?_, (MapIs.made w _).below (below_alloc (Below.refl _ _) _), fun x hx => ⟨Kd.R_nil _ _ _ _ _, fun _ => rfl⟩⟩, below_alloc (below_alloc (Below.refl _ _) _) _⟩
 have h := blk_new (w.alloc (.map #[] 0)) (.cells #[.map (some w.heap.size)] 58)
 rwa [show (w.alloc (.map #[] 0)).heap.size = w.heap.size + 1 by simp] at h
theorem log_Full.calls (h : LogIs w lb mb n base hdr rows) {x : SL} (hx : okL x) : Calls Tryd.prog 15 #[.pointer (some ⟨lb, 0, none⟩), lv x] w fun e w' => e = .returned (.bool (decide ((40 : Int) ≤ (rows x).length))) ∧ Below w.heap.size w w' := by
 have hc : w.cell? ⟨lb, 0, none⟩ = some (.map (some mb)) := (blk_cell h.1 0).trans rfl
 have hb0 : Below w.heap.size w (w.alloc (.cells #[.int .i64 x.f0, .int .i64 x.f1, .int .i64 x.f2, .int .i64 x.f3] 23)).drew := below_drew1 (below_alloc (Below.refl _ _) _)
 have hrun := look_run (h.2.1.below hb0) hx Tryd.underlying56 zeroSl
 obtain ⟨A, c, hA⟩ := h.shape hx
 rw [hA] at hrun
 have hc' := (hb0.cell (p := ⟨lb, 0, none⟩) (World.block_lt_of_cell? _ _ hc)).trans hc
 have HB := Aside0.mk hb0
 clear h hb0 hA
 unfold lv at hrun ⊢
 go_enter Tryd.func15, Tryd.ntmps15
 go_wp2
 go_region
 all_goals
  go_wp2
  go_ret
  exact ⟨rfl, HB.out⟩
end
theorem entry_KM {w w' : World} {base : Nat} {ok : Nat → Prop} {x : SE} {cs : List Value} (h : k26.K w x cs) : k26.M w' base ok x cs := by
 rw [k26_open h]
 exact k26_mkM _ _ _ x
/-- slices.Clone at entries. -/
theorem clone_none (c0 : Nat) (w : World) : Calls Tryd.prog 32 #[.slice none 0 c0] w fun e w' => e = .returned (.slice none 0 0) ∧ Below w.heap.size w w' := by
 have hu1 := Tryd.underlying34
 have hq : (binOp .eql 34 (.slice none 0 c0) (.slice none 0 0)).run Tryd.prog w = .ok (.bool true) w := by
  simp only [binOp]
  simp [run_equal_slice_nil w 34 26 none 0 c0 hu1]
 go_enter Tryd.func32, Tryd.ntmps32
 go_wp2_with fail
 go_ret
 exact ⟨rfl, Below.refl _ _⟩
set_option maxHeartbeats 4000000 in
theorem clone_some (ad : Addr) (c0 : Nat) (l0 : List SE) (w : World) (hr0 : Kd.C k26 w (some ad) l0.length l0) (hc0 : l0.length ≤ c0) (hl : l0.length ≤ 1000000) :
  Calls Tryd.prog 32 #[.slice (some ad) l0.length c0] w fun e w' => ∃ v, e = .returned v ∧ RE w' w.heap.size (fun _ => True) v l0 ∧ Below w.heap.size w w' := by
 have hu1 := Tryd.underlying34
 have hq : (binOp .eql 34 (.slice (some ad) l0.length c0) (.slice none 0 0)).run Tryd.prog w = .ok (.bool false) w := by
  simp only [binOp]
  simp [run_equal_slice_nil w 34 26 (some ad) l0.length c0 hu1]
 have HR := Aside0.mk hr0
 have HC := Aside0.mk hc0
 have HL := Aside0.mk hl
 clear hr0 hc0 hl
 go_enter Tryd.func32, Tryd.ntmps32
 go_wp2_with (first
  | ((with_reducible refine gate_dst (N := 5) rfl ?_); refine Kd.R_lit k26 _ 26 ?hg (N := 5) ?hd (xs := ([] : List SE)) (inner := []) (ok := fun _ => True) (okp := fun _ => True) ?hr ?hp (fun _ hk => hk) trivial (Below.refl _ _) (Nat.le_refl _) (by simp) ?_; (case hd => rfl); (case hg => rfl); (case hr => first | (go_simp; done) | (go_simp; rfl)); (case hp => exact (Reps.none _ _)); intro v1 w1 ho hb hg_ hnew_; clear hg_ hnew_; have HO := Aside0.mk ho; have HB := Aside0.mk hb; clear ho hb)
  | ((with_reducible refine gate_builtin (b := .append) (xs := #[.tmp 5, .tmp 6]) rfl ?_); at_builtin; refine Kd.R_append_rows k26 (Rr := k26.K w1) (w0 := w) w.heap.size rfl (.tmp 5) (.tmp 6) 34 26 _ 88 rfl Tryd.underlying34 info26 rfl (by decide) (by omega) v1 [] l0 _ _ _ (fun _ => True) (fun _ => False) rfl rfl ?aO ?aR ?aK (fun _ h => h.elim) ?aF ?aB ?aS ?aL ?_; (case aR => exact Kd.C_below HR.out HB.out); (case aK => exact fun _ _ h => entry_KM h); (case aB => exact HB.out); (case aF => exact fun _ _ => trivial); (case aO => exact HO.out); (case aS => exact below_size HB.out); (case aL => have := HL.out; simp only [List.length_nil]; omega); intro v2 w2 ho2 hb2 hg2 hat2; have HO2 := Aside0.mk ho2; have HB2 := Aside0.mk hb2; clear ho2 hb2 hg2 hat2))
 go_ret
 rw [List.nil_append] at HO2
 exact ⟨_, rfl, HO2.out, HB2.out⟩
theorem clone_row {W : World} {base : Nat} {ok : Nat → Prop} {v : Value} {xs : List SE} (h : RE W base ok v xs) (hn : xs = [] → v = .slice none 0 0) (hl : xs.length ≤ 1000000) :
  Calls Tryd.prog 32 #[v] W fun e w' => ∃ v', e = .returned v' ∧ RE w' W.heap.size (fun _ => True) v' xs ∧ Below W.heap.size W w' := by
 by_cases hx : xs = []
 ·rw [hn hx]
  subst hx
  exact (clone_none 0 W).mono fun e w' ⟨he, hb⟩ => ⟨_, he, Kd.R_nil _ _ _ _ _, hb⟩
 ·obtain ⟨g, cap, rfl, _, _, _⟩ := Kd.R_form h (List.length_pos_iff.2 hx)
  obtain ⟨_, hc, hC⟩ := Kd.R_reads' h
  exact clone_some _ cap xs W hC hc hl
section
variable {w w' : World} {lb mb n base : Nat} {hdr : SL → Value} {rows : SL → List SE}
set_option maxHeartbeats 4000000 in
theorem log_All.calls (h : LogIs w lb mb n base hdr rows) {x : SL} (hx : okL x) (hl : (rows x).length ≤ 1000000) : Calls Tryd.prog 14 #[.pointer (some ⟨lb, 0, none⟩), lv x] w fun e w' =>
  ∃ v, e = .returned v ∧ RE w' w.heap.size (fun _ => True) v (rows x) ∧ Below w.heap.size w w' := by
 have hc : w.cell? ⟨lb, 0, none⟩ = some (.map (some mb)) := (blk_cell h.1 0).trans rfl
 have hb0 : Below w.heap.size w (w.alloc (.cells #[.int .i64 x.f0, .int .i64 x.f1, .int .i64 x.f2, .int .i64 x.f3] 23)).drew := below_drew1 (below_alloc (Below.refl _ _) _)
 have hrun := look_run (h.2.1.below hb0) hx Tryd.underlying56 zeroSl
 have hcl := fun W (hb : Below w.heap.size w W) => clone_row (Kd.R_below (h.row hx) hb) (h.2.2 x hx).2 hl
 have hc' := (hb0.cell (p := ⟨lb, 0, none⟩) (World.block_lt_of_cell? _ _ hc)).trans hc
 have HB := Aside0.mk hb0
 have HCL := Aside0.mk hcl
 clear h hb0 hcl
 unfold lv at hrun ⊢
 generalize hdr x = v at hrun HCL
 go_enter Tryd.func14, Tryd.ntmps14
 go_wp2
 go_region_with (go_at_call 32; refine (HCL.out _ HB.out).mono ?_; rintro e w2 ⟨v2, rfl, hR, hb⟩; have HR2 := Aside0.mk hR; have HB2 := Aside0.mk hb; clear hR hb)
 all_goals
  go_wp2
  go_ret
  exact ⟨_, rfl, Kd.R_lower HR2.out (below_size HB.out), below_step HB.out HB2.out⟩
end
theorem row_beside {W w1 : World} {mb : Nat} (hm : ∃ es c, W.heap[mb]? = some (.map es c)) {α : Type} {d : Kd α} {e base : Nat} {ok : Nat → Prop} {v : Value} {xs : List α} (hR : Kd.R d e W base ok v xs) (hg : W.grownBy w1 (some mb)) : Kd.R d e w1 base ok v xs :=
 Kd.R_mono (Kd.R_move (Kd.R_bound hR) (fun k hk => by
  obtain ⟨_, _, hlt, q, _, cells, hc⟩ := hk
  refine hg.block k hlt (fun e => ?_)
  obtain ⟨es, c, hm⟩ := hm
  rw [Option.some.inj e, hm] at hc
  cases hc)) (fun _ hk => hk.1)
theorem blk_beside {W w1 : World} {mb : Nat} (hm : ∃ es c, W.heap[mb]? = some (.map es c)) {g : Nat} {cs : Array Value} {t : TypeId} {fr : Nat × Nat} (h : W.heap[g]? = some (.cells cs t fr)) (hg : W.grownBy w1 (some mb)) : w1.heap[g]? = some (.cells cs t fr) := by
 refine (hg.block g (Array.getElem?_eq_some_iff.1 h).1 (fun e => ?_)).trans h
 obtain ⟨es, c, hm⟩ := hm
 rw [Option.some.inj e, hm] at h
 cases h
end Go.Proofs.YtihknjmibnonjaaDoor.X
end

section
/- (*Log).Add: an entry that may not be is refused, one beyond the room, too; else it is the last one of its label. -/
namespace Go.Proofs.YtihknjmibnonjaaDoor.X
open Go.RowKit Go.Proofs.YtihknjmibnonjaaDoorW.PrintWords Go.Proofs.YtihknjmibnonjaaDoorW.PrintLast Go.Proofs.YtihknjmibnonjaaDoorW.PrintMore Go.Proofs.YtihknjmibnonjaaDoor.More
set_option linter.unusedVariables false
set_option linter.unusedSimpArgs false
set_option maxRecDepth 100000
/-- May a label be? -/
def labOk (x : SL) : Prop := (0 ≤ x.f0 ∧ x.f0 ≤ 3) ∧ (0 ≤ x.f2 ∧ x.f2 ≤ 3) ∧ (0 ≤ x.f1 ∧ x.f1 ≤ 255) ∧ (0 ≤ x.f3 ∧ x.f3 ≤ 255)
instance (x : SL) : Decidable (labOk x) := by unfold labOk; infer_instance
theorem labOk.wf {x : SL} (h : labOk x) : okL x := by
 obtain ⟨h0, h2, h1, h3⟩ := h
 exact ⟨WalkArith.wf_i64 (by omega), WalkArith.wf_i64 (by omega), WalkArith.wf_i64 (by omega), WalkArith.wf_i64 (by omega)⟩
theorem level_f (a : Int) : label_level.f a = some (decide (0 ≤ a ∧ a ≤ 3)) := by
 unfold label_level.f
 by_cases h : a ≥ 0
 ·rw [if_pos h]; simp [h]
 ·rw [if_neg h]; simp [h]
theorem cats_f (a : Int) : label_cats.f a = some (decide (0 ≤ a ∧ a ≤ 255)) := by
 unfold label_cats.f
 by_cases h : a ≥ 0
 ·rw [if_pos h]; simp [h]
 ·rw [if_neg h]; simp [h]
theorem check_f (x : SL) : label_Check.f x.f0 x.f1 x.f2 x.f3 = some (if labOk x then 0 else 1) := by
 unfold label_Check.f
 rw [level_f, level_f, cats_f, cats_f]
 simp only [Option.bind_some, decide_eq_true_eq]
 by_cases h0 : 0 ≤ x.f0 ∧ x.f0 ≤ 3
 ·by_cases h2 : 0 ≤ x.f2 ∧ x.f2 ≤ 3
  ·by_cases h1 : 0 ≤ x.f1 ∧ x.f1 ≤ 255
   ·by_cases h3 : 0 ≤ x.f3 ∧ x.f3 ≤ 255
    ·rw [if_pos h0, if_pos h2, if_pos h1, if_pos h3, if_pos (show labOk x from ⟨h0, h2, h1, h3⟩)]
    ·rw [if_pos h0, if_pos h2, if_pos h1, if_neg h3, if_neg (fun h : labOk x => h3 h.2.2.2)]
   ·rw [if_pos h0, if_pos h2, if_neg h1, if_neg (fun h : labOk x => h1 h.2.2.1)]
  ·rw [if_pos h0, if_neg h2, if_neg (fun h : labOk x => h2 h.2.1)]
 ·rw [if_neg h0, if_neg (fun h : labOk x => h0 h.1)]
/-- May an entry be? -/
def mayE (e : SE) : Prop := labOk e.f1 ∧ ¬ e.f3 < 1 ∧ ¬ e.f3 > 14 ∧ ¬ (e.f2.size : Int) > 78 ∧ ¬ (e.f4.size : Int) > 78 ∧ ¬ e.f5 < 0 ∧ ¬ e.f5 > 255
instance (e : SE) : Decidable (mayE e) := by unfold mayE; infer_instance
def updR (rows : SL → List SE) (x : SL) (l : List SE) : SL → List SE := fun y => if y = x then l else rows y
/-- What has turned at most: the log's map, and its rows; else what was there is as it was. -/
structure LogStep (w w' : World) (mb : Nat) (hdr : SL → Value) : Prop where
 os : w'.os = w.os
 tape : w'.tape = w.tape
 output : w'.output = w.output
 size : w.heap.size ≤ w'.heap.size
 block : ∀ k, k < w.heap.size → k ≠ mb → okA hdr k → w'.heap[k]? = w.heap[k]?
def ev (e : SE) : Value := .agg #[.int .i64 e.f0, .int .i64 e.f1.f0, .int .i64 e.f1.f1, .int .i64 e.f1.f2, .int .i64 e.f1.f3, .string e.f2, .int .i64 e.f3, .string e.f4, .int .i64 e.f5]
theorem LogStep.of_below {w w' : World} (hb : Below w.heap.size w w') (mb : Nat) (hdr : SL → Value) : LogStep w w' mb hdr := ⟨hb.os, hb.tape, hb.output, hb.size, fun k hk _ _ => hb.block k hk⟩
/-- What was made before the log was, stands. -/
theorem LogStep.below {B : Nat} {w0 w w' : World} {lb mb n base : Nat} {hdr : SL → Value} {rows : SL → List SE} (h : Below B w0 w) (hB : B ≤ w.heap.size) (hL : LogIs w lb mb n base hdr rows) (s : LogStep w w' mb hdr) (hm : B ≤ mb) (hbase : B ≤ base) : Below B w0 w' :=
 ⟨s.os.trans h.os, s.tape.trans h.tape, s.output.trans h.output, Nat.le_trans h.size s.size, fun k hk => (s.block k (Nat.lt_of_lt_of_le hk hB) (by omega) (fun y hy e => by have := Kd.R_base (hL.row hy) _ e; omega)).trans (h.block k hk)⟩
theorem LogStep.row {w w' : World} {mb : Nat} {hdr : SL → Value} (s : LogStep w w' mb hdr) (hm : ∃ es c, w.heap[mb]? = some (.map es c)) {α : Type} {d : Kd α} {e base : Nat} {v : Value} {xs : List α} (hR : Kd.R d e w base (okA hdr) v xs) : Kd.R d e w' base (fun k => okA hdr k ∧ k < w.heap.size) v xs :=
 Kd.R_mono (Kd.R_move (Kd.R_bound hR) (fun k hk => by
  obtain ⟨ho, _, hlt, q, _, cells, hc⟩ := hk
  refine s.block k hlt (fun e => ?_) ho
  obtain ⟨es, c, hm⟩ := hm
  rw [e, hm] at hc
  cases hc)) (fun _ hk => ⟨hk.1, hk.2.2.1⟩)
theorem LogStep.blk {w w' : World} {lb mb n base : Nat} {hdr : SL → Value} {rows : SL → List SE} (s : LogStep w w' mb hdr) (hL : LogIs w lb mb n base hdr rows) {g : Nat} {cs : Array Value} {t : TypeId} (h : w.heap[g]? = some (.cells cs t (0, 0))) (ht : t ≠ 26) : w'.heap[g]? = some (.cells cs t (0, 0)) := by
 refine (s.block g (Array.getElem?_eq_some_iff.1 h).1 (fun e => ?_) (fun y hy e => ?_)).trans h
 ·obtain ⟨es, c, hm⟩ := hL.isMap
  rw [← e, h] at hm
  cases hm
 ·obtain ⟨cells, hc⟩ := Kd.R_typed (hL.row hy) g e
  rw [hc] at h
  injection h with h
  injection h with _ h
  exact ht h.symm
theorem LogStep.blkA {w w' : World} {lb mb n base : Nat} {hdr : SL → Value} {rows : SL → List SE} (s : LogStep w w' mb hdr) (hL : LogIs w lb mb n base hdr rows) {g : Nat} {cs : Array Value} {t : TypeId} (h : w.heap[g]? = some (.cells cs t (0, 0))) (ho : okA hdr g) : w'.heap[g]? = some (.cells cs t (0, 0)) := by
 refine (s.block g (Array.getElem?_eq_some_iff.1 h).1 (fun e => ?_) ho).trans h
 obtain ⟨es, c, hm⟩ := hL.isMap
 rw [← e, h] at hm
 cases hm
theorem reads_one {W : World} {g : Nat} {cs : List Value} (e : SE) (hcs : k26.K W e cs) (h : W.heap[g]? = some (.cells cs.toArray 26 (0, 0))) : ReadsRow (k26.K W) 9 W (some ⟨g, 0, none⟩) 1 [e] := by
 refine ⟨rfl, by omega, fun _ => ⟨_, rfl, fun j p hj => ?_⟩⟩
 match j, hj with
 | 0, hj =>
  simp only [List.getElem?_cons_zero, Option.some.injEq] at hj
  subst hj
  refine ⟨cs, k26.K_len hcs, hcs, fun i u hu => ?_⟩
  rw [add_plain, Nat.zero_mul, Nat.zero_add, blk_cell h]
  simpa using hu
 | j + 1, hj => simp at hj
section
variable {w : World} {lb mb n base : Nat} {hdr : SL → Value} {rows : SL → List SE}
/-- A label's row has a last one more: what the log is behind it. -/
theorem log_put {WA w1 w3 : World} (h : LogIs w lb mb n base hdr rows) {x : SL} (hx : okL x) (hA : w.grownBy WA (some mb)) {v1 : Value} {l : List SE} (hl : l ≠ [])
  (hR1 : RE w1 base (fun k => ∀ y, okL y → y ≠ x → (hdr y).ownBlock ≠ some k) v1 l) (hg1 : WA.grownBy w1 (hdr x).ownBlock) (hat : v1.ownBlock = (hdr x).ownBlock ∨ ∃ b, v1.ownBlock = some b ∧ WA.heap.size ≤ b)
  (hM : MapIs w3 mb (n + 1) (.slice none 0 0) (upd hdr x v1)) (hg3 : w1.grownBy w3 (some mb)) (hmA : ∃ es c, WA.heap[mb]? = some (.map es c)) :
  LogIs w3 lb mb (n + 1) base (upd hdr x v1) (updR rows x l) ∧ LogStep w w3 mb hdr ∧ ∀ k, k < w.heap.size → okA hdr k → okA (upd hdr x v1) k := by
 have hbn : ∀ y, okL y → ∀ k, (hdr y).ownBlock = some k → k < w.heap.size ∧ k ≠ mb := fun y hy k hk => ⟨Kd.R_lt (h.row hy) k hk, fun e => by
  obtain ⟨cells, hc⟩ := Kd.R_typed (h.row hy) k hk
  obtain ⟨es, c, hm⟩ := h.isMap
  rw [e, hm] at hc
  cases hc⟩
 have hstep : ∀ k, k < w.heap.size → k ≠ mb → (hdr x).ownBlock ≠ some k → w3.heap[k]? = w.heap[k]? := fun k hk h1 h2 => by
  have a1 := hA.block k hk (fun e => h1 (Option.some.inj e))
  have a2 := hg1.block k (Nat.lt_of_lt_of_le hk hA.size) (fun e => h2 e.symm)
  have a3 := hg3.block k (Nat.lt_of_lt_of_le (Nat.lt_of_lt_of_le hk hA.size) hg1.size) (fun e => h1 (Option.some.inj e))
  rw [a3, a2, a1]
 have hup : ∀ k, k < w.heap.size → okA hdr k → okA (upd hdr x v1) k := fun k hk ho y hy e => by
  unfold upd at e
  split at e
  ·rcases hat with hat | ⟨b, hb, hlt⟩
   ·exact ho x hx (hat ▸ e)
   ·rw [hb] at e
    have := Option.some.inj e
    have := hA.size
    omega
  ·exact ho y hy e
 refine ⟨⟨?_, hM, fun y hy => ?_⟩, ⟨hg3.os.trans (hg1.os.trans hA.os), hg3.tape.trans (hg1.tape.trans hA.tape), hg3.output.trans (hg1.output.trans hA.output), Nat.le_trans hA.size (Nat.le_trans hg1.size hg3.size), fun k hk h1 ho => hstep k hk h1 (ho x hx)⟩, hup⟩
 ·have hlb := h.1
  refine (hstep lb (Array.getElem?_eq_some_iff.1 hlb).1 h.ne (fun e => ?_)).trans hlb
  obtain ⟨cells, hc⟩ := Kd.R_typed (h.row hx) lb e
  rw [hlb] at hc
  injection hc with hc
  injection hc with _ hc
  exact absurd hc (by decide)
 ·by_cases hyx : y = x
  ·subst hyx
   rw [show upd hdr y v1 y = v1 from upd_same _ _ _, show updR rows y l y = l from if_pos rfl]
   refine ⟨Kd.R_mono (Kd.R_move (Kd.R_bound hR1) (fun k hk => ?_)) (fun k hk z hz hzy e => ?_), fun e => absurd e hl⟩
   ·obtain ⟨_, _, hlt, q, _, cells, hc⟩ := hk
    refine hg3.block k hlt (fun e => ?_)
    obtain ⟨es, c, hm⟩ := h.isMap
    have hm1 : ∃ es c, w1.heap[mb]? = some (.map es c) := by
     obtain ⟨es3, c3, hm3⟩ := hmA
     exact ⟨es3, c3, (hg1.block mb (Array.getElem?_eq_some_iff.1 hm3).1 (fun e => (hbn y hx mb e.symm).2 rfl)).trans hm3⟩
    obtain ⟨es1, c1, hm1⟩ := hm1
    rw [Option.some.inj e, hm1] at hc
    cases hc
   ·rw [show upd hdr y v1 z = hdr z by simp [upd, hzy]] at e
    exact hk.1 z hz hzy e
  ·rw [show upd hdr x v1 y = hdr y by simp [upd, hyx], show updR rows x l y = rows y by simp [updR, hyx]]
   refine ⟨Kd.R_mono (Kd.R_move (Kd.R_bound (h.2.2 y hy).1) (fun k hk => ?_)) (fun k hk z hz hzy e => ?_), (h.2.2 y hy).2⟩
   ·obtain ⟨ho, _, hlt, q, _, cells, hc⟩ := hk
    refine hstep k hlt (fun e => ?_) (ho x hx (fun e => hyx e.symm))
    obtain ⟨es, c, hm⟩ := h.isMap
    rw [e, hm] at hc
    cases hc
   ·unfold upd at e
    split at e
    ·rename_i hzx
     rcases hat with hat | ⟨b, hb, hlt⟩
     ·rw [hat] at e
      exact hk.1 x hx (fun e => hyx e.symm) e
     ·rw [hb] at e
      have h1 := Option.some.inj e
      have h2 := hA.size
      have h3 := hk.2.2.1
      omega
    ·exact hk.1 z hz hzy e
end
theorem log_Add_bad0 (lb : Nat) (w : World) (e : SE) (h0 : ¬ labOk e.f1) : Calls Tryd.prog 13 #[.pointer (some ⟨lb, 0, none⟩), ev e] w fun r w' => r = .returned (.int .i64 1) ∧ Below w.heap.size w w' := by
 have HCK : Aside0 (label_Check.f e.f1.f0 e.f1.f1 e.f1.f2 e.f1.f3 = some 1) := ⟨by rw [check_f, if_neg h0]⟩
 clear h0
 unfold ev
 go_enter Tryd.func13, Tryd.ntmps13
 go_wp2_with fail
 refine (label_Check.calls e.f1.f0 e.f1.f1 e.f1.f2 e.f1.f3 1 _ HCK.out).mono ?_
 rintro r w1 ⟨rfl, hb⟩
 have HB1 := Aside0.mk (below_step (below_alloc (Below.refl _ w) _) hb)
 have BE1 := Aside0.mk (blk_below (blk_new w (.cells #[.int .i64 e.f0, .int .i64 e.f1.f0, .int .i64 e.f1.f1, .int .i64 e.f1.f2, .int .i64 e.f1.f3, .string e.f2, .int .i64 e.f3, .string e.f4, .int .i64 e.f5] 26)) hb)
 clear hb
 have c0 : w1.cell? ⟨w.heap.size, 0, none⟩ = some (.int .i64 e.f0) := (blk_cell BE1.out 0).trans rfl
 have c1 : w1.cell? ⟨w.heap.size, 1, none⟩ = some (.int .i64 e.f1.f0) := (blk_cell BE1.out 1).trans rfl
 have c2 : w1.cell? ⟨w.heap.size, 2, none⟩ = some (.int .i64 e.f1.f1) := (blk_cell BE1.out 2).trans rfl
 have c3 : w1.cell? ⟨w.heap.size, 3, none⟩ = some (.int .i64 e.f1.f2) := (blk_cell BE1.out 3).trans rfl
 have c4 : w1.cell? ⟨w.heap.size, 4, none⟩ = some (.int .i64 e.f1.f3) := (blk_cell BE1.out 4).trans rfl
 have c5 : w1.cell? ⟨w.heap.size, 5, none⟩ = some (.string e.f2) := (blk_cell BE1.out 5).trans rfl
 have c6 : w1.cell? ⟨w.heap.size, 6, none⟩ = some (.int .i64 e.f3) := (blk_cell BE1.out 6).trans rfl
 have c7 : w1.cell? ⟨w.heap.size, 7, none⟩ = some (.string e.f4) := (blk_cell BE1.out 7).trans rfl
 have c8 : w1.cell? ⟨w.heap.size, 8, none⟩ = some (.int .i64 e.f5) := (blk_cell BE1.out 8).trans rfl
 go_wp2
 go_ret
 exact ⟨rfl, HB1.out⟩
theorem log_Add_bad1 (lb : Nat) (w : World) (e : SE) (h0 : labOk e.f1) (t1 : e.f3 < 1) : Calls Tryd.prog 13 #[.pointer (some ⟨lb, 0, none⟩), ev e] w fun r w' => r = .returned (.int .i64 1) ∧ Below w.heap.size w w' := by
 have HCK : Aside0 (label_Check.f e.f1.f0 e.f1.f1 e.f1.f2 e.f1.f3 = some 0) := ⟨by rw [check_f, if_pos h0]⟩
 have d0 : decide (e.f3 < 1) = true := decide_eq_true t1
 clear h0 t1
 unfold ev
 go_enter Tryd.func13, Tryd.ntmps13
 go_wp2_with fail
 refine (label_Check.calls e.f1.f0 e.f1.f1 e.f1.f2 e.f1.f3 0 _ HCK.out).mono ?_
 rintro r w1 ⟨rfl, hb⟩
 have HB1 := Aside0.mk (below_step (below_alloc (Below.refl _ w) _) hb)
 have BE1 := Aside0.mk (blk_below (blk_new w (.cells #[.int .i64 e.f0, .int .i64 e.f1.f0, .int .i64 e.f1.f1, .int .i64 e.f1.f2, .int .i64 e.f1.f3, .string e.f2, .int .i64 e.f3, .string e.f4, .int .i64 e.f5] 26)) hb)
 clear hb
 have c0 : w1.cell? ⟨w.heap.size, 0, none⟩ = some (.int .i64 e.f0) := (blk_cell BE1.out 0).trans rfl
 have c1 : w1.cell? ⟨w.heap.size, 1, none⟩ = some (.int .i64 e.f1.f0) := (blk_cell BE1.out 1).trans rfl
 have c2 : w1.cell? ⟨w.heap.size, 2, none⟩ = some (.int .i64 e.f1.f1) := (blk_cell BE1.out 2).trans rfl
 have c3 : w1.cell? ⟨w.heap.size, 3, none⟩ = some (.int .i64 e.f1.f2) := (blk_cell BE1.out 3).trans rfl
 have c4 : w1.cell? ⟨w.heap.size, 4, none⟩ = some (.int .i64 e.f1.f3) := (blk_cell BE1.out 4).trans rfl
 have c5 : w1.cell? ⟨w.heap.size, 5, none⟩ = some (.string e.f2) := (blk_cell BE1.out 5).trans rfl
 have c6 : w1.cell? ⟨w.heap.size, 6, none⟩ = some (.int .i64 e.f3) := (blk_cell BE1.out 6).trans rfl
 have c7 : w1.cell? ⟨w.heap.size, 7, none⟩ = some (.string e.f4) := (blk_cell BE1.out 7).trans rfl
 have c8 : w1.cell? ⟨w.heap.size, 8, none⟩ = some (.int .i64 e.f5) := (blk_cell BE1.out 8).trans rfl
 go_wp2
 go_ret
 exact ⟨rfl, HB1.out⟩
theorem log_Add_bad2 (lb : Nat) (w : World) (e : SE) (h0 : labOk e.f1) (t1 : ¬ e.f3 < 1) (t2 : e.f3 > 14) : Calls Tryd.prog 13 #[.pointer (some ⟨lb, 0, none⟩), ev e] w fun r w' => r = .returned (.int .i64 1) ∧ Below w.heap.size w w' := by
 have HCK : Aside0 (label_Check.f e.f1.f0 e.f1.f1 e.f1.f2 e.f1.f3 = some 0) := ⟨by rw [check_f, if_pos h0]⟩
 have d0 : decide (e.f3 < 1) = false := decide_eq_false t1
 have d1 : decide (e.f3 > 14) = true := decide_eq_true t2
 clear h0 t1 t2
 unfold ev
 go_enter Tryd.func13, Tryd.ntmps13
 go_wp2_with fail
 refine (label_Check.calls e.f1.f0 e.f1.f1 e.f1.f2 e.f1.f3 0 _ HCK.out).mono ?_
 rintro r w1 ⟨rfl, hb⟩
 have HB1 := Aside0.mk (below_step (below_alloc (Below.refl _ w) _) hb)
 have BE1 := Aside0.mk (blk_below (blk_new w (.cells #[.int .i64 e.f0, .int .i64 e.f1.f0, .int .i64 e.f1.f1, .int .i64 e.f1.f2, .int .i64 e.f1.f3, .string e.f2, .int .i64 e.f3, .string e.f4, .int .i64 e.f5] 26)) hb)
 clear hb
 have c0 : w1.cell? ⟨w.heap.size, 0, none⟩ = some (.int .i64 e.f0) := (blk_cell BE1.out 0).trans rfl
 have c1 : w1.cell? ⟨w.heap.size, 1, none⟩ = some (.int .i64 e.f1.f0) := (blk_cell BE1.out 1).trans rfl
 have c2 : w1.cell? ⟨w.heap.size, 2, none⟩ = some (.int .i64 e.f1.f1) := (blk_cell BE1.out 2).trans rfl
 have c3 : w1.cell? ⟨w.heap.size, 3, none⟩ = some (.int .i64 e.f1.f2) := (blk_cell BE1.out 3).trans rfl
 have c4 : w1.cell? ⟨w.heap.size, 4, none⟩ = some (.int .i64 e.f1.f3) := (blk_cell BE1.out 4).trans rfl
 have c5 : w1.cell? ⟨w.heap.size, 5, none⟩ = some (.string e.f2) := (blk_cell BE1.out 5).trans rfl
 have c6 : w1.cell? ⟨w.heap.size, 6, none⟩ = some (.int .i64 e.f3) := (blk_cell BE1.out 6).trans rfl
 have c7 : w1.cell? ⟨w.heap.size, 7, none⟩ = some (.string e.f4) := (blk_cell BE1.out 7).trans rfl
 have c8 : w1.cell? ⟨w.heap.size, 8, none⟩ = some (.int .i64 e.f5) := (blk_cell BE1.out 8).trans rfl
 go_wp2
 go_ret
 exact ⟨rfl, HB1.out⟩
theorem log_Add_bad3 (lb : Nat) (w : World) (e : SE) (h0 : labOk e.f1) (t1 : ¬ e.f3 < 1) (t2 : ¬ e.f3 > 14) (t3 : (e.f2.size : Int) > 78) : Calls Tryd.prog 13 #[.pointer (some ⟨lb, 0, none⟩), ev e] w fun r w' => r = .returned (.int .i64 1) ∧ Below w.heap.size w w' := by
 have HCK : Aside0 (label_Check.f e.f1.f0 e.f1.f1 e.f1.f2 e.f1.f3 = some 0) := ⟨by rw [check_f, if_pos h0]⟩
 have d0 : decide (e.f3 < 1) = false := decide_eq_false t1
 have d1 : decide (e.f3 > 14) = false := decide_eq_false t2
 have d2 : decide ((e.f2.size : Int) > 78) = true := decide_eq_true t3
 clear h0 t1 t2 t3
 unfold ev
 go_enter Tryd.func13, Tryd.ntmps13
 go_wp2_with fail
 refine (label_Check.calls e.f1.f0 e.f1.f1 e.f1.f2 e.f1.f3 0 _ HCK.out).mono ?_
 rintro r w1 ⟨rfl, hb⟩
 have HB1 := Aside0.mk (below_step (below_alloc (Below.refl _ w) _) hb)
 have BE1 := Aside0.mk (blk_below (blk_new w (.cells #[.int .i64 e.f0, .int .i64 e.f1.f0, .int .i64 e.f1.f1, .int .i64 e.f1.f2, .int .i64 e.f1.f3, .string e.f2, .int .i64 e.f3, .string e.f4, .int .i64 e.f5] 26)) hb)
 clear hb
 have c0 : w1.cell? ⟨w.heap.size, 0, none⟩ = some (.int .i64 e.f0) := (blk_cell BE1.out 0).trans rfl
 have c1 : w1.cell? ⟨w.heap.size, 1, none⟩ = some (.int .i64 e.f1.f0) := (blk_cell BE1.out 1).trans rfl
 have c2 : w1.cell? ⟨w.heap.size, 2, none⟩ = some (.int .i64 e.f1.f1) := (blk_cell BE1.out 2).trans rfl
 have c3 : w1.cell? ⟨w.heap.size, 3, none⟩ = some (.int .i64 e.f1.f2) := (blk_cell BE1.out 3).trans rfl
 have c4 : w1.cell? ⟨w.heap.size, 4, none⟩ = some (.int .i64 e.f1.f3) := (blk_cell BE1.out 4).trans rfl
 have c5 : w1.cell? ⟨w.heap.size, 5, none⟩ = some (.string e.f2) := (blk_cell BE1.out 5).trans rfl
 have c6 : w1.cell? ⟨w.heap.size, 6, none⟩ = some (.int .i64 e.f3) := (blk_cell BE1.out 6).trans rfl
 have c7 : w1.cell? ⟨w.heap.size, 7, none⟩ = some (.string e.f4) := (blk_cell BE1.out 7).trans rfl
 have c8 : w1.cell? ⟨w.heap.size, 8, none⟩ = some (.int .i64 e.f5) := (blk_cell BE1.out 8).trans rfl
 go_wp2
 go_ret
 exact ⟨rfl, HB1.out⟩
theorem log_Add_bad4 (lb : Nat) (w : World) (e : SE) (h0 : labOk e.f1) (t1 : ¬ e.f3 < 1) (t2 : ¬ e.f3 > 14) (t3 : ¬ (e.f2.size : Int) > 78) (t4 : (e.f4.size : Int) > 78) : Calls Tryd.prog 13 #[.pointer (some ⟨lb, 0, none⟩), ev e] w fun r w' => r = .returned (.int .i64 1) ∧ Below w.heap.size w w' := by
 have HCK : Aside0 (label_Check.f e.f1.f0 e.f1.f1 e.f1.f2 e.f1.f3 = some 0) := ⟨by rw [check_f, if_pos h0]⟩
 have d0 : decide (e.f3 < 1) = false := decide_eq_false t1
 have d1 : decide (e.f3 > 14) = false := decide_eq_false t2
 have d2 : decide ((e.f2.size : Int) > 78) = false := decide_eq_false t3
 have d3 : decide ((e.f4.size : Int) > 78) = true := decide_eq_true t4
 clear h0 t1 t2 t3 t4
 unfold ev
 go_enter Tryd.func13, Tryd.ntmps13
 go_wp2_with fail
 refine (label_Check.calls e.f1.f0 e.f1.f1 e.f1.f2 e.f1.f3 0 _ HCK.out).mono ?_
 rintro r w1 ⟨rfl, hb⟩
 have HB1 := Aside0.mk (below_step (below_alloc (Below.refl _ w) _) hb)
 have BE1 := Aside0.mk (blk_below (blk_new w (.cells #[.int .i64 e.f0, .int .i64 e.f1.f0, .int .i64 e.f1.f1, .int .i64 e.f1.f2, .int .i64 e.f1.f3, .string e.f2, .int .i64 e.f3, .string e.f4, .int .i64 e.f5] 26)) hb)
 clear hb
 have c0 : w1.cell? ⟨w.heap.size, 0, none⟩ = some (.int .i64 e.f0) := (blk_cell BE1.out 0).trans rfl
 have c1 : w1.cell? ⟨w.heap.size, 1, none⟩ = some (.int .i64 e.f1.f0) := (blk_cell BE1.out 1).trans rfl
 have c2 : w1.cell? ⟨w.heap.size, 2, none⟩ = some (.int .i64 e.f1.f1) := (blk_cell BE1.out 2).trans rfl
 have c3 : w1.cell? ⟨w.heap.size, 3, none⟩ = some (.int .i64 e.f1.f2) := (blk_cell BE1.out 3).trans rfl
 have c4 : w1.cell? ⟨w.heap.size, 4, none⟩ = some (.int .i64 e.f1.f3) := (blk_cell BE1.out 4).trans rfl
 have c5 : w1.cell? ⟨w.heap.size, 5, none⟩ = some (.string e.f2) := (blk_cell BE1.out 5).trans rfl
 have c6 : w1.cell? ⟨w.heap.size, 6, none⟩ = some (.int .i64 e.f3) := (blk_cell BE1.out 6).trans rfl
 have c7 : w1.cell? ⟨w.heap.size, 7, none⟩ = some (.string e.f4) := (blk_cell BE1.out 7).trans rfl
 have c8 : w1.cell? ⟨w.heap.size, 8, none⟩ = some (.int .i64 e.f5) := (blk_cell BE1.out 8).trans rfl
 go_wp2
 go_ret
 exact ⟨rfl, HB1.out⟩
theorem log_Add_bad5 (lb : Nat) (w : World) (e : SE) (h0 : labOk e.f1) (t1 : ¬ e.f3 < 1) (t2 : ¬ e.f3 > 14) (t3 : ¬ (e.f2.size : Int) > 78) (t4 : ¬ (e.f4.size : Int) > 78) (t5 : e.f5 < 0) : Calls Tryd.prog 13 #[.pointer (some ⟨lb, 0, none⟩), ev e] w fun r w' => r = .returned (.int .i64 1) ∧ Below w.heap.size w w' := by
 have HCK : Aside0 (label_Check.f e.f1.f0 e.f1.f1 e.f1.f2 e.f1.f3 = some 0) := ⟨by rw [check_f, if_pos h0]⟩
 have d0 : decide (e.f3 < 1) = false := decide_eq_false t1
 have d1 : decide (e.f3 > 14) = false := decide_eq_false t2
 have d2 : decide ((e.f2.size : Int) > 78) = false := decide_eq_false t3
 have d3 : decide ((e.f4.size : Int) > 78) = false := decide_eq_false t4
 have d4 : decide (e.f5 < 0) = true := decide_eq_true t5
 clear h0 t1 t2 t3 t4 t5
 unfold ev
 go_enter Tryd.func13, Tryd.ntmps13
 go_wp2_with fail
 refine (label_Check.calls e.f1.f0 e.f1.f1 e.f1.f2 e.f1.f3 0 _ HCK.out).mono ?_
 rintro r w1 ⟨rfl, hb⟩
 have HB1 := Aside0.mk (below_step (below_alloc (Below.refl _ w) _) hb)
 have BE1 := Aside0.mk (blk_below (blk_new w (.cells #[.int .i64 e.f0, .int .i64 e.f1.f0, .int .i64 e.f1.f1, .int .i64 e.f1.f2, .int .i64 e.f1.f3, .string e.f2, .int .i64 e.f3, .string e.f4, .int .i64 e.f5] 26)) hb)
 clear hb
 have c0 : w1.cell? ⟨w.heap.size, 0, none⟩ = some (.int .i64 e.f0) := (blk_cell BE1.out 0).trans rfl
 have c1 : w1.cell? ⟨w.heap.size, 1, none⟩ = some (.int .i64 e.f1.f0) := (blk_cell BE1.out 1).trans rfl
 have c2 : w1.cell? ⟨w.heap.size, 2, none⟩ = some (.int .i64 e.f1.f1) := (blk_cell BE1.out 2).trans rfl
 have c3 : w1.cell? ⟨w.heap.size, 3, none⟩ = some (.int .i64 e.f1.f2) := (blk_cell BE1.out 3).trans rfl
 have c4 : w1.cell? ⟨w.heap.size, 4, none⟩ = some (.int .i64 e.f1.f3) := (blk_cell BE1.out 4).trans rfl
 have c5 : w1.cell? ⟨w.heap.size, 5, none⟩ = some (.string e.f2) := (blk_cell BE1.out 5).trans rfl
 have c6 : w1.cell? ⟨w.heap.size, 6, none⟩ = some (.int .i64 e.f3) := (blk_cell BE1.out 6).trans rfl
 have c7 : w1.cell? ⟨w.heap.size, 7, none⟩ = some (.string e.f4) := (blk_cell BE1.out 7).trans rfl
 have c8 : w1.cell? ⟨w.heap.size, 8, none⟩ = some (.int .i64 e.f5) := (blk_cell BE1.out 8).trans rfl
 go_wp2
 go_ret
 exact ⟨rfl, HB1.out⟩
theorem log_Add_bad6 (lb : Nat) (w : World) (e : SE) (h0 : labOk e.f1) (t1 : ¬ e.f3 < 1) (t2 : ¬ e.f3 > 14) (t3 : ¬ (e.f2.size : Int) > 78) (t4 : ¬ (e.f4.size : Int) > 78) (t5 : ¬ e.f5 < 0) (t6 : e.f5 > 255) : Calls Tryd.prog 13 #[.pointer (some ⟨lb, 0, none⟩), ev e] w fun r w' => r = .returned (.int .i64 1) ∧ Below w.heap.size w w' := by
 have HCK : Aside0 (label_Check.f e.f1.f0 e.f1.f1 e.f1.f2 e.f1.f3 = some 0) := ⟨by rw [check_f, if_pos h0]⟩
 have d0 : decide (e.f3 < 1) = false := decide_eq_false t1
 have d1 : decide (e.f3 > 14) = false := decide_eq_false t2
 have d2 : decide ((e.f2.size : Int) > 78) = false := decide_eq_false t3
 have d3 : decide ((e.f4.size : Int) > 78) = false := decide_eq_false t4
 have d4 : decide (e.f5 < 0) = false := decide_eq_false t5
 have d5 : decide (e.f5 > 255) = true := decide_eq_true t6
 clear h0 t1 t2 t3 t4 t5 t6
 unfold ev
 go_enter Tryd.func13, Tryd.ntmps13
 go_wp2_with fail
 refine (label_Check.calls e.f1.f0 e.f1.f1 e.f1.f2 e.f1.f3 0 _ HCK.out).mono ?_
 rintro r w1 ⟨rfl, hb⟩
 have HB1 := Aside0.mk (below_step (below_alloc (Below.refl _ w) _) hb)
 have BE1 := Aside0.mk (blk_below (blk_new w (.cells #[.int .i64 e.f0, .int .i64 e.f1.f0, .int .i64 e.f1.f1, .int .i64 e.f1.f2, .int .i64 e.f1.f3, .string e.f2, .int .i64 e.f3, .string e.f4, .int .i64 e.f5] 26)) hb)
 clear hb
 have c0 : w1.cell? ⟨w.heap.size, 0, none⟩ = some (.int .i64 e.f0) := (blk_cell BE1.out 0).trans rfl
 have c1 : w1.cell? ⟨w.heap.size, 1, none⟩ = some (.int .i64 e.f1.f0) := (blk_cell BE1.out 1).trans rfl
 have c2 : w1.cell? ⟨w.heap.size, 2, none⟩ = some (.int .i64 e.f1.f1) := (blk_cell BE1.out 2).trans rfl
 have c3 : w1.cell? ⟨w.heap.size, 3, none⟩ = some (.int .i64 e.f1.f2) := (blk_cell BE1.out 3).trans rfl
 have c4 : w1.cell? ⟨w.heap.size, 4, none⟩ = some (.int .i64 e.f1.f3) := (blk_cell BE1.out 4).trans rfl
 have c5 : w1.cell? ⟨w.heap.size, 5, none⟩ = some (.string e.f2) := (blk_cell BE1.out 5).trans rfl
 have c6 : w1.cell? ⟨w.heap.size, 6, none⟩ = some (.int .i64 e.f3) := (blk_cell BE1.out 6).trans rfl
 have c7 : w1.cell? ⟨w.heap.size, 7, none⟩ = some (.string e.f4) := (blk_cell BE1.out 7).trans rfl
 have c8 : w1.cell? ⟨w.heap.size, 8, none⟩ = some (.int .i64 e.f5) := (blk_cell BE1.out 8).trans rfl
 go_wp2
 go_ret
 exact ⟨rfl, HB1.out⟩
theorem log_Add_bad (lb : Nat) (w : World) (e : SE) (h : ¬ mayE e) : Calls Tryd.prog 13 #[.pointer (some ⟨lb, 0, none⟩), ev e] w fun r w' => r = .returned (.int .i64 1) ∧ Below w.heap.size w w' := by
 by_cases h0 : labOk e.f1
 ·by_cases t1 : e.f3 < 1
  ·exact log_Add_bad1 lb w e h0 t1
  ·by_cases t2 : e.f3 > 14
   ·exact log_Add_bad2 lb w e h0 t1 t2
   ·by_cases t3 : (e.f2.size : Int) > 78
    ·exact log_Add_bad3 lb w e h0 t1 t2 t3
    ·by_cases t4 : (e.f4.size : Int) > 78
     ·exact log_Add_bad4 lb w e h0 t1 t2 t3 t4
     ·by_cases t5 : e.f5 < 0
      ·exact log_Add_bad5 lb w e h0 t1 t2 t3 t4 t5
      ·by_cases t6 : e.f5 > 255
       ·exact log_Add_bad6 lb w e h0 t1 t2 t3 t4 t5 t6
       ·exact absurd ⟨h0, t1, t2, t3, t4, t5, t6⟩ h
 ·exact log_Add_bad0 lb w e h0
theorem log_Add_full {w : World} {lb mb n base : Nat} {hdr : SL → Value} {rows : SL → List SE} (h : LogIs w lb mb n base hdr rows) (e : SE) (hm : mayE e) (hf : 40 ≤ (rows e.f1).length) : Calls Tryd.prog 13 #[.pointer (some ⟨lb, 0, none⟩), ev e] w fun r w' => r = .returned (.int .i64 18) ∧ Below w.heap.size w w' := by
 have hf2 : decide ((40 : Int) ≤ (rows e.f1).length) = true := decide_eq_true (by omega)
 obtain ⟨h0, t1, t2, t3, t4, t5, t6⟩ := hm
 have HCK : Aside0 (label_Check.f e.f1.f0 e.f1.f1 e.f1.f2 e.f1.f3 = some 0) := ⟨by rw [check_f, if_pos h0]⟩
 have HX := Aside0.mk h0.wf
 have d0 : decide (e.f3 < 1) = false := decide_eq_false t1
 have d1 : decide (e.f3 > 14) = false := decide_eq_false t2
 have d2 : decide ((e.f2.size : Int) > 78) = false := decide_eq_false t3
 have d3 : decide ((e.f4.size : Int) > 78) = false := decide_eq_false t4
 have d4 : decide (e.f5 < 0) = false := decide_eq_false t5
 have d5 : decide (e.f5 > 255) = false := decide_eq_false t6
 have H := Aside0.mk h
 clear h0 t1 t2 t3 t4 t5 t6 h
 unfold ev
 go_enter Tryd.func13, Tryd.ntmps13
 go_wp2_with fail
 refine (label_Check.calls e.f1.f0 e.f1.f1 e.f1.f2 e.f1.f3 0 _ HCK.out).mono ?_
 rintro r w1 ⟨rfl, hb⟩
 have HB1 := Aside0.mk (below_step (below_alloc (Below.refl _ w) _) hb)
 have BE1 := Aside0.mk (blk_below (blk_new w (.cells #[.int .i64 e.f0, .int .i64 e.f1.f0, .int .i64 e.f1.f1, .int .i64 e.f1.f2, .int .i64 e.f1.f3, .string e.f2, .int .i64 e.f3, .string e.f4, .int .i64 e.f5] 26)) hb)
 clear hb
 have c0 : w1.cell? ⟨w.heap.size, 0, none⟩ = some (.int .i64 e.f0) := (blk_cell BE1.out 0).trans rfl
 have c1 : w1.cell? ⟨w.heap.size, 1, none⟩ = some (.int .i64 e.f1.f0) := (blk_cell BE1.out 1).trans rfl
 have c2 : w1.cell? ⟨w.heap.size, 2, none⟩ = some (.int .i64 e.f1.f1) := (blk_cell BE1.out 2).trans rfl
 have c3 : w1.cell? ⟨w.heap.size, 3, none⟩ = some (.int .i64 e.f1.f2) := (blk_cell BE1.out 3).trans rfl
 have c4 : w1.cell? ⟨w.heap.size, 4, none⟩ = some (.int .i64 e.f1.f3) := (blk_cell BE1.out 4).trans rfl
 have c5 : w1.cell? ⟨w.heap.size, 5, none⟩ = some (.string e.f2) := (blk_cell BE1.out 5).trans rfl
 have c6 : w1.cell? ⟨w.heap.size, 6, none⟩ = some (.int .i64 e.f3) := (blk_cell BE1.out 6).trans rfl
 have c7 : w1.cell? ⟨w.heap.size, 7, none⟩ = some (.string e.f4) := (blk_cell BE1.out 7).trans rfl
 have c8 : w1.cell? ⟨w.heap.size, 8, none⟩ = some (.int .i64 e.f5) := (blk_cell BE1.out 8).trans rfl
 go_wp2_with fail
 refine (log_Full.calls (LogIs.below H.out HB1.out) HX.out).mono ?_
 rintro r w2 ⟨rfl, hb⟩
 have HB2 := Aside0.mk (below_step HB1.out hb)
 have BE2 := Aside0.mk (blk_below BE1.out hb)
 clear hb HB1 BE1 c0 c1 c2 c3 c4 c5 c6 c7 c8
 rw [hf2]
 clear hf2 hf
 go_wp2
 go_ret
 exact ⟨rfl, HB2.out⟩
def log_Add.T5 : Bool × List (List Nat × List Nat) := (true, [([], []), ([0], [0]), ([1], [1]), ([2], [2]), ([], []), ([4], [4]), ([3, 5], [3, 5]), ([6], [6]), ([7], [7]), ([0, 1, 2, 3, 4, 5, 6, 7, 8], []), ([9, 8, 0, 1, 2, 3, 4, 5, 6, 7, 8], [8, 9])])
def log_Add.B5 : List Nat := [0, 1, 3, 7, 0, 16, 63, 127, 255, 511, 1023]
theorem log_Add.tab5 : rtab .any (opsOf Tryd.f13 5) = log_Add.T5 := by kernel_rfl
theorem log_Add.bits5 : waitsOk log_Add.T5.2 log_Add.B5 = true := by kernel_rfl
def log_Add.T6 : Bool × List (List Nat × List Nat) := (true, [([], []), ([0], [0]), ([1], [1]), ([2], [2]), ([], []), ([4], [4]), ([], []), ([6], [6]), ([3, 5, 0, 1, 2, 3, 4, 5, 6, 7], [3, 5]), ([8], [8]), ([9, 7, 8], [7, 9]), ([8], [8]), ([3, 11, 10, 10, 0, 1, 2, 3, 4, 5, 6, 7, 8, 9, 10, 11], [3, 10, 11])])
def log_Add.B6 : List Nat := [0, 1, 3, 7, 0, 16, 0, 64, 255, 511, 1023, 511, 4095]
theorem log_Add.tab6 : rtab .any (opsOf Tryd.f13 6) = log_Add.T6 := by kernel_rfl
theorem log_Add.bits6 : waitsOk log_Add.T6.2 log_Add.B6 = true := by kernel_rfl
set_option maxHeartbeats 8000000 in
theorem log_Add_ok {w : World} {lb mb n base : Nat} {hdr : SL → Value} {rows : SL → List SE} (h : LogIs w lb mb n base hdr rows) (e : SE) (hm : mayE e) (hf : (rows e.f1).length < 40) (hn : n < maxLen) (hbase : base ≤ w.heap.size) :
  Calls Tryd.prog 13 #[.pointer (some ⟨lb, 0, none⟩), ev e] w fun r w' => r = .returned (.int .i64 0) ∧ ∃ hdr' : SL → Value, LogIs w' lb mb (n + 1) base hdr' (updR rows e.f1 (rows e.f1 ++ [(⟨((rows e.f1).length : Int) + 1, e.f1, e.f2, e.f3, e.f4, e.f5⟩ : SE)])) ∧ LogStep w w' mb hdr ∧ ∀ k, k < w.heap.size → okA hdr k → okA hdr' k := by
 obtain ⟨N, hN⟩ : ∃ N, (rows e.f1).length = N := ⟨_, rfl⟩
 rw [hN] at hf ⊢
 have HN := Aside0.mk hN
 have HNL := Aside0.mk hf
 have hf2 : decide ((40 : Int) ≤ (N : Int)) = false := decide_eq_false (by omega)
 clear hf hN
 have HBASE := Aside0.mk hbase
 have HNN := Aside0.mk hn
 obtain ⟨h0, t1, t2, t3, t4, t5, t6⟩ := hm
 have HCK : Aside0 (label_Check.f e.f1.f0 e.f1.f1 e.f1.f2 e.f1.f3 = some 0) := ⟨by rw [check_f, if_pos h0]⟩
 have HX := Aside0.mk h0.wf
 have d0 : decide (e.f3 < 1) = false := decide_eq_false t1
 have d1 : decide (e.f3 > 14) = false := decide_eq_false t2
 have d2 : decide ((e.f2.size : Int) > 78) = false := decide_eq_false t3
 have d3 : decide ((e.f4.size : Int) > 78) = false := decide_eq_false t4
 have d4 : decide (e.f5 < 0) = false := decide_eq_false t5
 have d5 : decide (e.f5 > 255) = false := decide_eq_false t6
 have H := Aside0.mk h
 clear h0 t1 t2 t3 t4 t5 t6 h
 unfold ev
 go_enter Tryd.func13, Tryd.ntmps13
 go_wp2_with fail
 refine (label_Check.calls e.f1.f0 e.f1.f1 e.f1.f2 e.f1.f3 0 _ HCK.out).mono ?_
 rintro r w1 ⟨rfl, hb⟩
 have HB1 := Aside0.mk (below_step (below_alloc (Below.refl _ w) _) hb)
 have BE1 := Aside0.mk (blk_below (blk_new w (.cells #[.int .i64 e.f0, .int .i64 e.f1.f0, .int .i64 e.f1.f1, .int .i64 e.f1.f2, .int .i64 e.f1.f3, .string e.f2, .int .i64 e.f3, .string e.f4, .int .i64 e.f5] 26)) hb)
 clear hb
 have c0 : w1.cell? ⟨w.heap.size, 0, none⟩ = some (.int .i64 e.f0) := (blk_cell BE1.out 0).trans rfl
 have c1 : w1.cell? ⟨w.heap.size, 1, none⟩ = some (.int .i64 e.f1.f0) := (blk_cell BE1.out 1).trans rfl
 have c2 : w1.cell? ⟨w.heap.size, 2, none⟩ = some (.int .i64 e.f1.f1) := (blk_cell BE1.out 2).trans rfl
 have c3 : w1.cell? ⟨w.heap.size, 3, none⟩ = some (.int .i64 e.f1.f2) := (blk_cell BE1.out 3).trans rfl
 have c4 : w1.cell? ⟨w.heap.size, 4, none⟩ = some (.int .i64 e.f1.f3) := (blk_cell BE1.out 4).trans rfl
 have c5 : w1.cell? ⟨w.heap.size, 5, none⟩ = some (.string e.f2) := (blk_cell BE1.out 5).trans rfl
 have c6 : w1.cell? ⟨w.heap.size, 6, none⟩ = some (.int .i64 e.f3) := (blk_cell BE1.out 6).trans rfl
 have c7 : w1.cell? ⟨w.heap.size, 7, none⟩ = some (.string e.f4) := (blk_cell BE1.out 7).trans rfl
 have c8 : w1.cell? ⟨w.heap.size, 8, none⟩ = some (.int .i64 e.f5) := (blk_cell BE1.out 8).trans rfl
 go_wp2_with fail
 refine (log_Full.calls (LogIs.below H.out HB1.out) HX.out).mono ?_
 rintro r w2 ⟨rfl, hb⟩
 have HB2 := Aside0.mk (below_step HB1.out hb)
 have BE2 := Aside0.mk (blk_below BE1.out hb)
 clear hb HB1 BE1 c0 c1 c2 c3 c4 c5 c6 c7 c8
 rw [HN.out, hf2]
 clear hf2
 obtain ⟨A, c, hsh⟩ := H.out.shape HX.out
 have HLK : Aside0 (∀ W, Below w.heap.size w W → (Instr.lookup 56 (.map (some mb)) (.agg #[.int .i64 e.f1.f0, .int .i64 e.f1.f1, .int .i64 e.f1.f2, .int .i64 e.f1.f3]) false).run Tryd.prog W = .ok (.slice A (rows e.f1).length c) W) := ⟨fun W hb => by
  have h1 := look_run (h := (H.out.below hb).2.1) HX.out Tryd.underlying56 zeroSl
  rw [hsh] at h1
  exact h1⟩
 have HSH := Aside0.mk hsh
 clear hsh
 rw [HN.out] at HLK HSH
 have ew : wrap64 ((N : Int) + 1) = (N : Int) + 1 := by have := HNL.out; unfold wrap64; omega
 go_wp2_with fail
 have HBd := Aside0.mk (below_drew1 HB2.out)
 have BEd := Aside0.mk (blk_drew BE2.out)
 refine start_ (n := 11) (S := fun w' => w'.cell? ⟨w.heap.size, 1, none⟩ = some (.int .i64 e.f1.f0) ∧ w'.cell? ⟨w.heap.size, 2, none⟩ = some (.int .i64 e.f1.f1) ∧ w'.cell? ⟨w.heap.size, 3, none⟩ = some (.int .i64 e.f1.f2) ∧ w'.cell? ⟨w.heap.size, 4, none⟩ = some (.int .i64 e.f1.f3) ∧ w'.cell? ⟨lb, 0, none⟩ = some (.map (some mb)) ∧ (Instr.lookup 56 (.map (some mb)) (.agg #[.int .i64 e.f1.f0, .int .i64 e.f1.f1, .int .i64 e.f1.f2, .int .i64 e.f1.f3]) false).run Tryd.prog w' = .ok (.slice A N c) w') (ds := []) #[false, false, false, false, false, false, false, false, false, false, false] (by kernel_rfl) rfl rfl ⟨(blk_cell BEd.out 1).trans rfl, (blk_cell BEd.out 2).trans rfl, (blk_cell BEd.out 3).trans rfl, (blk_cell BEd.out 4).trans rfl, (blk_cell (H.out.below HBd.out).1 0).trans rfl, HLK.out _ HBd.out⟩ (fun hHeld => ?_)
 refine with_tabW log_Add.tab5 log_Add.bits5 (fun HT_ HW_ => ?_)
 generalize World.drew _ = wd at HBd BEd hHeld ⊢
 refine pure_ (i := 0) (N := some 47) (v := ?_) (a' := ?_) #[true, false, false, false, false, false, false, false, false, false, false] rfl rfl (any_of HT_.out (by kernel_rfl)) (fun _ _ _ h => h) (Or.inl ⟨by rfl, ?_⟩) ?_ ?_
 rotate_left
 ·intro w'
  go_simp
  with_reducible rfl
 rotate_left
 ·simp only [Act.put, List.setIfInBounds_toArray, List.set_cons_zero, List.set_cons_succ, i64_w, i32_w]
  rfl
 refine pure_ (i := 1) (N := some 48) (v := ?_) (a' := ?_) #[true, true, false, false, false, false, false, false, false, false, false] rfl rfl (any_of HT_.out (by kernel_rfl)) (fun _ _ _ h => h) (Or.inl ⟨by rfl, ?_⟩) ?_ ?_
 rotate_left
 ·intro w'
  go_simp
  with_reducible rfl
 rotate_left
 ·simp only [Act.put, List.setIfInBounds_toArray, List.set_cons_zero, List.set_cons_succ, i64_w, i32_w]
  rfl
 refine pure_ (i := 2) (N := some 49) (v := ?_) (a' := ?_) #[true, true, true, false, false, false, false, false, false, false, false] rfl rfl (any_of HT_.out (by kernel_rfl)) (fun _ _ _ h => h) (Or.inl ⟨by rfl, ?_⟩) ?_ ?_
 rotate_left
 ·intro w'
  go_simp
  with_reducible rfl
 rotate_left
 ·simp only [Act.put, List.setIfInBounds_toArray, List.set_cons_zero, List.set_cons_succ, i64_w, i32_w]
  rfl
 refine pure_ (i := 4) (N := some 51) (v := ?_) (a' := ?_) #[true, true, true, false, true, false, false, false, false, false, false] rfl rfl (any_of HT_.out (by kernel_rfl)) (fun _ _ _ h => h) (Or.inl ⟨by rfl, ?_⟩) ?_ ?_
 rotate_left
 ·intro w'
  go_simp
  with_reducible rfl
 rotate_left
 ·simp only [Act.put, List.setIfInBounds_toArray, List.set_cons_zero, List.set_cons_succ, i64_w, i32_w]
  rfl
 refine take_ (i := 3) (N := some 50) (v := ?_) (a' := ?_) #[true, true, true, true, true, false, false, false, false, false, false] rfl rfl (take_ofW HT_.out HW_.out (by kernel_rfl)) (fun _ _ _ h => h) (Or.inl ⟨by rfl, ?_⟩) hHeld ?_ ?_
 rotate_left
 ·rintro w' ⟨s0, s1, s2, s3, s4, s5⟩
  go_simp
  with_reducible rfl
 rotate_left
 ·simp only [Act.put, List.setIfInBounds_toArray, List.set_cons_zero, List.set_cons_succ, i64_w, i32_w]
  rfl
 refine take_ (i := 5) (N := some 52) (v := ?_) (a' := ?_) #[true, true, true, true, true, true, false, false, false, false, false] rfl rfl (take_ofW HT_.out HW_.out (by kernel_rfl)) (fun _ _ _ h => h) (Or.inl ⟨by rfl, ?_⟩) hHeld ?_ ?_
 rotate_left
 ·rintro w' ⟨s0, s1, s2, s3, s4, s5⟩
  go_simp
  with_reducible rfl
 rotate_left
 ·simp only [Act.put, List.setIfInBounds_toArray, List.set_cons_zero, List.set_cons_succ, i64_w, i32_w]
  rfl
 refine take_ (i := 6) (N := some 53) (v := ?_) (a' := ?_) #[true, true, true, true, true, true, true, false, false, false, false] rfl rfl (take_ofW HT_.out HW_.out (by kernel_rfl)) (fun _ _ _ h => h) (Or.inl ⟨by rfl, ?_⟩) hHeld ?_ ?_
 rotate_left
 ·rintro w' ⟨s0, s1, s2, s3, s4, s5⟩
  go_simp
  with_reducible rfl
 rotate_left
 ·simp only [Act.put, List.setIfInBounds_toArray, List.set_cons_zero, List.set_cons_succ, i64_w, i32_w]
  rfl
 refine pure_ (i := 7) (N := some 54) (v := ?_) (a' := ?_) #[true, true, true, true, true, true, true, true, false, false, false] rfl rfl (any_of HT_.out (by kernel_rfl)) (fun _ _ _ h => h) (Or.inl ⟨by rfl, ?_⟩) ?_ ?_
 rotate_left
 ·intro w'
  go_simp
  with_reducible rfl
 rotate_left
 ·simp only [Act.put, List.setIfInBounds_toArray, List.set_cons_zero, List.set_cons_succ, i64_w, i32_w]
  rfl
 refine pure_ (i := 8) (N := some 55) (v := ?_) (a' := ?_) #[true, true, true, true, true, true, true, true, true, false, false] rfl rfl (any_of HT_.out (by kernel_rfl)) (fun _ _ _ h => h) (Or.inl ⟨by rfl, ?_⟩) ?_ ?_
 rotate_left
 ·intro w'
  go_simp
  with_reducible rfl
 rotate_left
 ·simp only [Act.put, List.setIfInBounds_toArray, List.set_cons_zero, List.set_cons_succ, i64_w, i32_w]
  rfl
 refine pure_ (i := 9) (N := some 56) (v := ?_) (a' := ?_) #[true, true, true, true, true, true, true, true, true, true, false] rfl rfl (any_of HT_.out (by kernel_rfl)) (fun _ _ _ h => h) (Or.inl ⟨by rfl, ?_⟩) ?_ ?_
 rotate_left
 ·intro w'
  go_simp
  with_reducible rfl
 rotate_left
 ·simp only [Act.put, List.setIfInBounds_toArray, List.set_cons_zero, List.set_cons_succ, i64_w, i32_w]
  rfl
 refine one_ (i := 10) (N := none) #[true, true, true, true, true, true, true, true, true, true, true] rfl rfl (one_of HT_.out (by kernel_rfl)) (by decide) (fun K hK => ?_)
 have q0 := (blk_cell BEd.out 0).trans rfl
 have z0 := blk_frozen BEd.out 0
 with_reducible refine skip_ (w1 := ?_) ?_ rfl ?_ ?_
 rotate_left
 ·rfl
 ·go_simp
  rfl
 clear q0 z0
 have BE3 : Aside0 ((wd.setCell ⟨w.heap.size, 0, none⟩ (.int .i64 ((N : Int) + 1))).heap[w.heap.size]? = some (.cells #[.int .i64 ((N : Int) + 1), .int .i64 e.f1.f0, .int .i64 e.f1.f1, .int .i64 e.f1.f2, .int .i64 e.f1.f3, .string e.f2, .int .i64 e.f3, .string e.f4, .int .i64 e.f5] 26 (0, 0))) := ⟨blk_put (cs := #[.int .i64 e.f0, .int .i64 e.f1.f0, .int .i64 e.f1.f1, .int .i64 e.f1.f2, .int .i64 e.f1.f3, .string e.f2, .int .i64 e.f3, .string e.f4, .int .i64 e.f5]) BEd.out 0 _ rfl⟩
 have HB3 := Aside0.mk (below_set (v := .int .i64 ((N : Int) + 1)) (j := 0) HBd.out (Nat.le_refl _))
 refine hK.out _ _ ⟨(blk_cell BE3.out 1).trans rfl, (blk_cell BE3.out 2).trans rfl, (blk_cell BE3.out 3).trans rfl, (blk_cell BE3.out 4).trans rfl, (blk_cell (H.out.below HB3.out).1 0).trans rfl, HLK.out _ HB3.out⟩ (fun hHeld => ?_)
 clear hK K
 refine done_ (done_of HT_.out (by kernel_rfl)) ?_
 try go_wp2_with fail
 clear HBd BEd
 generalize wd.setCell ⟨w.heap.size, 0, none⟩ (.int .i64 ((N : Int) + 1)) = w3 at BE3 HB3 hHeld ⊢
 clear hHeld HT_ HW_ ew
 have HBd := Aside0.mk (below_drew1 HB3.out)
 have BEd := Aside0.mk (blk_drew BE3.out)
 have HGd := Aside0.mk (grown_of_below HBd.out (some mb))
 have HMd : Aside0 (MapIs _ mb n (.slice none 0 0) hdr) := ⟨(H.out.below HBd.out).2.1⟩
 have BLd := Aside0.mk (H.out.below HBd.out).1
 clear HBd
 refine start_ (n := 13) (S := fun w' => w'.cell? ⟨w.heap.size, 0, none⟩ = some (.int .i64 ((N : Int) + 1)) ∧ w'.cell? ⟨w.heap.size, 1, none⟩ = some (.int .i64 e.f1.f0) ∧ w'.cell? ⟨w.heap.size, 2, none⟩ = some (.int .i64 e.f1.f1) ∧ w'.cell? ⟨w.heap.size, 3, none⟩ = some (.int .i64 e.f1.f2) ∧ w'.cell? ⟨w.heap.size, 4, none⟩ = some (.int .i64 e.f1.f3) ∧ w'.cell? ⟨w.heap.size, 5, none⟩ = some (.string e.f2) ∧ w'.cell? ⟨w.heap.size, 6, none⟩ = some (.int .i64 e.f3) ∧ w'.cell? ⟨w.heap.size, 7, none⟩ = some (.string e.f4) ∧ w'.cell? ⟨w.heap.size, 8, none⟩ = some (.int .i64 e.f5) ∧ w'.cell? ⟨lb, 0, none⟩ = some (.map (some mb))) (ds := []) #[false, false, false, false, false, false, false, false, false, false, false, false, false] (by kernel_rfl) rfl rfl ⟨(blk_cell BEd.out 0).trans rfl, (blk_cell BEd.out 1).trans rfl, (blk_cell BEd.out 2).trans rfl, (blk_cell BEd.out 3).trans rfl, (blk_cell BEd.out 4).trans rfl, (blk_cell BEd.out 5).trans rfl, (blk_cell BEd.out 6).trans rfl, (blk_cell BEd.out 7).trans rfl, (blk_cell BEd.out 8).trans rfl, (blk_cell BLd.out 0).trans rfl⟩ (fun hHeld => ?_)
 refine with_tabW log_Add.tab6 log_Add.bits6 (fun HT_ HW_ => ?_)
 generalize World.drew _ = wd at BEd HGd HMd BLd hHeld ⊢
 refine pure_ (i := 0) (N := some 57) (v := ?_) (a' := ?_) #[true, false, false, false, false, false, false, false, false, false, false, false, false] rfl rfl (any_of HT_.out (by kernel_rfl)) (fun _ _ _ h => h) (Or.inl ⟨by rfl, ?_⟩) ?_ ?_
 rotate_left
 ·intro w'
  go_simp
  with_reducible rfl
 rotate_left
 ·simp only [Act.put, List.setIfInBounds_toArray, List.set_cons_zero, List.set_cons_succ, i64_w, i32_w]
  rfl
 refine pure_ (i := 1) (N := some 58) (v := ?_) (a' := ?_) #[true, true, false, false, false, false, false, false, false, false, false, false, false] rfl rfl (any_of HT_.out (by kernel_rfl)) (fun _ _ _ h => h) (Or.inl ⟨by rfl, ?_⟩) ?_ ?_
 rotate_left
 ·intro w'
  go_simp
  with_reducible rfl
 rotate_left
 ·simp only [Act.put, List.setIfInBounds_toArray, List.set_cons_zero, List.set_cons_succ, i64_w, i32_w]
  rfl
 refine pure_ (i := 2) (N := some 59) (v := ?_) (a' := ?_) #[true, true, true, false, false, false, false, false, false, false, false, false, false] rfl rfl (any_of HT_.out (by kernel_rfl)) (fun _ _ _ h => h) (Or.inl ⟨by rfl, ?_⟩) ?_ ?_
 rotate_left
 ·intro w'
  go_simp
  with_reducible rfl
 rotate_left
 ·simp only [Act.put, List.setIfInBounds_toArray, List.set_cons_zero, List.set_cons_succ, i64_w, i32_w]
  rfl
 refine pure_ (i := 4) (N := some 61) (v := ?_) (a' := ?_) #[true, true, true, false, true, false, false, false, false, false, false, false, false] rfl rfl (any_of HT_.out (by kernel_rfl)) (fun _ _ _ h => h) (Or.inl ⟨by rfl, ?_⟩) ?_ ?_
 rotate_left
 ·intro w'
  go_simp
  with_reducible rfl
 rotate_left
 ·simp only [Act.put, List.setIfInBounds_toArray, List.set_cons_zero, List.set_cons_succ, i64_w, i32_w]
  rfl
 refine take_ (i := 3) (N := some 60) (v := ?_) (a' := ?_) #[true, true, true, true, true, false, false, false, false, false, false, false, false] rfl rfl (take_ofW HT_.out HW_.out (by kernel_rfl)) (fun _ _ _ h => h) (Or.inl ⟨by rfl, ?_⟩) hHeld ?_ ?_
 rotate_left
 ·rintro w' ⟨s0, s1, s2, s3, s4, s5, s6, s7, s8, s9⟩
  go_simp
  with_reducible rfl
 rotate_left
 ·simp only [Act.put, List.setIfInBounds_toArray, List.set_cons_zero, List.set_cons_succ, i64_w, i32_w]
  rfl
 refine take_ (i := 5) (N := some 62) (v := ?_) (a' := ?_) #[true, true, true, true, true, true, false, false, false, false, false, false, false] rfl rfl (take_ofW HT_.out HW_.out (by kernel_rfl)) (fun _ _ _ h => h) (Or.inl ⟨by rfl, ?_⟩) hHeld ?_ ?_
 rotate_left
 ·rintro w' ⟨s0, s1, s2, s3, s4, s5, s6, s7, s8, s9⟩
  go_simp
  with_reducible rfl
 rotate_left
 ·simp only [Act.put, List.setIfInBounds_toArray, List.set_cons_zero, List.set_cons_succ, i64_w, i32_w]
  rfl
 refine take_ (i := 6) (N := some 64) (v := ?_) (a' := ?_) #[true, true, true, true, true, true, true, false, false, false, false, false, false] rfl rfl (take_ofW HT_.out HW_.out (by kernel_rfl)) (fun _ _ _ h => h) (Or.inl ⟨by rfl, ?_⟩) hHeld ?_ ?_
 rotate_left
 ·rintro w' ⟨s0, s1, s2, s3, s4, s5, s6, s7, s8, s9⟩
  go_simp
  with_reducible rfl
 rotate_left
 ·simp only [Act.put, List.setIfInBounds_toArray, List.set_cons_zero, List.set_cons_succ, i64_w, i32_w]
  rfl
 refine one_ (i := 7) (N := some 65) #[true, true, true, true, true, true, true, true, false, false, false, false, false] rfl rfl (one_of HT_.out (by kernel_rfl)) (by decide) (fun K hK => ?_)
 refine value_ (v := .slice (some ⟨wd.heap.size, 0, none⟩) 1 1) (w1 := wd.alloc (.cells #[.int .i64 ((N : Int) + 1), .int .i64 e.f1.f0, .int .i64 e.f1.f1, .int .i64 e.f1.f2, .int .i64 e.f1.f3, .string e.f2, .int .i64 e.f3, .string e.f4, .int .i64 e.f5] 26)) (by rfl) rfl (by go_simp) ?_
 have BS_ := Aside0.mk (blk_new wd (.cells #[.int .i64 ((N : Int) + 1), .int .i64 e.f1.f0, .int .i64 e.f1.f1, .int .i64 e.f1.f2, .int .i64 e.f1.f3, .string e.f2, .int .i64 e.f3, .string e.f4, .int .i64 e.f5] 26))
 have BE_ := Aside0.mk (blk_alloc BEd.out (.cells #[.int .i64 ((N : Int) + 1), .int .i64 e.f1.f0, .int .i64 e.f1.f1, .int .i64 e.f1.f2, .int .i64 e.f1.f3, .string e.f2, .int .i64 e.f3, .string e.f4, .int .i64 e.f5] 26))
 have BL_ := Aside0.mk (blk_alloc BLd.out (.cells #[.int .i64 ((N : Int) + 1), .int .i64 e.f1.f0, .int .i64 e.f1.f1, .int .i64 e.f1.f2, .int .i64 e.f1.f3, .string e.f2, .int .i64 e.f3, .string e.f4, .int .i64 e.f5] 26))
 have HG_ := Aside0.mk (HGd.out.trans (World.grownBy_alloc wd (.cells #[.int .i64 ((N : Int) + 1), .int .i64 e.f1.f0, .int .i64 e.f1.f1, .int .i64 e.f1.f2, .int .i64 e.f1.f3, .string e.f2, .int .i64 e.f3, .string e.f4, .int .i64 e.f5] 26) (some mb)))
 have HM_ : Aside0 (MapIs (wd.alloc (.cells #[.int .i64 ((N : Int) + 1), .int .i64 e.f1.f0, .int .i64 e.f1.f1, .int .i64 e.f1.f2, .int .i64 e.f1.f3, .string e.f2, .int .i64 e.f3, .string e.f4, .int .i64 e.f5] 26)) mb n (.slice none 0 0) hdr) := ⟨HMd.out.below (below_alloc (Below.refl _ _) _)⟩
 clear BEd BLd HGd HMd
 have BEd := BE_
 have BLd := BL_
 have HGd := HG_
 have HMd := HM_
 have BSd := BS_
 clear BE_ BL_ HG_ HM_ BS_
 generalize wd.heap.size = gs at BSd ⊢
 generalize wd.alloc (.cells #[.int .i64 ((N : Int) + 1), .int .i64 e.f1.f0, .int .i64 e.f1.f1, .int .i64 e.f1.f2, .int .i64 e.f1.f3, .string e.f2, .int .i64 e.f3, .string e.f4, .int .i64 e.f5] 26) = wd at BEd BLd HGd HMd BSd ⊢
 refine hK.out _ _ ⟨(blk_cell BEd.out 0).trans rfl, (blk_cell BEd.out 1).trans rfl, (blk_cell BEd.out 2).trans rfl, (blk_cell BEd.out 3).trans rfl, (blk_cell BEd.out 4).trans rfl, (blk_cell BEd.out 5).trans rfl, (blk_cell BEd.out 6).trans rfl, (blk_cell BEd.out 7).trans rfl, (blk_cell BEd.out 8).trans rfl, (blk_cell BLd.out 0).trans rfl⟩ (fun hHeld => ?_)
 clear hK K
 refine norm_ (a' := ?_) ?_ ?_
 rotate_left
 ·show Act.put _ (some 65) _ = _
  simp only [Act.put, List.setIfInBounds_toArray, List.set_cons_zero, List.set_cons_succ, i64_w, i32_w]
  rfl
 refine one_ (i := 8) (N := some 66) #[true, true, true, true, true, true, true, true, true, false, false, false, false] rfl rfl (one_of HT_.out (by kernel_rfl)) (by decide) (fun K hK => ?_)
 obtain ⟨st, wB, hme, hmB, hgB, hsB, hst⟩ := mapEntry_run HMd.out HX.out Tryd.underlying56 zeroSl HNN.out
 rw [HSH.out] at hme
 simp only [lv, goInt] at hme
 refine value_ (v := .tuple #[.slice A N c, .int .i64 st]) (w1 := wB) (by rfl) rfl (by go_simp) ?_
 have HST := Aside0.mk hst
 have BE_ := Aside0.mk (blk_beside HMd.out.isMap BEd.out hgB)
 have BL_ := Aside0.mk (blk_beside HMd.out.isMap BLd.out hgB)
 have HG_ := Aside0.mk (HGd.out.trans hgB)
 have BS_ := Aside0.mk (blk_beside HMd.out.isMap BSd.out hgB)
 have HM_ := Aside0.mk hmB
 clear hme hmB hgB hsB hst BEd BLd HGd HMd BSd
 have BEd := BE_
 have BLd := BL_
 have HGd := HG_
 have HMd := HM_
 have BSd := BS_
 clear BS_
 clear BE_ BL_ HG_ HM_
 rename World => wd
 refine hK.out _ _ ⟨(blk_cell BEd.out 0).trans rfl, (blk_cell BEd.out 1).trans rfl, (blk_cell BEd.out 2).trans rfl, (blk_cell BEd.out 3).trans rfl, (blk_cell BEd.out 4).trans rfl, (blk_cell BEd.out 5).trans rfl, (blk_cell BEd.out 6).trans rfl, (blk_cell BEd.out 7).trans rfl, (blk_cell BEd.out 8).trans rfl, (blk_cell BLd.out 0).trans rfl⟩ (fun hHeld => ?_)
 clear hK K
 refine norm_ (a' := ?_) ?_ ?_
 rotate_left
 ·show Act.put _ (some 66) _ = _
  simp only [Act.put, List.setIfInBounds_toArray, List.set_cons_zero, List.set_cons_succ, i64_w, i32_w]
  rfl
 refine pure_ (i := 9) (N := some 63) (v := ?_) (a' := ?_) #[true, true, true, true, true, true, true, true, true, true, false, false, false] rfl rfl (any_of HT_.out (by kernel_rfl)) (fun _ _ _ h => h) (Or.inl ⟨by rfl, ?_⟩) ?_ ?_
 rotate_left
 ·intro w'
  go_simp
  with_reducible rfl
 rotate_left
 ·simp only [Act.put, List.setIfInBounds_toArray, List.set_cons_zero, List.set_cons_succ, i64_w, i32_w]
  rfl
 refine pure_ (i := 11) (N := some 68) (v := ?_) (a' := ?_) #[true, true, true, true, true, true, true, true, true, true, false, true, false] rfl rfl (any_of HT_.out (by kernel_rfl)) (fun _ _ _ h => h) (Or.inl ⟨by rfl, ?_⟩) ?_ ?_
 rotate_left
 ·intro w'
  go_simp
  with_reducible rfl
 rotate_left
 ·simp only [Act.put, List.setIfInBounds_toArray, List.set_cons_zero, List.set_cons_succ, i64_w, i32_w]
  rfl
 refine one_ (i := 10) (N := some 67) #[true, true, true, true, true, true, true, true, true, true, true, true, false] rfl rfl (one_of HT_.out (by kernel_rfl)) (by decide) (fun K hK => ?_)
 have hRA : RE wd base (fun k => ∀ y, okL y → y ≠ e.f1 → (hdr y).ownBlock ≠ some k) (.slice A N c) (rows e.f1) := by
  have h1 := row_beside H.out.isMap (H.out.2.2 e.f1 HX.out).1 HGd.out
  rwa [HSH.out] at h1
 have HRA := Aside0.mk hRA
 clear hRA
 refine Kd.R_append_rows_step k26 (Rr := k26.K wd) (w0 := wd) base (by rfl) (.tmp 63) (.tmp 65) 34 26 _ 88 rfl Tryd.underlying34 info26 rfl (by decide) (by omega) (.slice A N c) (rows e.f1) [(⟨(N : Int) + 1, e.f1, e.f2, e.f3, e.f4, e.f5⟩ : SE)] (some ⟨gs, 0, none⟩) 1 1 (fun k => ∀ y, okL y → y ≠ e.f1 → (hdr y).ownBlock ≠ some k) (fun _ => False) rfl rfl HRA.out (reads_one (⟨(N : Int) + 1, e.f1, e.f2, e.f3, e.f4, e.f5⟩ : SE) (k26_mk _ _) BSd.out) ?aK (fun _ h => h.elim) ?aF (Below.refl _ _) ?aS ?aL ?_
 (case aK => exact fun _ _ h => entry_KM h)
 (case aF => exact fun k hk y hy _ e_ => by have h1 := Kd.R_lt (H.out.row hy) _ e_; have h2 := HGd.out.size; omega)
 (case aS => exact Nat.le_trans HBASE.out HGd.out.size)
 (case aL => rw [HN.out]; have := HNL.out; omega)
 intro v1 w1 ho hb hg hat
 have HR1 := Aside0.mk ho
 have HG1 := Aside0.mk hg
 have HAT := Aside0.mk hat
 have hown : ∀ k, (Value.slice A N c).ownBlock = some k → k < w.heap.size ∧ ∃ cells, w.heap[k]? = some (.cells cells 26 (0, 0)) := fun k hk => by
  rw [← HSH.out] at hk
  exact ⟨Kd.R_lt (H.out.row HX.out) k hk, Kd.R_typed (H.out.row HX.out) k hk⟩
 have BE_ := Aside0.mk (blk_grown BEd.out hg (fun e_ => by have := (hown _ e_.symm).1; omega))
 have BL_ : Aside0 (w1.heap[lb]? = some (.cells #[.map (some mb)] 58 (0, 0))) := ⟨blk_grown BLd.out hg (fun e_ => by
  obtain ⟨cells, hc⟩ := (hown _ e_.symm).2
  have h1 := H.out.1
  rw [h1] at hc
  injection hc with hc
  injection hc with _ hc
  exact absurd hc (by decide))⟩
 have HMK : Aside0 (w1.heap[mb]? = wd.heap[mb]?) := ⟨hg.block mb HMd.out.lt (fun e_ => by
  obtain ⟨cells, hc⟩ := (hown _ e_.symm).2
  obtain ⟨es, c_, hm⟩ := H.out.isMap
  rw [hm] at hc
  cases hc)⟩
 clear ho hb hg hat hown
 have HBE := BEd
 clear HBE BEd BLd
 have BEd := BE_
 have BLd := BL_
 clear BE_ BL_
 refine hK.out _ _ ⟨(blk_cell BEd.out 0).trans rfl, (blk_cell BEd.out 1).trans rfl, (blk_cell BEd.out 2).trans rfl, (blk_cell BEd.out 3).trans rfl, (blk_cell BEd.out 4).trans rfl, (blk_cell BEd.out 5).trans rfl, (blk_cell BEd.out 6).trans rfl, (blk_cell BEd.out 7).trans rfl, (blk_cell BEd.out 8).trans rfl, (blk_cell BLd.out 0).trans rfl⟩ (fun hHeld => ?_)
 clear hK K
 refine norm_ (a' := ?_) ?_ ?_
 rotate_left
 ·show Act.put _ (some 67) _ = _
  simp only [Act.put, List.setIfInBounds_toArray, List.set_cons_zero, List.set_cons_succ, i64_w, i32_w]
  rfl
 refine one_ (i := 12) (N := none) #[true, true, true, true, true, true, true, true, true, true, true, true, true] rfl rfl (one_of HT_.out (by kernel_rfl)) (by decide) (fun K hK => ?_)
 obtain ⟨w4, hse, hM4, hg4, hs4⟩ := HST.out w1 v1 HMK.out
 simp only [goInt] at hse
 with_reducible refine skip_ (w1 := w4) ?_ rfl ?_ ?_
 ·rfl
 ·go_simp
 have hmw1 : ∃ es c_, w1.heap[mb]? = some (.map es c_) := by
  obtain ⟨es, c_, hm⟩ := HMd.out.isMap
  exact ⟨es, c_, HMK.out.trans hm⟩
 have BE_ := Aside0.mk (blk_beside hmw1 BEd.out hg4)
 have BL_ := Aside0.mk (blk_beside hmw1 BLd.out hg4)
 have HM4 := Aside0.mk hM4
 have HG4 := Aside0.mk hg4
 clear hse hM4 hg4 hs4 hmw1 BEd BLd
 have BEd := BE_
 have BLd := BL_
 clear BE_ BL_
 refine hK.out _ _ ⟨(blk_cell BEd.out 0).trans rfl, (blk_cell BEd.out 1).trans rfl, (blk_cell BEd.out 2).trans rfl, (blk_cell BEd.out 3).trans rfl, (blk_cell BEd.out 4).trans rfl, (blk_cell BEd.out 5).trans rfl, (blk_cell BEd.out 6).trans rfl, (blk_cell BEd.out 7).trans rfl, (blk_cell BEd.out 8).trans rfl, (blk_cell BLd.out 0).trans rfl⟩ (fun hHeld => ?_)
 clear hK K
 refine done_ (done_of HT_.out (by kernel_rfl)) ?_
 try go_wp2
 go_ret
 have hat := HAT.out
 have hg1 := HG1.out
 rw [← HSH.out] at hat hg1
 exact ⟨rfl, _, log_put H.out HX.out HGd.out (by simp) HR1.out hg1 hat HM4.out HG4.out HMd.out.isMap⟩
end Go.Proofs.YtihknjmibnonjaaDoor.X
end

section
/- audit.Text: an entry's text. -/
namespace Go.Proofs.YtihknjmibnonjaaDoor.X
open Go.RowKit Go.Proofs.YtihknjmibnonjaaDoorW.PrintWords Go.Proofs.YtihknjmibnonjaaDoorW.PrintLast Go.Proofs.YtihknjmibnonjaaDoorW.PrintMore Go.Proofs.YtihknjmibnonjaaDoor.More
set_option linter.unusedVariables false
set_option linter.unusedSimpArgs false
set_option maxRecDepth 100000
def verbsL : List ByteArray := [⟨#[108, 111, 103, 105, 110]⟩, ⟨#[115, 101, 103]⟩, ⟨#[100, 105, 114]⟩, ⟨#[100, 101, 108]⟩, ⟨#[97, 99, 108]⟩, ⟨#[114, 105, 110, 103, 115]⟩, ⟨#[112, 117, 116]⟩, ⟨#[103, 101, 116]⟩, ⟨#[108, 105, 115, 116]⟩, ⟨#[114, 117, 110]⟩, ⟨#[115, 101, 110, 100]⟩, ⟨#[116, 97, 107, 101]⟩, ⟨#[114, 101, 108, 101, 97, 115, 101]⟩, ⟨#[100, 101, 110, 121]⟩]
def verbsA : Array Value := #[.string ⟨#[108, 111, 103, 105, 110]⟩, .string ⟨#[115, 101, 103]⟩, .string ⟨#[100, 105, 114]⟩, .string ⟨#[100, 101, 108]⟩, .string ⟨#[97, 99, 108]⟩, .string ⟨#[114, 105, 110, 103, 115]⟩, .string ⟨#[112, 117, 116]⟩, .string ⟨#[103, 101, 116]⟩, .string ⟨#[108, 105, 115, 116]⟩, .string ⟨#[114, 117, 110]⟩, .string ⟨#[115, 101, 110, 100]⟩, .string ⟨#[116, 97, 107, 101]⟩, .string ⟨#[114, 101, 108, 101, 97, 115, 101]⟩, .string ⟨#[100, 101, 110, 121]⟩]
def verbW (v : Int) : ByteArray := if 1 ≤ v ∧ v ≤ 14 then verbsL.getD (v - 1).toNat ⟨#[]⟩ else ⟨#[]⟩
def wordB (s : ByteArray) : ByteArray := if s.toList = ([] : List UInt8) then ⟨#[45]⟩ else s
def partsE (x : SE) (ew : ByteArray) : List ByteArray := [numeralB x.f0, textV x.f1.f0 x.f1.f1 x.f1.f2 x.f1.f3, wordB x.f2, wordB (verbW x.f3), wordB x.f4, ew]
def textE (x : SE) (ew : ByteArray) : ByteArray := ⟨(Lib.join ((partsE x ew).map (·.data.toList)) (⟨#[32]⟩ : ByteArray).data.toList).toArray⟩
theorem word_f (s : ByteArray) : audit_word.f s = some (wordB s) := by
 unfold audit_word.f wordB
 split <;> rfl
theorem verb_cell {W : World} {g : Nat} (h : W.heap[g]? = some (.cells verbsA 67 (0, 0))) (v : Int) (h0 : 1 ≤ v) (h1 : v ≤ 14) : W.cell? ⟨g, (v - 1).toNat, none⟩ = some (.string (verbW v)) := by
 have e : verbsA[(v - 1).toNat]? = some (.string (verbW v)) := by
  have hv : v = 1 ∨ v = 2 ∨ v = 3 ∨ v = 4 ∨ v = 5 ∨ v = 6 ∨ v = 7 ∨ v = 8 ∨ v = 9 ∨ v = 10 ∨ v = 11 ∨ v = 12 ∨ v = 13 ∨ v = 14 := by omega
  rcases hv with rfl | rfl | rfl | rfl | rfl | rfl | rfl | rfl | rfl | rfl | rfl | rfl | rfl | rfl <;> rfl
 rw [blk_cell h]
 exact e
theorem verb_short (v : Int) : (verbW v).data.toList.length ≤ 7 := by
 unfold verbW
 split
 ·rename_i h
  have hv : v = 1 ∨ v = 2 ∨ v = 3 ∨ v = 4 ∨ v = 5 ∨ v = 6 ∨ v = 7 ∨ v = 8 ∨ v = 9 ∨ v = 10 ∨ v = 11 ∨ v = 12 ∨ v = 13 ∨ v = 14 := by omega
  rcases hv with rfl | rfl | rfl | rfl | rfl | rfl | rfl | rfl | rfl | rfl | rfl | rfl | rfl | rfl <;> decide +kernel
 ·exact Nat.zero_le _
theorem word_short (s : ByteArray) : (wordB s).data.toList.length ≤ s.data.toList.length + 1 := by
 unfold wordB
 split
 ·simp
 ·exact Nat.le_succ _
theorem partsE_short (x : SE) (ew : ByteArray) (h0 : fits64 x.f0) (h1 : okL x.f1) (h2 : x.f2.size ≤ 1000000) (h4 : x.f4.size ≤ 1000000) (he : ew.size ≤ 1000000) : (Lib.join ((partsE x ew).map (·.data.toList)) (⟨#[32]⟩ : ByteArray).data.toList).length ≤ 140737488355328 := by
 have a0 := Lib.itoa_length_le x.f0 h0.1 h0.2
 obtain ⟨w0, w1, w2, w3⟩ := h1
 have a1 := label_Text.short x.f1.f0 x.f1.f1 x.f1.f2 x.f1.f3 (Lib.wf_i64 w0) (Lib.wf_i64 w1) (Lib.wf_i64 w2) (Lib.wf_i64 w3)
 have a2 := word_short x.f2
 have a3 := word_short (verbW x.f3)
 have a3b := verb_short x.f3
 have a4 := word_short x.f4
 have e2 : x.f2.data.toList.length = x.f2.size := Array.length_toList
 have e4 : x.f4.data.toList.length = x.f4.size := Array.length_toList
 have ee : ew.data.toList.length = ew.size := Array.length_toList
 have b1 : (textV x.f1.f0 x.f1.f1 x.f1.f2 x.f1.f3).data.toList.length ≤ 100 := by
  have h1 := Lib.itoa_length_le x.f1.f0 (Lib.wf_i64 w0).1 (Lib.wf_i64 w0).2
  have h2 := Lib.itoa_length_le x.f1.f1 (Lib.wf_i64 w1).1 (Lib.wf_i64 w1).2
  have h3 := Lib.itoa_length_le x.f1.f2 (Lib.wf_i64 w2).1 (Lib.wf_i64 w2).2
  have h4 := Lib.itoa_length_le x.f1.f3 (Lib.wf_i64 w3).1 (Lib.wf_i64 w3).2
  simp only [textV, firstT, nth4, numeralB, List.nil_append, List.cons_append, List.map_cons, List.map_nil, Lib.join]
  simp
  omega
 have a0' : (numeralB x.f0).data.toList.length ≤ 21 := a0
 have e1 : (⟨#[32]⟩ : ByteArray).data.toList.length = 1 := rfl
 simp only [partsE, List.map_cons, List.map_nil, Lib.join, List.intercalate, List.intersperse, List.flatten_cons, List.flatten_nil, List.length_append, List.length_nil, List.length_cons]
 omega
theorem below_of_drawn0_ {w w' : World} (h : Drawn0 w w') : Below w.heap.size w w' := by
 obtain ⟨n, rfl⟩ := h
 exact pw_below_drewN (Below.refl _ _) n
def audit_Text.T5 : Bool × List (List Nat × List Nat) := (true, [([], []), ([0], [0]), ([1], [1]), ([], []), ([3], [3]), ([4, 2], [4]), ([], []), ([6], [6]), ([7, 5], [7]), ([], []), ([9, 8], [9]), ([], []), ([11], [11]), ([12, 10], [12]), ([], []), ([14], [14]), ([15, 13], [15]), ([2, 5, 8, 10, 13, 16], [2, 5, 8, 10, 13, 16]), ([17, 16], [17]), ([18, 18, 0, 1, 2, 3, 4, 5, 6, 7, 8, 9, 10, 11, 12, 13, 14, 15, 16, 17, 18], [18])])
def audit_Text.B5 : List Nat := [0, 1, 3, 0, 8, 31, 0, 64, 255, 0, 1023, 0, 2048, 8191, 0, 16384, 65535, 131071, 262143, 524287]
theorem audit_Text.tab5 : rtab .any (opsOf Tryd.f28 5) = audit_Text.T5 := by kernel_rfl
theorem audit_Text.bits5 : waitsOk audit_Text.T5.2 audit_Text.B5 = true := by kernel_rfl
set_option maxHeartbeats 8000000 in
theorem audit_Text.yes (x : SE) (ew : ByteArray) (w : World) (hG : Laid w) (hf0 : fits64 x.f0) (hl : okL x.f1) (h2 : x.f2.size ≤ 1000000) (h4 : x.f4.size ≤ 1000000) (hes : ew.size ≤ 1000000) (hew : api_Errno_Error.f x.f5 = some ew) (hv : 1 ≤ x.f3 ∧ x.f3 ≤ 14) :
  Calls Tryd.prog 28 #[ev x] w fun r w' => r = .returned (.string (textE x ew)) ∧ Below w.heap.size w w' := by
 have dv := hv
 have HV := Aside0.mk hv
 obtain ⟨tt, htt⟩ : ∃ tt, x.f3 - 1 = tt := ⟨_, rfl⟩
 have HF := Aside0.mk hf0
 have HG := Aside0.mk hG
 have HEW := Aside0.mk hew
 have HLT : Aside0 (label_Text.f x.f1.f0 x.f1.f1 x.f1.f2 x.f1.f3 = some (textV x.f1.f0 x.f1.f1 x.f1.f2 x.f1.f3)) := ⟨by unfold label_Text.f; exact if_pos ⟨Lib.wf_i64 hl.1, Lib.wf_i64 hl.2.1, Lib.wf_i64 hl.2.2.1, Lib.wf_i64 hl.2.2.2⟩⟩
 have hsh := partsE_short x ew hf0 hl h2 h4 hes
 unfold textE
 unfold partsE at hsh ⊢
 clear hf0 hG hew hl h2 h4 hes
 have d1 : decide (1 ≤ x.f3) = true := decide_eq_true dv.1
 have d2 : decide (x.f3 ≤ 14) = true := decide_eq_true dv.2
 have ew1 : wrap64 (x.f3 - 1) = tt := by unfold wrap64; omega
 have t0 : 0 ≤ tt := by omega
 have t1 : tt < 14 := by omega
 have HTT := Aside0.mk htt
 obtain ⟨VV, hVV⟩ : ∃ VV, verbW x.f3 = VV := ⟨_, rfl⟩
 have HVV := Aside0.mk hVV
 rw [hVV] at hsh ⊢
 have HSH := Aside0.mk hsh
 clear dv hv htt hVV hsh
 unfold ev
 go_enter Tryd.func28, Tryd.ntmps28
 go_wp2_with (refine bigstore_ rfl 67 (.tmp 3) (.tmp 5) rfl (w.heap.size + 1) verbsA rfl rfl 67 _ ((congrArg (fun k => (_ : Array Obj)[k]?) (by simp)).trans (blk_new _ _)) (by kernel_rfl) rfl (by kernel_rfl) ?_; intro w1 hv_ hk_ hj_ hB_; have BV1 := Aside0.mk hv_; have HB1 := Aside0.mk (hB_ w.heap.size w (below_alloc (below_alloc (Below.refl _ w) _) _) (by omega)); have BE1 := Aside0.mk (hj_ w.heap.size _ (blk_alloc (blk_new w (.cells #[.int .i64 x.f0, .int .i64 x.f1.f0, .int .i64 x.f1.f1, .int .i64 x.f1.f2, .int .i64 x.f1.f3, .string x.f2, .int .i64 x.f3, .string x.f4, .int .i64 x.f5] 26)) _) (by omega)); clear hv_ hk_ hj_ hB_; have c0 : w1.cell? ⟨w.heap.size, 0, none⟩ = some (.int .i64 x.f0) := (blk_cell BE1.out 0).trans rfl; have c1 : w1.cell? ⟨w.heap.size, 1, none⟩ = some (.int .i64 x.f1.f0) := (blk_cell BE1.out 1).trans rfl; have c2 : w1.cell? ⟨w.heap.size, 2, none⟩ = some (.int .i64 x.f1.f1) := (blk_cell BE1.out 2).trans rfl; have c3 : w1.cell? ⟨w.heap.size, 3, none⟩ = some (.int .i64 x.f1.f2) := (blk_cell BE1.out 3).trans rfl; have c4 : w1.cell? ⟨w.heap.size, 4, none⟩ = some (.int .i64 x.f1.f3) := (blk_cell BE1.out 4).trans rfl; have c5 : w1.cell? ⟨w.heap.size, 5, none⟩ = some (.string x.f2) := (blk_cell BE1.out 5).trans rfl; have c6 : w1.cell? ⟨w.heap.size, 6, none⟩ = some (.int .i64 x.f3) := (blk_cell BE1.out 6).trans rfl; have c7 : w1.cell? ⟨w.heap.size, 7, none⟩ = some (.string x.f4) := (blk_cell BE1.out 7).trans rfl; have c8 : w1.cell? ⟨w.heap.size, 8, none⟩ = some (.int .i64 x.f5) := (blk_cell BE1.out 8).trans rfl; have cv : w1.cell? ⟨w.heap.size + 1, tt.toNat, none⟩ = some (.string VV) := (HTT.out ▸ HVV.out ▸ verb_cell BV1.out x.f3 HV.out.1 HV.out.2))
 clear cv BV1 t0 t1 ew1 d1 d2
 have HBd := Aside0.mk (below_drew1 HB1.out)
 have BEd := Aside0.mk (blk_drew BE1.out)
 clear HB1 BE1 c0 c1 c2 c3 c4 c5 c6 c7 c8
 refine start_ (n := 20) (S := fun w' => w'.cell? ⟨w.heap.size, 0, none⟩ = some (.int .i64 x.f0) ∧ w'.cell? ⟨w.heap.size, 1, none⟩ = some (.int .i64 x.f1.f0) ∧ w'.cell? ⟨w.heap.size, 2, none⟩ = some (.int .i64 x.f1.f1) ∧ w'.cell? ⟨w.heap.size, 3, none⟩ = some (.int .i64 x.f1.f2) ∧ w'.cell? ⟨w.heap.size, 4, none⟩ = some (.int .i64 x.f1.f3) ∧ w'.cell? ⟨w.heap.size, 5, none⟩ = some (.string x.f2) ∧ w'.cell? ⟨w.heap.size, 6, none⟩ = some (.int .i64 x.f3) ∧ w'.cell? ⟨w.heap.size, 7, none⟩ = some (.string x.f4) ∧ w'.cell? ⟨w.heap.size, 8, none⟩ = some (.int .i64 x.f5)) (ds := []) #[false, false, false, false, false, false, false, false, false, false, false, false, false, false, false, false, false, false, false, false] (by kernel_rfl) rfl rfl ⟨(blk_cell BEd.out 0).trans rfl, (blk_cell BEd.out 1).trans rfl, (blk_cell BEd.out 2).trans rfl, (blk_cell BEd.out 3).trans rfl, (blk_cell BEd.out 4).trans rfl, (blk_cell BEd.out 5).trans rfl, (blk_cell BEd.out 6).trans rfl, (blk_cell BEd.out 7).trans rfl, (blk_cell BEd.out 8).trans rfl⟩ (fun hHeld => ?_)
 refine with_tabW audit_Text.tab5 audit_Text.bits5 (fun HT_ HW_ => ?_)
 generalize World.drew _ = wd at HBd BEd hHeld ⊢
 refine pure_ (i := 0) (N := some 19) (v := ?_) (a' := ?_) #[true, false, false, false, false, false, false, false, false, false, false, false, false, false, false, false, false, false, false, false] rfl rfl (any_of HT_.out (by kernel_rfl)) (fun _ _ _ h => h) (Or.inl ⟨by rfl, ?_⟩) ?_ ?_
 rotate_left
 ·intro w'
  go_simp
  with_reducible rfl
 rotate_left
 ·simp only [Act.put, List.setIfInBounds_toArray, List.set_cons_zero, List.set_cons_succ, i64_w, i32_w]
  rfl
 refine pure_ (i := 3) (N := some 22) (v := ?_) (a' := ?_) #[true, false, false, true, false, false, false, false, false, false, false, false, false, false, false, false, false, false, false, false] rfl rfl (any_of HT_.out (by kernel_rfl)) (fun _ _ _ h => h) (Or.inl ⟨by rfl, ?_⟩) ?_ ?_
 rotate_left
 ·intro w'
  go_simp
  with_reducible rfl
 rotate_left
 ·simp only [Act.put, List.setIfInBounds_toArray, List.set_cons_zero, List.set_cons_succ, i64_w, i32_w]
  rfl
 refine pure_ (i := 6) (N := some 25) (v := ?_) (a' := ?_) #[true, false, false, true, false, false, true, false, false, false, false, false, false, false, false, false, false, false, false, false] rfl rfl (any_of HT_.out (by kernel_rfl)) (fun _ _ _ h => h) (Or.inl ⟨by rfl, ?_⟩) ?_ ?_
 rotate_left
 ·intro w'
  go_simp
  with_reducible rfl
 rotate_left
 ·simp only [Act.put, List.setIfInBounds_toArray, List.set_cons_zero, List.set_cons_succ, i64_w, i32_w]
  rfl
 refine pure_ (i := 9) (N := some 28) (v := ?_) (a' := ?_) #[true, false, false, true, false, false, true, false, false, true, false, false, false, false, false, false, false, false, false, false] rfl rfl (any_of HT_.out (by kernel_rfl)) (fun _ _ _ h => h) (Or.inl ⟨by rfl, ?_⟩) ?_ ?_
 rotate_left
 ·intro w'
  go_simp
  with_reducible rfl
 rotate_left
 ·simp only [Act.put, List.setIfInBounds_toArray, List.set_cons_zero, List.set_cons_succ, i64_w, i32_w]
  rfl
 refine pure_ (i := 11) (N := some 30) (v := ?_) (a' := ?_) #[true, false, false, true, false, false, true, false, false, true, false, true, false, false, false, false, false, false, false, false] rfl rfl (any_of HT_.out (by kernel_rfl)) (fun _ _ _ h => h) (Or.inl ⟨by rfl, ?_⟩) ?_ ?_
 rotate_left
 ·intro w'
  go_simp
  with_reducible rfl
 rotate_left
 ·simp only [Act.put, List.setIfInBounds_toArray, List.set_cons_zero, List.set_cons_succ, i64_w, i32_w]
  rfl
 refine pure_ (i := 14) (N := some 33) (v := ?_) (a' := ?_) #[true, false, false, true, false, false, true, false, false, true, false, true, false, false, true, false, false, false, false, false] rfl rfl (any_of HT_.out (by kernel_rfl)) (fun _ _ _ h => h) (Or.inl ⟨by rfl, ?_⟩) ?_ ?_
 rotate_left
 ·intro w'
  go_simp
  with_reducible rfl
 rotate_left
 ·simp only [Act.put, List.setIfInBounds_toArray, List.set_cons_zero, List.set_cons_succ, i64_w, i32_w]
  rfl
 refine take_ (i := 1) (N := some 20) (v := ?_) (a' := ?_) #[true, true, false, true, false, false, true, false, false, true, false, true, false, false, true, false, false, false, false, false] rfl rfl (take_ofW HT_.out HW_.out (by kernel_rfl)) (fun _ _ _ h => h) (Or.inl ⟨by rfl, ?_⟩) hHeld ?_ ?_
 rotate_left
 ·rintro w' ⟨s0, s1, s2, s3, s4, s5, s6, s7, s8⟩
  go_simp
  with_reducible rfl
 rotate_left
 ·simp only [Act.put, List.setIfInBounds_toArray, List.set_cons_zero, List.set_cons_succ, i64_w, i32_w]
  rfl
 refine take_ (i := 4) (N := some 23) (v := ?_) (a' := ?_) #[true, true, false, true, true, false, true, false, false, true, false, true, false, false, true, false, false, false, false, false] rfl rfl (take_ofW HT_.out HW_.out (by kernel_rfl)) (fun _ _ _ h => h) (Or.inl ⟨by rfl, ?_⟩) hHeld ?_ ?_
 rotate_left
 ·rintro w' ⟨s0, s1, s2, s3, s4, s5, s6, s7, s8⟩
  go_simp
  with_reducible rfl
 rotate_left
 ·simp only [Act.put, List.setIfInBounds_toArray, List.set_cons_zero, List.set_cons_succ, i64_w, i32_w]
  rfl
 refine take_ (i := 7) (N := some 26) (v := ?_) (a' := ?_) #[true, true, false, true, true, false, true, true, false, true, false, true, false, false, true, false, false, false, false, false] rfl rfl (take_ofW HT_.out HW_.out (by kernel_rfl)) (fun _ _ _ h => h) (Or.inl ⟨by rfl, ?_⟩) hHeld ?_ ?_
 rotate_left
 ·rintro w' ⟨s0, s1, s2, s3, s4, s5, s6, s7, s8⟩
  go_simp
  with_reducible rfl
 rotate_left
 ·simp only [Act.put, List.setIfInBounds_toArray, List.set_cons_zero, List.set_cons_succ, i64_w, i32_w]
  rfl
 refine take_ (i := 12) (N := some 31) (v := ?_) (a' := ?_) #[true, true, false, true, true, false, true, true, false, true, false, true, true, false, true, false, false, false, false, false] rfl rfl (take_ofW HT_.out HW_.out (by kernel_rfl)) (fun _ _ _ h => h) (Or.inl ⟨by rfl, ?_⟩) hHeld ?_ ?_
 rotate_left
 ·rintro w' ⟨s0, s1, s2, s3, s4, s5, s6, s7, s8⟩
  go_simp
  with_reducible rfl
 rotate_left
 ·simp only [Act.put, List.setIfInBounds_toArray, List.set_cons_zero, List.set_cons_succ, i64_w, i32_w]
  rfl
 refine take_ (i := 15) (N := some 34) (v := ?_) (a' := ?_) #[true, true, false, true, true, false, true, true, false, true, false, true, true, false, true, true, false, false, false, false] rfl rfl (take_ofW HT_.out HW_.out (by kernel_rfl)) (fun _ _ _ h => h) (Or.inl ⟨by rfl, ?_⟩) hHeld ?_ ?_
 rotate_left
 ·rintro w' ⟨s0, s1, s2, s3, s4, s5, s6, s7, s8⟩
  go_simp
  with_reducible rfl
 rotate_left
 ·simp only [Act.put, List.setIfInBounds_toArray, List.set_cons_zero, List.set_cons_succ, i64_w, i32_w]
  rfl
 refine one_ (i := 2) (N := some 21) #[true, true, true, true, true, false, true, true, false, true, false, true, true, false, true, true, false, false, false, false] rfl rfl (one_of HT_.out (by kernel_rfl)) (by decide) (fun K hK => ?_)
 refine goes_ Tryd.func46 (by kernel_rfl) rfl #[.int .i64 x.f0] (by rfl) rfl rfl (by (try simp only [List.map_toArray, List.map_cons, List.map_nil]); first | done | rfl) ?_
 refine (Tryd.strconv_Itoa x.f0 HF.out.1 HF.out.2 _ (Laid.below HG.out HBd.out)).mono ?_
 rintro e wq ⟨rfl, q2, os2, hw2⟩
 have hb_ : Below _ _ wq := (by rw [hw2]; exact below_grown_sl _ _ q2 os2 (Nat.le_refl _))
 clear hw2
 refine ⟨_, rfl, ?_⟩
 have n1_ := Aside0.mk (below_step HBd.out hb_)
 have n2_ := Aside0.mk (blk_below BEd.out hb_)
 clear HBd BEd hb_
 have HBd := n1_
 have BEd := n2_
 clear n1_ n2_
 rename World => wd
 refine hK.out _ _ ⟨(blk_cell BEd.out 0).trans rfl, (blk_cell BEd.out 1).trans rfl, (blk_cell BEd.out 2).trans rfl, (blk_cell BEd.out 3).trans rfl, (blk_cell BEd.out 4).trans rfl, (blk_cell BEd.out 5).trans rfl, (blk_cell BEd.out 6).trans rfl, (blk_cell BEd.out 7).trans rfl, (blk_cell BEd.out 8).trans rfl⟩ (fun hHeld => ?_)
 clear hK K
 refine norm_ (a' := ?_) ?_ ?_
 rotate_left
 ·show Act.put _ (some 21) _ = _
  simp only [Act.put, List.setIfInBounds_toArray, List.set_cons_zero, List.set_cons_succ, i64_w, i32_w]
  rfl
 refine one_ (i := 5) (N := some 24) #[true, true, true, true, true, true, true, true, false, true, false, true, true, false, true, true, false, false, false, false] rfl rfl (one_of HT_.out (by kernel_rfl)) (by decide) (fun K hK => ?_)
 refine goes_ Tryd.func47 (by kernel_rfl) rfl #[.agg #[.int .i64 x.f1.f0, .int .i64 x.f1.f1, .int .i64 x.f1.f2, .int .i64 x.f1.f3]] (by rfl) rfl rfl (by (try simp only [List.map_toArray, List.map_cons, List.map_nil]); first | done | rfl) ?_
 refine (label_Text.calls x.f1.f0 x.f1.f1 x.f1.f2 x.f1.f3 _ _ (Laid.below HG.out HBd.out) HLT.out).mono ?_
 rintro e wq ⟨rfl, hb_⟩
 refine ⟨_, rfl, ?_⟩
 have n1_ := Aside0.mk (below_step HBd.out hb_)
 have n2_ := Aside0.mk (blk_below BEd.out hb_)
 clear HBd BEd hb_
 have HBd := n1_
 have BEd := n2_
 clear n1_ n2_
 rename World => wd
 refine hK.out _ _ ⟨(blk_cell BEd.out 0).trans rfl, (blk_cell BEd.out 1).trans rfl, (blk_cell BEd.out 2).trans rfl, (blk_cell BEd.out 3).trans rfl, (blk_cell BEd.out 4).trans rfl, (blk_cell BEd.out 5).trans rfl, (blk_cell BEd.out 6).trans rfl, (blk_cell BEd.out 7).trans rfl, (blk_cell BEd.out 8).trans rfl⟩ (fun hHeld => ?_)
 clear hK K
 refine norm_ (a' := ?_) ?_ ?_
 rotate_left
 ·show Act.put _ (some 24) _ = _
  simp only [Act.put, List.setIfInBounds_toArray, List.set_cons_zero, List.set_cons_succ, i64_w, i32_w]
  rfl
 refine one_ (i := 8) (N := some 27) #[true, true, true, true, true, true, true, true, true, true, false, true, true, false, true, true, false, false, false, false] rfl rfl (one_of HT_.out (by kernel_rfl)) (by decide) (fun K hK => ?_)
 refine goes_ Tryd.func48 (by kernel_rfl) rfl #[.string x.f2] (by rfl) rfl rfl (by (try simp only [List.map_toArray, List.map_cons, List.map_nil]); first | done | rfl) ?_
 refine (audit_word.calls x.f2 _ _ (word_f _)).mono ?_
 rintro e wq ⟨rfl, hd_⟩
 have hb_ := below_of_drawn0_ hd_
 clear hd_
 refine ⟨_, rfl, ?_⟩
 have n1_ := Aside0.mk (below_step HBd.out hb_)
 have n2_ := Aside0.mk (blk_below BEd.out hb_)
 clear HBd BEd hb_
 have HBd := n1_
 have BEd := n2_
 clear n1_ n2_
 rename World => wd
 refine hK.out _ _ ⟨(blk_cell BEd.out 0).trans rfl, (blk_cell BEd.out 1).trans rfl, (blk_cell BEd.out 2).trans rfl, (blk_cell BEd.out 3).trans rfl, (blk_cell BEd.out 4).trans rfl, (blk_cell BEd.out 5).trans rfl, (blk_cell BEd.out 6).trans rfl, (blk_cell BEd.out 7).trans rfl, (blk_cell BEd.out 8).trans rfl⟩ (fun hHeld => ?_)
 clear hK K
 refine norm_ (a' := ?_) ?_ ?_
 rotate_left
 ·show Act.put _ (some 27) _ = _
  simp only [Act.put, List.setIfInBounds_toArray, List.set_cons_zero, List.set_cons_succ, i64_w, i32_w]
  rfl
 refine one_ (i := 10) (N := some 29) #[true, true, true, true, true, true, true, true, true, true, true, true, true, false, true, true, false, false, false, false] rfl rfl (one_of HT_.out (by kernel_rfl)) (by decide) (fun K hK => ?_)
 refine goes_ Tryd.func48 (by kernel_rfl) rfl #[.string VV] (by rfl) rfl rfl (by (try simp only [List.map_toArray, List.map_cons, List.map_nil]); first | done | rfl) ?_
 refine (audit_word.calls VV _ _ (word_f _)).mono ?_
 rintro e wq ⟨rfl, hd_⟩
 have hb_ := below_of_drawn0_ hd_
 clear hd_
 refine ⟨_, rfl, ?_⟩
 have n1_ := Aside0.mk (below_step HBd.out hb_)
 have n2_ := Aside0.mk (blk_below BEd.out hb_)
 clear HBd BEd hb_
 have HBd := n1_
 have BEd := n2_
 clear n1_ n2_
 rename World => wd
 refine hK.out _ _ ⟨(blk_cell BEd.out 0).trans rfl, (blk_cell BEd.out 1).trans rfl, (blk_cell BEd.out 2).trans rfl, (blk_cell BEd.out 3).trans rfl, (blk_cell BEd.out 4).trans rfl, (blk_cell BEd.out 5).trans rfl, (blk_cell BEd.out 6).trans rfl, (blk_cell BEd.out 7).trans rfl, (blk_cell BEd.out 8).trans rfl⟩ (fun hHeld => ?_)
 clear hK K
 refine norm_ (a' := ?_) ?_ ?_
 rotate_left
 ·show Act.put _ (some 29) _ = _
  simp only [Act.put, List.setIfInBounds_toArray, List.set_cons_zero, List.set_cons_succ, i64_w, i32_w]
  rfl
 refine one_ (i := 13) (N := some 32) #[true, true, true, true, true, true, true, true, true, true, true, true, true, true, true, true, false, false, false, false] rfl rfl (one_of HT_.out (by kernel_rfl)) (by decide) (fun K hK => ?_)
 refine goes_ Tryd.func48 (by kernel_rfl) rfl #[.string x.f4] (by rfl) rfl rfl (by (try simp only [List.map_toArray, List.map_cons, List.map_nil]); first | done | rfl) ?_
 refine (audit_word.calls x.f4 _ _ (word_f _)).mono ?_
 rintro e wq ⟨rfl, hd_⟩
 have hb_ := below_of_drawn0_ hd_
 clear hd_
 refine ⟨_, rfl, ?_⟩
 have n1_ := Aside0.mk (below_step HBd.out hb_)
 have n2_ := Aside0.mk (blk_below BEd.out hb_)
 clear HBd BEd hb_
 have HBd := n1_
 have BEd := n2_
 clear n1_ n2_
 rename World => wd
 refine hK.out _ _ ⟨(blk_cell BEd.out 0).trans rfl, (blk_cell BEd.out 1).trans rfl, (blk_cell BEd.out 2).trans rfl, (blk_cell BEd.out 3).trans rfl, (blk_cell BEd.out 4).trans rfl, (blk_cell BEd.out 5).trans rfl, (blk_cell BEd.out 6).trans rfl, (blk_cell BEd.out 7).trans rfl, (blk_cell BEd.out 8).trans rfl⟩ (fun hHeld => ?_)
 clear hK K
 refine norm_ (a' := ?_) ?_ ?_
 rotate_left
 ·show Act.put _ (some 32) _ = _
  simp only [Act.put, List.setIfInBounds_toArray, List.set_cons_zero, List.set_cons_succ, i64_w, i32_w]
  rfl
 refine one_ (i := 16) (N := some 35) #[true, true, true, true, true, true, true, true, true, true, true, true, true, true, true, true, true, false, false, false] rfl rfl (one_of HT_.out (by kernel_rfl)) (by decide) (fun K hK => ?_)
 refine goes_ Tryd.func49 (by kernel_rfl) rfl #[.int .i64 x.f5] (by rfl) rfl rfl (by (try simp only [List.map_toArray, List.map_cons, List.map_nil]); first | done | rfl) ?_
 refine (api_Errno_Error.calls x.f5 ew _ HEW.out).mono ?_
 rintro e wq ⟨rfl, hd_⟩
 have hb_ := below_of_drawn0_ hd_
 clear hd_
 refine ⟨_, rfl, ?_⟩
 have n1_ := Aside0.mk (below_step HBd.out hb_)
 have n2_ := Aside0.mk (blk_below BEd.out hb_)
 clear HBd BEd hb_
 have HBd := n1_
 have BEd := n2_
 clear n1_ n2_
 rename World => wd
 refine hK.out _ _ ⟨(blk_cell BEd.out 0).trans rfl, (blk_cell BEd.out 1).trans rfl, (blk_cell BEd.out 2).trans rfl, (blk_cell BEd.out 3).trans rfl, (blk_cell BEd.out 4).trans rfl, (blk_cell BEd.out 5).trans rfl, (blk_cell BEd.out 6).trans rfl, (blk_cell BEd.out 7).trans rfl, (blk_cell BEd.out 8).trans rfl⟩ (fun hHeld => ?_)
 clear hK K
 refine norm_ (a' := ?_) ?_ ?_
 rotate_left
 ·show Act.put _ (some 35) _ = _
  simp only [Act.put, List.setIfInBounds_toArray, List.set_cons_zero, List.set_cons_succ, i64_w, i32_w]
  rfl
 refine one_ (i := 17) (N := some 36) #[true, true, true, true, true, true, true, true, true, true, true, true, true, true, true, true, true, true, false, false] rfl rfl (one_of HT_.out (by kernel_rfl)) (by decide) (fun K hK => ?_)
 refine value_ (v := .slice (some ⟨wd.heap.size, 0, none⟩) 6 6) (w1 := wd.alloc (.cells #[.string (numeralB x.f0), .string (textV x.f1.f0 x.f1.f1 x.f1.f2 x.f1.f3), .string (wordB x.f2), .string (wordB VV), .string (wordB x.f4), .string (ew)] 9)) (by rfl) rfl (by go_simp; rfl) ?_
 have BR := Aside0.mk (blk_new wd (.cells #[.string (numeralB x.f0), .string (textV x.f1.f0 x.f1.f1 x.f1.f2 x.f1.f3), .string (wordB x.f2), .string (wordB VV), .string (wordB x.f4), .string (ew)] 9))
 have n1_ := Aside0.mk (below_alloc HBd.out (.cells #[.string (numeralB x.f0), .string (textV x.f1.f0 x.f1.f1 x.f1.f2 x.f1.f3), .string (wordB x.f2), .string (wordB VV), .string (wordB x.f4), .string (ew)] 9))
 have n2_ := Aside0.mk (blk_alloc BEd.out (.cells #[.string (numeralB x.f0), .string (textV x.f1.f0 x.f1.f1 x.f1.f2 x.f1.f3), .string (wordB x.f2), .string (wordB VV), .string (wordB x.f4), .string (ew)] 9))
 clear HBd BEd
 have HBd := n1_
 have BEd := n2_
 clear n1_ n2_
 generalize wd.heap.size = gs at BR ⊢
 generalize wd.alloc _ = we at HBd BEd BR ⊢
 refine hK.out _ _ ⟨(blk_cell BEd.out 0).trans rfl, (blk_cell BEd.out 1).trans rfl, (blk_cell BEd.out 2).trans rfl, (blk_cell BEd.out 3).trans rfl, (blk_cell BEd.out 4).trans rfl, (blk_cell BEd.out 5).trans rfl, (blk_cell BEd.out 6).trans rfl, (blk_cell BEd.out 7).trans rfl, (blk_cell BEd.out 8).trans rfl⟩ (fun hHeld => ?_)
 clear hK K
 refine norm_ (a' := ?_) ?_ ?_
 rotate_left
 ·show Act.put _ (some 36) _ = _
  simp only [Act.put, List.setIfInBounds_toArray, List.set_cons_zero, List.set_cons_succ, i64_w, i32_w]
  rfl
 refine one_ (i := 18) (N := some 37) #[true, true, true, true, true, true, true, true, true, true, true, true, true, true, true, true, true, true, true, false] rfl rfl (one_of HT_.out (by kernel_rfl)) (by decide) (fun K hK => ?_)
 refine goes_ Tryd.func45 (by kernel_rfl) rfl #[.slice (some ⟨gs, 0, none⟩) 6 6, .string ⟨#[32]⟩] (by rfl) rfl rfl (by (try simp only [List.map_toArray, List.map_cons, List.map_nil]); first | done | rfl) ?_
 have hcl : ∀ (j : Nat) x_, [numeralB x.f0, textV x.f1.f0 x.f1.f1 x.f1.f2 x.f1.f3, wordB x.f2, wordB VV, wordB x.f4, ew][j]? = some x_ → we.cell? ⟨gs, 0 + j, none⟩ = some (.string x_) := by
  intro j x_ hx
  match j, hx with
  | 0, hx => obtain rfl := Option.some.inj hx; exact (blk_cell BR.out 0).trans rfl
  | 1, hx => obtain rfl := Option.some.inj hx; exact (blk_cell BR.out 1).trans rfl
  | 2, hx => obtain rfl := Option.some.inj hx; exact (blk_cell BR.out 2).trans rfl
  | 3, hx => obtain rfl := Option.some.inj hx; exact (blk_cell BR.out 3).trans rfl
  | 4, hx => obtain rfl := Option.some.inj hx; exact (blk_cell BR.out 4).trans rfl
  | 5, hx => obtain rfl := Option.some.inj hx; exact (blk_cell BR.out 5).trans rfl
  | j + 6, hx => exact absurd hx (by simp)
 refine (Tryd.strings_Join gs 0 6 [numeralB x.f0, textV x.f1.f0 x.f1.f1 x.f1.f2 x.f1.f3, wordB x.f2, wordB VV, wordB x.f4, ew] ⟨#[32]⟩ we hcl (blk_lt BR.out) (by show 6 ≤ _; omega) (by show 6 ≤ 6; omega) HSH.out).mono ?_
 rintro e wq ⟨rfl, hb_⟩
 refine ⟨_, rfl, ?_⟩
 have n1_ := Aside0.mk (below_step HBd.out hb_)
 have n2_ := Aside0.mk (blk_below BEd.out hb_)
 clear HBd BEd hb_ hcl
 have HBd := n1_
 have BEd := n2_
 clear n1_ n2_
 refine hK.out _ _ ⟨(blk_cell BEd.out 0).trans rfl, (blk_cell BEd.out 1).trans rfl, (blk_cell BEd.out 2).trans rfl, (blk_cell BEd.out 3).trans rfl, (blk_cell BEd.out 4).trans rfl, (blk_cell BEd.out 5).trans rfl, (blk_cell BEd.out 6).trans rfl, (blk_cell BEd.out 7).trans rfl, (blk_cell BEd.out 8).trans rfl⟩ (fun hHeld => ?_)
 clear hK K
 refine norm_ (a' := ?_) ?_ ?_
 rotate_left
 ·show Act.put _ (some 37) _ = _
  simp only [Act.put, List.setIfInBounds_toArray, List.set_cons_zero, List.set_cons_succ, i64_w, i32_w]
  rfl
 refine pure_ (i := 19) (N := some 2) (v := ?_) (a' := ?_) #[true, true, true, true, true, true, true, true, true, true, true, true, true, true, true, true, true, true, true, true] rfl rfl (any_of HT_.out (by kernel_rfl)) (fun _ _ _ h => h) (Or.inl ⟨by rfl, ?_⟩) ?_ ?_
 rotate_left
 ·intro w'
  go_simp
  with_reducible rfl
 rotate_left
 ·simp only [Act.put, List.setIfInBounds_toArray, List.set_cons_zero, List.set_cons_succ, i64_w, i32_w]
  rfl
 refine done_ (done_of HT_.out (by kernel_rfl)) ?_
 try go_wp2
 go_ret
 exact ⟨rfl, HBd.out⟩
end Go.Proofs.YtihknjmibnonjaaDoor.X
end

section
/- Entries such as may be; what known tells. -/
namespace Go.Proofs.YtihknjmibnonjaaDoor.X
open Go.RowKit Go.Proofs.YtihknjmibnonjaaDoorW.PrintWords Go.Proofs.YtihknjmibnonjaaDoorW.PrintLast Go.Proofs.YtihknjmibnonjaaDoorW.PrintMore Go.Proofs.YtihknjmibnonjaaDoor.More Go.Proofs.YtihknjmibnonjaaDoor.Pure Go.Proofs.YtihknjmibnonjaaDoor.Lib
set_option linter.unusedVariables false
set_option linter.unusedSimpArgs false
/-- A label such as may be. -/
def goodS (x : SL) : SL := ⟨x.f0 % 4, x.f1 % 256, x.f2 % 4, x.f3 % 256⟩
theorem goodS_f (x : SL) : donjonlaw4_Good.f x.f0 x.f1 x.f2 x.f3 = some ((goodS x).f0, (goodS x).f1, (goodS x).f2, (goodS x).f3) := good4_f _ _ _ _
theorem goodS_lab (x : SL) : labOk (goodS x) := by
 refine ⟨⟨?_, ?_⟩, ⟨?_, ?_⟩, ⟨?_, ?_⟩, ⟨?_, ?_⟩⟩ <;> simp only [goodS] <;> omega
theorem goodS_ok (x : SL) : okL (goodS x) := (goodS_lab x).wf
theorem eq_beq (x y : SL) : (y.f0 == x.f0 && (y.f1 == x.f1 && (y.f2 == x.f2 && (y.f3 == x.f3)))) = decide (y = x) := by
 by_cases h : y = x
 ·subst h; simp
 ·rw [decide_eq_false h]
  refine Bool.eq_false_iff.2 fun e => h ?_
  simp only [Bool.and_eq_true, beq_iff_eq] at e
  cases x; cases y
  simp_all
theorem within14_f (a n : Int) (h0 : 0 < n) (h1 : n ≤ 1000) : donjonlaw14_within.f a n = some (a % n) := by
 obtain ⟨r, e, _, _, h⟩ := within_small (a := a) (n := n) (by omega) (by omega)
 rw [← h]
 unfold donjonlaw14_within.f
 exact e
/-- A text's first bytes. -/
def cutB (n : Nat) (s : ByteArray) : ByteArray := if (s.size : Int) > n then s.extract 0 n else s
theorem cutB_le (n : Nat) (s : ByteArray) : (cutB n s).size ≤ n := by
 unfold cutB
 split
 ·rw [ByteArray.size_extract]
  omega
 ·omega
/-- An entry such as may be. -/
def goodE (e : SE) : SE := ⟨e.f0, goodS e.f1, cutB 12 e.f2, 1 + e.f3 % 14, cutB 30 e.f4, e.f5 % 38⟩
theorem goodE_may (e : SE) : mayE (goodE e) := by
 have h1 := cutB_le 12 e.f2
 have h2 := cutB_le 30 e.f4
 refine ⟨goodS_lab _, ?_, ?_, ?_, ?_, ?_, ?_⟩ <;> simp only [goodE] <;> omega
theorem good_f (e : SE) : donjonlaw14_good.f e.f0 e.f1.f0 e.f1.f1 e.f1.f2 e.f1.f3 e.f2 e.f3 e.f4 e.f5 =
  some ((goodE e).f0, (goodE e).f1.f0, (goodE e).f1.f1, (goodE e).f1.f2, (goodE e).f1.f3, (goodE e).f2, (goodE e).f3, (goodE e).f4, (goodE e).f5) := by
 unfold donjonlaw14_good.f
 rw [goodS_f, within14_f _ 14 (by omega) (by omega), within14_f _ 38 (by omega) (by omega)]
 simp only [Option.bind_some]
 have ew : wrap64 (1 + e.f3 % 14) = 1 + e.f3 % 14 := wrap64_id (by omega) (by omega)
 rw [ew]
 by_cases h1 : (e.f2.size : Int) > 12
 ·rw [if_pos h1, if_pos (by omega), if_pos (by omega)]
  have c1 : cutB 12 e.f2 = e.f2.extract 0 12 := if_pos h1
  by_cases h2 : (e.f4.size : Int) > 30
  ·rw [if_pos h2, if_pos (by omega), if_pos (by omega)]
   have c2 : cutB 30 e.f4 = e.f4.extract 0 30 := if_pos h2
   simp only [goodE, c1, c2]
  ·rw [if_neg h2]
   have c2 : cutB 30 e.f4 = e.f4 := if_neg h2
   simp only [goodE, c1, c2]
 ·rw [if_neg h1]
  have c1 : cutB 12 e.f2 = e.f2 := if_neg h1
  by_cases h2 : (e.f4.size : Int) > 30
  ·rw [if_pos h2, if_pos (by omega), if_pos (by omega)]
   have c2 : cutB 30 e.f4 = e.f4.extract 0 30 := if_pos h2
   simp only [goodE, c1, c2]
  ·rw [if_neg h2]
   have c2 : cutB 30 e.f4 = e.f4 := if_neg h2
   simp only [goodE, c1, c2]
theorem good_run (e : SE) (w : World) : Calls Tryd.prog 12 #[ev e] w fun r w' => r = .returned (ev (goodE e)) ∧ Below w.heap.size w w' :=
 donjonlaw14_good.calls _ _ _ _ _ _ _ _ _ _ _ _ _ _ _ _ _ _ w (good_f e)
theorem goodS_run (x : SL) (w : World) : Calls Tryd.prog 9 #[lv x] w fun r w' => r = .returned (lv (goodS x)) ∧ Below w.heap.size w w' :=
 donjonlaw4_Good.calls _ _ _ _ _ _ _ _ w (goodS_f x)
def knownE : SE := ⟨1, ⟨0, 0, 3, 255⟩, ⟨#[97]⟩, 2, ⟨#[47, 120]⟩, 0⟩
theorem known_text : textE knownE ⟨#[111, 107]⟩ = ⟨#[49, 32, 48, 46, 48, 46, 51, 46, 50, 53, 53, 32, 97, 32, 115, 101, 103, 32, 47, 120, 32, 111, 107]⟩ := by decide +kernel
set_option maxRecDepth 100000 in
theorem known14 (w : World) (hG : Laid w) : Calls Tryd.prog 8 #[] w fun e w' => e = .returned (.bool true) ∧ Below w.heap.size w w' := by
 have hT := fun W (h : Laid W) => audit_Text.yes knownE ⟨#[111, 107]⟩ W h (by decide) ⟨rfl, rfl, rfl, rfl⟩ (by decide) (by decide) (by decide) (if_pos rfl) (by decide)
 rw [known_text] at hT
 have HT := Aside0.mk hT
 have HG := Aside0.mk hG
 clear hT hG
 go_enter Tryd.func8, Tryd.ntmps8
 go_wp2_with fail
 refine (HT.out _ HG.out).mono ?_
 rintro e w1 ⟨rfl, hb⟩
 have HB := Aside0.mk hb
 clear hb
 go_wp2
 go_ret
 exact ⟨rfl, HB.out⟩
end Go.Proofs.YtihknjmibnonjaaDoor.X
end

section
/- What the laws of the log share. -/
namespace Go.Proofs.YtihknjmibnonjaaDoor.X
open Go.RowKit Go.Proofs.YtihknjmibnonjaaDoorW.PrintWords Go.Proofs.YtihknjmibnonjaaDoorW.PrintLast Go.Proofs.YtihknjmibnonjaaDoorW.PrintMore Go.Proofs.YtihknjmibnonjaaDoor.More Go.Proofs.YtihknjmibnonjaaDoor.Pure Go.Proofs.YtihknjmibnonjaaDoor.Lib
set_option linter.unusedVariables false
set_option linter.unusedSimpArgs false
theorem okA_low {w : World} {lb mb n base : Nat} {hdr : SL → Value} {rows : SL → List SE} (h : LogIs w lb mb n base hdr rows) {k : Nat} (hk : k < base) : okA hdr k := fun y hy e => by
 have := Kd.R_base (h.row hy) _ e
 omega
/-- What was made before the log was, stands. -/
theorem LogStep.low {w w' : World} {lb mb n base : Nat} {hdr : SL → Value} {rows : SL → List SE} (s : LogStep w w' mb hdr) (hL : LogIs w lb mb n base hdr rows) (hm : base ≤ mb) {g : Nat} (hg : g < base) {o : Obj} (h : w.heap[g]? = some o) : w'.heap[g]? = some o :=
 (s.block g (Array.getElem?_eq_some_iff.1 h).1 (by omega) (okA_low hL hg)).trans h
/-- An entry told anew with another number and label. -/
def reE (e : SE) (s : Int) (l : SL) : SE := ⟨s, l, e.f2, e.f3, e.f4, e.f5⟩
/-- The first m entries that the log has of an entry at a label. -/
def seqE (e : SE) (l : SL) (m : Nat) : List SE := (List.range m).map fun (i : Nat) => reE e ((i : Int) + 1) l
theorem seqE_length (e : SE) (l : SL) (m : Nat) : (seqE e l m).length = m := by simp [seqE]
theorem seqE_succ (e : SE) (l : SL) (m : Nat) : seqE e l m ++ [reE e ((m : Int) + 1) l] = seqE e l (m + 1) := by
 simp [seqE, List.range_succ]
theorem seqE_rd (e : SE) (l : SL) (m : Nat) (k : Int) (h0 : 0 ≤ k) (h1 : k < (m : Int)) : rd_T26 (seqE e l m) k = reE e (k + 1) l := by
 unfold rd_T26 seqE
 rw [List.getD_eq_getElem?_getD, List.getElem?_map, List.getElem?_range (by omega)]
 show reE e ((k.toNat : Int) + 1) l = _
 rw [Int.toNat_of_nonneg h0]
theorem reE_may {e : SE} {l : SL} (s : Int) (h : mayE e) (hl : labOk l) : mayE (reE e s l) := ⟨hl, h.2⟩
/-- A log that holds rows at one label alone. -/
def oneRow (a : SL) (l : List SE) : SL → List SE := fun y => if y = a then l else []
theorem oneRow_at (a : SL) (l : List SE) : oneRow a l a = l := if_pos rfl
theorem oneRow_ne {a b : SL} (h : b ≠ a) (l : List SE) : oneRow a l b = [] := if_neg h
theorem updR_one (a : SL) (l l' : List SE) : updR (oneRow a l) a l' = oneRow a l' := by
 funext y
 unfold updR oneRow
 split <;> simp [*]
theorem LogIs.congr {w : World} {lb mb n base : Nat} {hdr : SL → Value} {rows rows' : SL → List SE} (h : LogIs w lb mb n base hdr rows) (e : rows = rows') : LogIs w lb mb n base hdr rows' := e ▸ h
theorem ge_len {b : Bool} {n : Int} {m : Nat} (h : decide ((40 : Int) ≤ (m : Int)) = b) : decide ((40 : Int) ≤ (m : Int)) = b := h
/-- Labels and an entry in boxes of their own. -/
structure Three (W : World) (g : Nat) (a b : SL) (e : SE) : Prop where
 a : W.heap[g]? = some (.cells #[.int .i64 a.f0, .int .i64 a.f1, .int .i64 a.f2, .int .i64 a.f3] 23 (0, 0))
 b : W.heap[g + 1]? = some (.cells #[.int .i64 b.f0, .int .i64 b.f1, .int .i64 b.f2, .int .i64 b.f3] 23 (0, 0))
 e : W.heap[g + 1 + 1]? = some (.cells #[.int .i64 e.f0, .int .i64 e.f1.f0, .int .i64 e.f1.f1, .int .i64 e.f1.f2, .int .i64 e.f1.f3, .string e.f2, .int .i64 e.f3, .string e.f4, .int .i64 e.f5] 26 (0, 0))
theorem Three.below {W W' : World} {g : Nat} {a b : SL} {e : SE} (h : Three W g a b e) (hb : Below W.heap.size W W') : Three W' g a b e := ⟨blk_below h.a hb, blk_below h.b hb, blk_below h.e hb⟩
theorem Three.low {w w' : World} {g lb mb n base : Nat} {hdr : SL → Value} {rows : SL → List SE} {a b : SL} {e : SE} (h : Three w g a b e) (s : LogStep w w' mb hdr) (hL : LogIs w lb mb n base hdr rows) (hm : base ≤ mb) (hg : g + 2 < base) : Three w' g a b e :=
 ⟨s.low hL hm (by omega) h.a, s.low hL hm (by omega) h.b, s.low hL hm (by omega) h.e⟩
theorem Three.made (w : World) (a b : SL) (e : SE) : Three (((w.alloc (.cells #[.int .i64 a.f0, .int .i64 a.f1, .int .i64 a.f2, .int .i64 a.f3] 23)).alloc (.cells #[.int .i64 b.f0, .int .i64 b.f1, .int .i64 b.f2, .int .i64 b.f3] 23)).alloc (.cells #[.int .i64 e.f0, .int .i64 e.f1.f0, .int .i64 e.f1.f1, .int .i64 e.f1.f2, .int .i64 e.f1.f3, .string e.f2, .int .i64 e.f3, .string e.f4, .int .i64 e.f5] 26)) w.heap.size a b e := by
 refine ⟨blk_alloc (blk_alloc (blk_new w _) _) _, ?_, ?_⟩
 ·have h1 := blk_new (w.alloc (.cells #[.int .i64 a.f0, .int .i64 a.f1, .int .i64 a.f2, .int .i64 a.f3] 23)) (.cells #[.int .i64 b.f0, .int .i64 b.f1, .int .i64 b.f2, .int .i64 b.f3] 23)
  rw [show (w.alloc (.cells #[.int .i64 a.f0, .int .i64 a.f1, .int .i64 a.f2, .int .i64 a.f3] 23)).heap.size = w.heap.size + 1 by simp] at h1
  exact blk_alloc h1 _
 ·have h1 := blk_new ((w.alloc (.cells #[.int .i64 a.f0, .int .i64 a.f1, .int .i64 a.f2, .int .i64 a.f3] 23)).alloc (.cells #[.int .i64 b.f0, .int .i64 b.f1, .int .i64 b.f2, .int .i64 b.f3] 23)) (.cells #[.int .i64 e.f0, .int .i64 e.f1.f0, .int .i64 e.f1.f1, .int .i64 e.f1.f2, .int .i64 e.f1.f3, .string e.f2, .int .i64 e.f3, .string e.f4, .int .i64 e.f5] 26)
  rwa [show ((w.alloc (.cells #[.int .i64 a.f0, .int .i64 a.f1, .int .i64 a.f2, .int .i64 a.f3] 23)).alloc (.cells #[.int .i64 b.f0, .int .i64 b.f1, .int .i64 b.f2, .int .i64 b.f3] 23)).heap.size = w.heap.size + 1 + 1 by simp] at h1
theorem blk_far4 {w : World} {g g' : Nat} {t : TypeId} {cs : Array Value} (h : w.heap[g]? = some (.cells cs t (0, 0))) (hne : g ≠ g') (i0 i1 i2 i3 : Nat) (v0 v1 v2 v3 : Value) : ((((w.setCell ⟨g', i0, none⟩ v0).setCell ⟨g', i1, none⟩ v1).setCell ⟨g', i2, none⟩ v2).setCell ⟨g', i3, none⟩ v3).heap[g]? = some (.cells cs t (0, 0)) :=
 blk_far (blk_far (blk_far (blk_far h hne _) hne _) hne _) hne _
/-- An entry's label stored anew. -/
theorem putL {w : World} {g : Nat} {t : TypeId} {c0 c1 c2 c3 c4 c5 c6 c7 c8 v1 v2 v3 v4 : Value} (h : w.heap[g]? = some (.cells #[c0, c1, c2, c3, c4, c5, c6, c7, c8] t (0, 0))) : ((((w.setCell ⟨g, 1, none⟩ v1).setCell ⟨g, 2, none⟩ v2).setCell ⟨g, 3, none⟩ v3).setCell ⟨g, 4, none⟩ v4).heap[g]? = some (.cells #[c0, v1, v2, v3, v4, c5, c6, c7, c8] t (0, 0)) :=
 blk_put (blk_put (blk_put (blk_put h 1 v1 rfl) 2 v2 rfl) 3 v3 rfl) 4 v4 rfl
theorem Three.putL {w : World} {g : Nat} {a b : SL} {e : SE} (h : Three w g a b e) (l : SL) : Three ((((w.setCell ⟨g + 1 + 1, 1, none⟩ (.int .i64 l.f0)).setCell ⟨g + 1 + 1, 2, none⟩ (.int .i64 l.f1)).setCell ⟨g + 1 + 1, 3, none⟩ (.int .i64 l.f2)).setCell ⟨g + 1 + 1, 4, none⟩ (.int .i64 l.f3)) g a b (reE e e.f0 l) :=
 ⟨blk_far4 h.a (by omega) _ _ _ _ _ _ _ _, blk_far4 h.b (by omega) _ _ _ _ _ _ _ _, X.putL h.e⟩
theorem Three.putS {w : World} {g : Nat} {a b : SL} {e : SE} (h : Three w g a b e) (s : Int) : Three (w.setCell ⟨g + 1 + 1, 0, none⟩ (.int .i64 s)) g a b (reE e s e.f1) :=
 ⟨blk_far h.a (show g ≠ g + 1 + 1 by omega) _, blk_far h.b (show g + 1 ≠ g + 1 + 1 by omega) _, blk_put h.e 0 _ rfl⟩
theorem below_set4 {w W : World} {g i0 i1 i2 i3 : Nat} {v0 v1 v2 v3 : Value} (h : Below w.heap.size w W) (hg : w.heap.size ≤ g) : Below w.heap.size w ((((W.setCell ⟨g, i0, none⟩ v0).setCell ⟨g, i1, none⟩ v1).setCell ⟨g, i2, none⟩ v2).setCell ⟨g, i3, none⟩ v3) :=
 below_set (below_set (below_set (below_set h hg) hg) hg) hg
/-- A log is as it was where nothing from its beginning on has turned. -/
theorem LogIs.turn {w w' : World} {lb mb n base : Nat} {hdr : SL → Value} {rows : SL → List SE} (h : LogIs w lb mb n base hdr rows) (hlb : base ≤ lb) (hmb : base ≤ mb) (hk : ∀ k, base ≤ k → k < w.heap.size → w'.heap[k]? = w.heap[k]?) : LogIs w' lb mb n base hdr rows := by
 refine ⟨(hk lb hlb (Array.getElem?_eq_some_iff.1 h.1).1).trans h.1, h.2.1.of_block (hk mb hmb h.2.1.lt), fun x hx => ⟨Kd.R_mono (Kd.R_move (Kd.R_bound (h.2.2 x hx).1) (fun k hk2 => hk k hk2.2.1 hk2.2.2.1)) (fun _ hk2 => hk2.1), (h.2.2 x hx).2⟩⟩
theorem LogIs.set {w : World} {lb mb n base : Nat} {hdr : SL → Value} {rows : SL → List SE} (h : LogIs w lb mb n base hdr rows) (hlb : base ≤ lb) (hmb : base ≤ mb) {g j : Nat} {v : Value} (hg : g < base) : LogIs (w.setCell ⟨g, j, none⟩ v) lb mb n base hdr rows :=
 h.turn hlb hmb (fun k hk _ => Below.heap_setCell w ⟨g, j, none⟩ v k (show k ≠ g by omega))
theorem LogIs.set4 {w : World} {lb mb n base : Nat} {hdr : SL → Value} {rows : SL → List SE} (h : LogIs w lb mb n base hdr rows) (hlb : base ≤ lb) (hmb : base ≤ mb) {g i0 i1 i2 i3 : Nat} {v0 v1 v2 v3 : Value} (hg : g < base) : LogIs ((((w.setCell ⟨g, i0, none⟩ v0).setCell ⟨g, i1, none⟩ v1).setCell ⟨g, i2, none⟩ v2).setCell ⟨g, i3, none⟩ v3) lb mb n base hdr rows :=
 (((h.set hlb hmb hg).set hlb hmb hg).set hlb hmb hg).set hlb hmb hg
theorem oneRow_add (e : SE) (a : SL) (m : Nat) (s : Int) : updR (oneRow a (seqE e a m)) a (oneRow a (seqE e a m) a ++ [(⟨((oneRow a (seqE e a m) a).length : Int) + 1, a, e.f2, e.f3, e.f4, e.f5⟩ : SE)]) = oneRow a (seqE e a (m + 1)) := by
 rw [oneRow_at, seqE_length, updR_one]
 exact congrArg _ (seqE_succ e a m)
theorem log_All_len {w : World} {lb mb n base : Nat} {hdr : SL → Value} {rows : SL → List SE} (h : LogIs w lb mb n base hdr rows) {x : SL} (hx : okL x) {l : List SE} (hl : rows x = l) {m : Nat} (hm : l.length = m) (hs : m ≤ 1000000) : Calls Tryd.prog 14 #[.pointer (some ⟨lb, 0, none⟩), lv x] w fun e w' =>
  ∃ A c, e = .returned (.slice A m c) ∧ RE w' w.heap.size (fun _ => True) (.slice A m c) l ∧ Below w.heap.size w w' := by
 subst hl hm
 refine (log_All.calls h hx hs).mono ?_
 rintro e w' ⟨v, rfl, hR, hb⟩
 obtain ⟨A, c, rfl⟩ := Kd.R_slice hR
 exact ⟨A, c, rfl, hR, hb⟩
theorem log_Full_is {w : World} {lb mb n base : Nat} {hdr : SL → Value} {rows : SL → List SE} (h : LogIs w lb mb n base hdr rows) {x : SL} (hx : okL x) {b : Bool} (hb : decide ((40 : Int) ≤ (rows x).length) = b) : Calls Tryd.prog 15 #[.pointer (some ⟨lb, 0, none⟩), lv x] w fun e w' => e = .returned (.bool b) ∧ Below w.heap.size w w' := by
 subst hb
 exact log_Full.calls h hx
theorem oneRow_new {a b : SL} (h : b ≠ a) (e : SE) (l : List SE) : updR (oneRow a l) b (oneRow a l b ++ [(⟨((oneRow a l b).length : Int) + 1, b, e.f2, e.f3, e.f4, e.f5⟩ : SE)]) b = [reE e 1 b] := by
 rw [oneRow_ne h]
 exact if_pos rfl
end Go.Proofs.YtihknjmibnonjaaDoor.X
end

section
/- A log and an entry's box that lies beside it. -/
namespace Go.Proofs.YtihknjmibnonjaaDoor.X
open Go.RowKit Go.Proofs.YtihknjmibnonjaaDoorW.PrintWords Go.Proofs.YtihknjmibnonjaaDoorW.PrintLast Go.Proofs.YtihknjmibnonjaaDoorW.PrintMore Go.Proofs.YtihknjmibnonjaaDoor.More Go.Proofs.YtihknjmibnonjaaDoor.Pure Go.Proofs.YtihknjmibnonjaaDoor.Lib
set_option linter.unusedVariables false
set_option linter.unusedSimpArgs false
/-- A row of entries leads to its own block alone. -/
theorem row_own {w : World} {base : Nat} {ok : Nat → Prop} {v : Value} {xs : List SE} (h : RE w base ok v xs) : RE w base (fun k => v.ownBlock = some k) v xs :=
 ⟨fun k hk => hk, h.2.imp_ (fun _ _ hp => entry_KM (k26.K_of_M hp))⟩
section
variable {w w' : World} {lb mb n base g : Nat} {hdr : SL → Value} {rows : SL → List SE}
theorem LogIs.ne_box (h : LogIs w lb mb n base hdr rows) {cs : Array Value} {fr : Nat × Nat} (hb : w.heap[g]? = some (.cells cs 26 fr)) : g ≠ lb ∧ g ≠ mb := by
 constructor
 ·intro e
  have h1 := h.1
  rw [← e, hb] at h1
  injection h1 with h1
  injection h1 with _ h1
  exact absurd h1 (by decide)
 ·intro e
  obtain ⟨es, c, hm⟩ := h.isMap
  rw [← e, hb] at hm
  cases hm
theorem LogIs.turnA (h : LogIs w lb mb n base hdr rows) (ho : okA hdr g) (h1 : g ≠ lb ∧ g ≠ mb) (hk : ∀ k, k < w.heap.size → k ≠ g → w'.heap[k]? = w.heap[k]?) : LogIs w' lb mb n base hdr rows := by
 refine ⟨(hk lb (Array.getElem?_eq_some_iff.1 h.1).1 (fun e => h1.1 e.symm)).trans h.1, h.2.1.of_block (hk mb h.2.1.lt (fun e => h1.2 e.symm)), fun x hx => ⟨?_, (h.2.2 x hx).2⟩⟩
 have hR := (h.2.2 x hx).1
 exact Kd.R_mono (Kd.R_step (row_own hR) (fun k hk2 hlt => hk k hlt (fun e => ho x hx (e ▸ hk2)))) (fun k hk2 => hR.1 k hk2)
theorem LogIs.setA (h : LogIs w lb mb n base hdr rows) (ho : okA hdr g) {cs : Array Value} {fr : Nat × Nat} (hb : w.heap[g]? = some (.cells cs 26 fr)) (j : Nat) (v : Value) : LogIs (w.setCell ⟨g, j, none⟩ v) lb mb n base hdr rows :=
 h.turnA ho (h.ne_box hb) (fun k _ hne => Below.heap_setCell w ⟨g, j, none⟩ v k hne)
theorem set4_ne {w : World} {g i0 i1 i2 i3 : Nat} {v0 v1 v2 v3 : Value} {k : Nat} (hk : k ≠ g) : ((((w.setCell ⟨g, i0, none⟩ v0).setCell ⟨g, i1, none⟩ v1).setCell ⟨g, i2, none⟩ v2).setCell ⟨g, i3, none⟩ v3).heap[k]? = w.heap[k]? :=
 (Below.heap_setCell _ ⟨g, i3, none⟩ v3 k hk).trans ((Below.heap_setCell _ ⟨g, i2, none⟩ v2 k hk).trans ((Below.heap_setCell _ ⟨g, i1, none⟩ v1 k hk).trans (Below.heap_setCell _ ⟨g, i0, none⟩ v0 k hk)))
theorem LogIs.setA4 (h : LogIs w lb mb n base hdr rows) (ho : okA hdr g) {cs : Array Value} {fr : Nat × Nat} (hb : w.heap[g]? = some (.cells cs 26 fr)) (i0 i1 i2 i3 : Nat) (v0 v1 v2 v3 : Value) : LogIs ((((w.setCell ⟨g, i0, none⟩ v0).setCell ⟨g, i1, none⟩ v1).setCell ⟨g, i2, none⟩ v2).setCell ⟨g, i3, none⟩ v3) lb mb n base hdr rows :=
 h.turnA ho (h.ne_box hb) (fun k _ hne => set4_ne hne)
end
/-- An entry's box. -/
def BoxE (W : World) (g : Nat) (e : SE) : Prop := W.heap[g]? = some (.cells #[.int .i64 e.f0, .int .i64 e.f1.f0, .int .i64 e.f1.f1, .int .i64 e.f1.f2, .int .i64 e.f1.f3, .string e.f2, .int .i64 e.f3, .string e.f4, .int .i64 e.f5] 26 (0, 0))
def BoxL (W : World) (g : Nat) (x : SL) : Prop := W.heap[g]? = some (.cells #[.int .i64 x.f0, .int .i64 x.f1, .int .i64 x.f2, .int .i64 x.f3] 23 (0, 0))
theorem BoxE.putL {W : World} {g : Nat} {e : SE} (h : BoxE W g e) (l : SL) : BoxE ((((W.setCell ⟨g, 1, none⟩ (.int .i64 l.f0)).setCell ⟨g, 2, none⟩ (.int .i64 l.f1)).setCell ⟨g, 3, none⟩ (.int .i64 l.f2)).setCell ⟨g, 4, none⟩ (.int .i64 l.f3)) g (reE e e.f0 l) := X.putL h
theorem BoxE.putS {W : World} {g : Nat} {e : SE} (h : BoxE W g e) (s : Int) : BoxE (W.setCell ⟨g, 0, none⟩ (.int .i64 s)) g (reE e s e.f1) := blk_put h 0 _ rfl
theorem BoxE.below {W W' : World} {g : Nat} {e : SE} (h : BoxE W g e) (hb : Below W.heap.size W W') : BoxE W' g e := blk_below h hb
theorem BoxL.below {W W' : World} {g : Nat} {e : SL} (h : BoxL W g e) (hb : Below W.heap.size W W') : BoxL W' g e := blk_below h hb
theorem BoxL.put {W : World} {g : Nat} {x : SL} (h : BoxL W g x) (l : SL) : BoxL ((((W.setCell ⟨g, 0, none⟩ (.int .i64 l.f0)).setCell ⟨g, 1, none⟩ (.int .i64 l.f1)).setCell ⟨g, 2, none⟩ (.int .i64 l.f2)).setCell ⟨g, 3, none⟩ (.int .i64 l.f3)) g l := puts4 h rfl
/-- What the log's Add leaves, told of a row's length and of its entries' sizes. -/
theorem updR_at (rows : SL → List SE) (x : SL) (l : List SE) : updR rows x l x = l := if_pos rfl
theorem updR_ne (rows : SL → List SE) {x y : SL} (h : y ≠ x) (l : List SE) : updR rows x l y = rows y := if_neg h
theorem updR_len (rows : SL → List SE) (x : SL) (e : SE) (i : Int) (h : ∀ y, ((rows y).length : Int) ≤ i) (y : SL) : ((updR rows x (rows x ++ [e]) y).length : Int) ≤ i + 1 := by
 unfold updR
 split
 ·have := h x
  simp only [List.length_append, List.length_singleton]
  omega
 ·have := h y
  omega
end Go.Proofs.YtihknjmibnonjaaDoor.X
end

section
/- The chain of a hash, in plain numbers. -/
namespace Go.Proofs.YtihknjmibnonjaaDoor.Pure
open Go.RowKit Go.Proofs.YtihknjmibnonjaaDoor.X Go.Proofs.YtihknjmibnonjaaDoorW.PrintWords Go.Proofs.YtihknjmibnonjaaDoorW.PrintLast Go.Proofs.YtihknjmibnonjaaDoor.Lib

theorem chain_l0 (xs : List Int) (hm : xs.length ≤ 9223372036854775807) (d : Nat) : ∀ (k : Nat) (h i : Int), 0 ≤ i → i ≤ xs.length → (xs.length : Int) - i = d → d < k →
  hash_Chain.l0 k h xs (xs.length : Int) i = some (chain h (xs.drop i.toNat)) := by
 induction d with
 | zero =>
  intro k h i h0 h1 hd hk
  obtain ⟨k, rfl⟩ : ∃ m, k = m + 1 := ⟨k - 1, by omega⟩
  simp only [hash_Chain.l0]
  rw [if_neg (by omega), List.drop_of_length_le (by omega)]
  rfl
 | succ d ih =>
  intro k h i h0 h1 hd hk
  obtain ⟨k, rfl⟩ : ∃ m, k = m + 1 := ⟨k - 1, by omega⟩
  have hlt : i < (xs.length : Int) := by omega
  simp only [hash_Chain.l0]
  rw [if_pos hlt, if_pos h0, if_pos hlt, wrap64_id (by omega) (by omega), drop_rd h0 hlt, ih k _ (i + 1) (by omega) (by omega) (by omega) (by omega)]
  rfl
theorem chain_f (xs : List Int) (hm : xs.length ≤ 9223372036854775807) (k : Nat) (hk : xs.length < k) (h : Int) : hash_Chain.f k h xs = some (chain h xs) := by
 unfold hash_Chain.f
 rw [chain_l0 xs hm xs.length k h 0 (by omega) (by omega) (by omega) hk]
 rfl
theorem chain_snoc (h : Int) (xs : List Int) (x : Int) : chain h (xs ++ [x]) = hstep (chain h xs) x := by
 rw [chain_append]
 rfl
end Go.Proofs.YtihknjmibnonjaaDoor.Pure
end

section
/- What a password comes to, in plain numbers: the program's and the document's. -/
namespace Go.Proofs.YtihknjmibnonjaaDoor.Pure
open Go.RowKit Go.Proofs.YtihknjmibnonjaaDoor.X Go.Proofs.YtihknjmibnonjaaDoorW.PrintWords Go.Proofs.YtihknjmibnonjaaDoorW.PrintLast Go.Proofs.YtihknjmibnonjaaDoor.Lib

/-- The first n of a salt's eight bytes, the highest first. -/
def saltB (a : Int) (n : Nat) : List Int := (List.range n).map fun i => a % 18446744073709551616 / 2 ^ (56 - 8 * i) % 256
theorem saltB_succ (a : Int) (n : Nat) : saltB a (n + 1) = saltB a n ++ [a % 18446744073709551616 / 2 ^ (56 - 8 * n) % 256] := by
 unfold saltB
 rw [List.range_succ, List.map_append]
 rfl
theorem saltB_length (a : Int) (n : Nat) : (saltB a n).length = n := by simp [saltB]
/-- What a password comes to. -/
def ofV (a : Int) (s : ByteArray) : Int := chain 14695981039346656037 (saltB a 8 ++ bytesOf s)
theorem shr_u64 (x : Int) (c : Int) (h1 : c ≤ 64) : shr .u64 x c = x / 2 ^ c.toNat := by
 unfold shr
 have : IntKind.u64.bits = 64 := rfl
 rw [this]
 congr 2
 omega
theorem of_l0 (a : Int) (s : ByteArray) (hs : s.size ≤ 140737488355000) (m : Nat) : ∀ (n k : Nat), n + m = 8 → m + 9 + s.size < k → hash_Of.l0 k a s (saltB a n) (n : Int) = some (ofV a s) := by
 induction m with
 | zero =>
  intro n k hn hk
  obtain ⟨k, rfl⟩ : ∃ m, k = m + 1 := ⟨k - 1, by omega⟩
  obtain rfl : n = 8 := by omega
  rw [hash_Of.l0]
  rw [if_neg (by decide), if_pos (by rw [saltB_length]; omega), chain_f _ (by rw [List.length_append, saltB_length, bytesOf_length]; omega) _ (by rw [List.length_append, saltB_length, bytesOf_length]; omega), Option.bind_some]
  rfl
 | succ m ih =>
  intro n k hn hk
  obtain ⟨k, rfl⟩ : ∃ m, k = m + 1 := ⟨k - 1, by omega⟩
  rw [hash_Of.l0]
  rw [if_pos (by omega), wrap64_id (n := 8 * (n : Int)) (by omega) (by omega), wrap64_id (n := 56 - 8 * (n : Int)) (by omega) (by omega), if_pos (by omega), if_pos (by rw [saltB_length]; omega), wrap64_id (n := (n : Int) + 1) (by omega) (by omega), shr_u64 _ _ (by omega), u64_wrap]
  have e : (56 - 8 * (n : Int)).toNat = 56 - 8 * n := by omega
  rw [e, ← saltB_succ]
  exact ih (n + 1) k (by omega) (by omega)
theorem of_f (a : Int) (s : ByteArray) (hs : s.size ≤ 140737488355000) (k : Nat) (hk : 17 + s.size < k) : hash_Of.f k a s = some (ofV a s) := by
 unfold hash_Of.f
 rw [wrap64_id (by omega) (by omega), if_pos (by omega), if_pos (by omega)]
 exact of_l0 a s hs 8 0 k (by omega) (by omega)
theorem ref_chain_l0 (xs : List Int) (hm : xs.length ≤ 9223372036854775807) (d : Nat) : ∀ (k : Nat) (h i : Int), 0 ≤ i → i ≤ xs.length → (xs.length : Int) - i = d → d < k →
  donjonref8_Chain.l0 k h xs i = some (chain h (xs.drop i.toNat)) := by
 induction d with
 | zero =>
  intro k h i h0 h1 hd hk
  obtain ⟨k, rfl⟩ : ∃ m, k = m + 1 := ⟨k - 1, by omega⟩
  rw [donjonref8_Chain.l0, if_neg (by omega), List.drop_of_length_le (by omega)]
  rfl
 | succ d ih =>
  intro k h i h0 h1 hd hk
  obtain ⟨k, rfl⟩ : ∃ m, k = m + 1 := ⟨k - 1, by omega⟩
  have hlt : i < (xs.length : Int) := by omega
  rw [donjonref8_Chain.l0]
  rw [if_pos hlt, if_pos h0, wrap64_id (by omega) (by omega), drop_rd h0 hlt, ih k _ (i + 1) (by omega) (by omega) (by omega) (by omega)]
  rfl
theorem ref_chain_f (xs : List Int) (hm : xs.length ≤ 9223372036854775807) (k : Nat) (hk : xs.length < k) (h : Int) : donjonref8_Chain.f k h xs = some (chain h xs) := by
 unfold donjonref8_Chain.f
 rw [ref_chain_l0 xs hm xs.length k h 0 (by omega) (by omega) (by omega) hk]
 rfl
theorem ref_of_l0 (a : Int) (s : ByteArray) (hs : s.size ≤ 140737488355000) (m : Nat) : ∀ (n k : Nat), n + m = 8 → m + 9 + s.size < k → donjonref8_Of.l0 k a s (saltB a n) (7 - (n : Int)) = some (ofV a s) := by
 induction m with
 | zero =>
  intro n k hn hk
  obtain ⟨k, rfl⟩ : ∃ m, k = m + 1 := ⟨k - 1, by omega⟩
  obtain rfl : n = 8 := by omega
  rw [donjonref8_Of.l0]
  rw [if_neg (by decide), ref_chain_f _ (by rw [saltB_length]; omega) _ (by rw [saltB_length]; omega), Option.bind_some, if_pos (by omega), ref_chain_f _ (by rw [bytesOf_length]; omega) _ (by rw [bytesOf_length]; omega), Option.bind_some]
  unfold ofV
  rw [chain_append]
 | succ m ih =>
  intro n k hn hk
  obtain ⟨k, rfl⟩ : ∃ m, k = m + 1 := ⟨k - 1, by omega⟩
  rw [donjonref8_Of.l0]
  rw [if_pos (by omega), wrap64_id (n := 8 * (7 - (n : Int))) (by omega) (by omega), if_pos (by omega), if_pos (by rw [saltB_length]; omega), wrap64_id (n := 7 - (n : Int) - 1) (by omega) (by omega), shr_u64 _ _ (by omega), u64_wrap]
  have e : (8 * (7 - (n : Int))).toNat = 56 - 8 * n := by omega
  have e2 : 7 - (n : Int) - 1 = 7 - ((n + 1 : Nat) : Int) := by omega
  rw [e, ← saltB_succ, e2]
  exact ih (n + 1) k (by omega) (by omega)
theorem ref_of_f (a : Int) (s : ByteArray) (hs : s.size ≤ 140737488355000) (k : Nat) (hk : 17 + s.size < k) : donjonref8_Of.f k a s = some (ofV a s) := by
 unfold donjonref8_Of.f
 exact ref_of_l0 a s hs 8 0 k (by omega) (by omega)
theorem ofV_range (a : Int) (s : ByteArray) : 0 ≤ ofV a s ∧ ofV a s < 18446744073709551616 := chain_range (by decide) (by decide) _
end Go.Proofs.YtihknjmibnonjaaDoor.Pure
end

section
/- The log's Chain: the hash of a label's entries, each set down as bytes, one behind the other. -/
namespace Go.Proofs.YtihknjmibnonjaaDoor.X
open Go.RowKit Go.Proofs.YtihknjmibnonjaaDoorW.PrintWords Go.Proofs.YtihknjmibnonjaaDoorW.PrintLast Go.Proofs.YtihknjmibnonjaaDoorW.PrintMore Go.Proofs.YtihknjmibnonjaaDoor.More Go.Proofs.YtihknjmibnonjaaDoor.Pure Go.Proofs.YtihknjmibnonjaaDoor.Lib
set_option linter.unusedVariables false
set_option linter.unusedSimpArgs false
set_option maxRecDepth 100000
/-- An entry as bytes. -/
def encE (e : SE) : List Int := numB e.f0 ++ (encLab e.f1.f0 e.f1.f1 e.f1.f2 e.f1.f3 ++ (encStr e.f2 ++ (encB e.f3 ++ (encStr e.f4 ++ encB e.f5))))
theorem encE_length (e : SE) : (encE e).length = e.f2.size + e.f4.size + 16 := by
 simp [encE, encLab, encB, numB, encStr_length]
 omega
def chainE (l : List SE) : Int := l.foldl (fun h e => chain h (encE e)) (ofV 0 ⟨#[]⟩)
theorem chainE_nil : chainE [] = ofV 0 ⟨#[]⟩ := by
 unfold chainE
 exact List.foldl_nil
theorem chainE_add (l : List SE) (e : SE) : chainE (l ++ [e]) = chain (chainE l) (encE e) := by simp [chainE]
theorem take_rd (l : List SE) (k : Nat) (h : k < l.length) : l.take (k + 1) = l.take k ++ [rd_T26 l (k : Int)] := by
 rw [List.take_add_one, List.getElem?_eq_getElem h]
 unfold rd_T26
 rw [List.getD_eq_getElem?_getD, Int.toNat_natCast, List.getElem?_eq_getElem h]
 rfl
theorem rd_mem (l : List SE) (k : Int) (h0 : 0 ≤ k) (h : k < l.length) : rd_T26 l k ∈ l := by
 unfold rd_T26
 rw [List.getD_eq_getElem?_getD, List.getElem?_eq_getElem (by omega)]
 exact List.getElem_mem _
/-- One step of the chain: the entry as bytes, hashed on. -/
theorem encode_run (e : SE) (h : e.f2.size + e.f4.size ≤ 50000000) (w : World) : Calls Tryd.prog 38 #[ev e] w fun r w' => ∃ A c, r = .returned (.slice A (encE e).length c) ∧ (encE e).length ≤ c ∧ Kd.C (Kd.int .u8) w' A (encE e).length (encE e) ∧ Below w.heap.size w w' := by
 refine (node_EncodeEntry.calls e.f0 e.f1.f0 e.f1.f1 e.f1.f2 e.f1.f3 e.f2 e.f3 e.f4 e.f5 (encE e) w (if_pos h)).mono ?_
 rintro r w' ⟨v, rfl, hR, hb⟩
 obtain ⟨A, c, rfl, hc, hC⟩ := Kd.R_reads hR
 exact ⟨A, c, rfl, hc, hC, hb⟩
theorem of_empty : hash_Of.f 100 0 (⟨#[]⟩ : ByteArray) = some (ofV 0 ⟨#[]⟩) := by
 have hs : (⟨#[]⟩ : ByteArray).size = 0 := rfl
 refine of_f 0 (⟨#[]⟩ : ByteArray) ?_ 100 ?_
 ·rw [hs]; omega
 ·rw [hs]; omega
set_option maxHeartbeats 8000000 in
theorem log_Chain.calls {w : World} {lb mb n base : Nat} {hdr : SL → Value} {rows : SL → List SE} (h : LogIs w lb mb n base hdr rows) {x : SL} (hx : okL x) {L : List SE} (hL : rows x = L) (hlen : L.length ≤ 1000000) (hsz : ∀ e ∈ L, e.f2.size + e.f4.size ≤ 50000000) :
  Calls Tryd.prog 19 #[.pointer (some ⟨lb, 0, none⟩), lv x] w fun r w' => r = .returned (.int .u64 (chainE L)) ∧ Below w.heap.size w w' := by
 subst hL
 obtain ⟨A, c, hA⟩ := h.shape hx
 obtain ⟨L, hL⟩ : ∃ L, rows x = L := ⟨_, rfl⟩
 obtain ⟨N, hN⟩ : ∃ N, L.length = N := ⟨_, rfl⟩
 have HC : Aside0 (Kd.C k26 w A N L) := ⟨by have h1 := h.row hx; rw [hA] at h1; have h2 := (Kd.R_reads' h1).2.2; rw [hL, hN] at h2; exact h2⟩
 have HA : Aside0 (hdr x = .slice A N c) := ⟨by rw [hA, hL, hN]⟩
 rw [hL] at hlen hsz ⊢
 have HLN : Aside0 (L.length = N ∧ N ≤ 1000000) := ⟨hN, hN ▸ hlen⟩
 have HSZ := Aside0.mk hsz
 have H := Aside0.mk h
 have HX := Aside0.mk hx
 have HOF : Aside0 (hash_Of.f 100 0 (⟨#[]⟩ : ByteArray) = some (ofV 0 ⟨#[]⟩)) := ⟨of_empty⟩
 have HRES : Aside0 (chainE (L.take 0) = ofV 0 ⟨#[]⟩) := ⟨by rw [List.take_zero]; exact chainE_nil⟩
 clear h hx hA hL hN hlen hsz
 unfold lv
 go_enter Tryd.func19, Tryd.ntmps19
 go_wp2_with fail
 refine (hash_Of.calls 100 0 ⟨#[]⟩ _ _ HOF.out).mono ?_
 rintro e_ w1 ⟨rfl, hb⟩
 rw [← HRES.out]
 have HB1 := Aside0.mk (below_step (below_alloc (Below.refl _ w) _) hb)
 have BX1 := Aside0.mk (blk_below (blk_new w (.cells #[.int .i64 x.f0, .int .i64 x.f1, .int .i64 x.f2, .int .i64 x.f3] 23)) hb)
 clear hb
 have hrun := look_run ((H.out.below (below_drew1 HB1.out)).2.1) HX.out Tryd.underlying56 zeroSl
 rw [HA.out] at hrun
 unfold lv at hrun
 have hc' : w1.drew.cell? ⟨lb, 0, none⟩ = some (.map (some mb)) := (blk_cell (H.out.below (below_drew1 HB1.out)).1 0).trans rfl
 have x0 : w1.drew.cell? ⟨w.heap.size, 0, none⟩ = some (.int .i64 x.f0) := (blk_cell BX1.out 0).trans rfl
 have x1 : w1.drew.cell? ⟨w.heap.size, 1, none⟩ = some (.int .i64 x.f1) := (blk_cell BX1.out 1).trans rfl
 have x2 : w1.drew.cell? ⟨w.heap.size, 2, none⟩ = some (.int .i64 x.f2) := (blk_cell BX1.out 2).trans rfl
 have x3 : w1.drew.cell? ⟨w.heap.size, 3, none⟩ = some (.int .i64 x.f3) := (blk_cell BX1.out 3).trans rfl
 go_wp2
 go_region
 all_goals
  have HBd := Aside0.mk (below_drew1 HB1.out)
  clear hrun hc' x0 x1 x2 x3 BX1
  go_wp2
  go_loopw [5, 16] (fun v5 v16 wr => ∃ (k : Nat) (i : Int), v16 = .int .i64 i ∧ Aside0 ((k : Int) = i) ∧ v5 = .int .u64 (chainE (L.take k)) ∧ Aside0 (k ≤ N) ∧ Aside0 (Below w.heap.size w wr)) (fun _ v16 _ => N - (intOf v16).toNat)
  case atStart => exact ⟨0, 0, rfl, ⟨rfl⟩, rfl, ⟨Nat.zero_le _⟩, HBd⟩
  case round =>
   clear HB1 HBd
   obtain ⟨k, i, rfl, HI, rfl, HK, HB⟩ := hrel
   by_cases hk : i < (N : Int)
   ·have e1 : decide (i < (N : Int)) = true := decide_eq_true hk
    have HKN : Aside0 (k < N) := ⟨by have := HI.out; omega⟩
    have hi := HI.out
    have ek : wrap64 (i + 1) = i + 1 := wrap64_id (by omega) (by have := HLN.out; omega)
    obtain ⟨ad, eA, hx0, hx1, hx2, hx3, hx4, hx5, hx6, hx7, hx8⟩ := at_T26 (Kd.C_below HC.out HB.out) i (by omega) (by omega)
    have HTK : Aside0 (chainE (L.take (k + 1)) = chain (chainE (L.take k)) (encE (rd_T26 L i))) := ⟨by rw [take_rd L k (by rw [HLN.out.1]; exact HKN.out), chainE_add, hi]⟩
    have HSE : Aside0 ((rd_T26 L i).f2.size + (rd_T26 L i).f4.size ≤ 50000000) := ⟨HSZ.out _ (rd_mem L i (by omega) (by rw [HLN.out.1]; omega))⟩
    have p1 := eq_true (show (0 : Int) ≤ i by omega)
    have q1 := eq_true (show i < (N : Int) by omega)
    have p2 : decide ((0 : Int) ≤ i) = true := decide_eq_true (by omega)
    cases eA
    clear hk hi
    generalize rd_T26 L i = y at hx0 hx1 hx2 hx3 hx4 hx5 hx6 hx7 hx8 HTK HSE
    go_wp2_with (refine bigstore_ rfl 26 (.tmp 7) (.tmp 19) rfl wr.heap.size #[.int .i64 y.f0, .int .i64 y.f1.f0, .int .i64 y.f1.f1, .int .i64 y.f1.f2, .int .i64 y.f1.f3, .string y.f2, .int .i64 y.f3, .string y.f4, .int .i64 y.f5] rfl rfl 26 _ (blk_new _ _) (by kernel_rfl) rfl (by kernel_rfl) ?_; intro w2 hv_ hk_ hj_ hB_; have BV := Aside0.mk hv_; have HB2 := Aside0.mk (hB_ _ _ (below_alloc HB.out _) (below_size HB.out)); clear hv_ hk_ hj_ hB_; have z0 : w2.cell? ⟨wr.heap.size, 0, none⟩ = some (.int .i64 y.f0) := (blk_cell BV.out 0).trans rfl; have z1 : w2.cell? ⟨wr.heap.size, 1, none⟩ = some (.int .i64 y.f1.f0) := (blk_cell BV.out 1).trans rfl; have z2 : w2.cell? ⟨wr.heap.size, 2, none⟩ = some (.int .i64 y.f1.f1) := (blk_cell BV.out 2).trans rfl; have z3 : w2.cell? ⟨wr.heap.size, 3, none⟩ = some (.int .i64 y.f1.f2) := (blk_cell BV.out 3).trans rfl; have z4 : w2.cell? ⟨wr.heap.size, 4, none⟩ = some (.int .i64 y.f1.f3) := (blk_cell BV.out 4).trans rfl; have z5 : w2.cell? ⟨wr.heap.size, 5, none⟩ = some (.string y.f2) := (blk_cell BV.out 5).trans rfl; have z6 : w2.cell? ⟨wr.heap.size, 6, none⟩ = some (.int .i64 y.f3) := (blk_cell BV.out 6).trans rfl; have z7 : w2.cell? ⟨wr.heap.size, 7, none⟩ = some (.string y.f4) := (blk_cell BV.out 7).trans rfl; have z8 : w2.cell? ⟨wr.heap.size, 8, none⟩ = some (.int .i64 y.f5) := (blk_cell BV.out 8).trans rfl)
    refine (encode_run y HSE.out _).mono ?_
    rintro e_ w3 ⟨A3, c3, rfl, hc3, hC3, hb⟩
    have HB3 := Aside0.mk (below_step HB2.out hb)
    have HC3 := Aside0.mk hC3
    have HCC := Aside0.mk hc3
    have HEL := Aside0.mk (encE_length y)
    clear hb hC3 hc3 HB HB2 BV hx0 hx1 hx2 hx3 hx4 hx5 hx6 hx7 hx8 z0 z1 z2 z3 z4 z5 z6 z7 z8
    go_wp2_with fail
    refine (hash_Chain.calls ((encE y).length + 1) (chainE (L.take k)) A3 c3 (encE y) _ _ HC3.out HCC.out (chain_f (encE y) (by have := HEL.out; have := HSE.out; omega) _ (Nat.lt_succ_self _) _)).mono ?_
    rintro e_ w4 ⟨rfl, hd⟩
    rw [← HTK.out]
    have HB4 := Aside0.mk (below_step HB3.out hd.below)
    clear hd
    go_wp2
    go_roundw
    case rel => exact ⟨k + 1, i + 1, by rw [ek], ⟨by have := HI.out; omega⟩, rfl, ⟨HKN.out⟩, HB4⟩
    case measure =>
     rw [ek]
     have := HKN.out
     have := HI.out
     simp only [intOf]
     omega
   ·have e1 : decide (i < (N : Int)) = false := decide_eq_false hk
    have HE : Aside0 (chainE (L.take k) = chainE L) := ⟨by rw [List.take_of_length_le (by have := HLN.out; have := HI.out; omega)]⟩
    clear hk
    go_wp2
    go_ret
    exact ⟨by rw [HE.out]; rfl, HB.out⟩
end Go.Proofs.YtihknjmibnonjaaDoor.X
end

section
/- The document's bytes of an entry are the program's. -/
namespace Go.Proofs.YtihknjmibnonjaaDoor.Pure
open Go.RowKit Go.Proofs.YtihknjmibnonjaaDoor.X Go.Proofs.YtihknjmibnonjaaDoorW.PrintWords Go.Proofs.YtihknjmibnonjaaDoorW.PrintLast Go.Proofs.YtihknjmibnonjaaDoor.Lib
theorem ref_text (l : List Int) (s : ByteArray) (hl : l.length ≤ 1000000) (hs : s.size ≤ 255) : donjonref10_text.f l s = some (l ++ X.encStr s) := by
 unfold donjonref10_text.f X.encStr
 rw [if_pos (by omega), Option.bind_some, if_pos (by rw [List.length_append, List.length_singleton]; omega), List.append_assoc]
 rfl
theorem ref_lab (l : List Int) (a b c d : Int) (hl : l.length ≤ 1000000) : donjonref10_lab.f l a b c d = some (l ++ encLab a b c d) := by
 unfold donjonref10_lab.f encLab
 rw [Option.bind_some, if_pos (by simp; omega)]
theorem ref_num (l : List Int) (n : Int) (hl : l.length ≤ 1000000) (k : Nat) : donjonref10_num.f (k + 9) l n = some (l ++ numB n) := by
 have w : ∀ i : Int, 0 ≤ i → i ≤ 8 → wrap64 (8 * i) = 8 * i ∧ wrap64 (i - 1) = i - 1 := fun i h0 h1 => ⟨wrap64_id (by omega) (by omega), wrap64_id (by omega) (by omega)⟩
 unfold donjonref10_num.f
 have hs : ∀ (i : Nat), i ≤ 63 → shr .u64 (IntKind.u64.wrap n) (i : Int) = n % 18446744073709551616 / 2 ^ i := by
  intro i hi
  unfold shr
  rw [u64_wrap, Int.toNat_natCast, Nat.min_eq_left (by show i ≤ 64; omega)]
 rw [donjonref10_num.l0, if_pos (by omega), (w 7 (by omega) (by omega)).1, if_pos (by omega), if_pos (by omega), (w 7 (by omega) (by omega)).2]
 rw [show (7 - 1 : Int) = 6 by omega, donjonref10_num.l0, if_pos (by omega), (w 6 (by omega) (by omega)).1, if_pos (by omega), if_pos (by simp; omega), (w 6 (by omega) (by omega)).2]
 rw [show (6 - 1 : Int) = 5 by omega, donjonref10_num.l0, if_pos (by omega), (w 5 (by omega) (by omega)).1, if_pos (by omega), if_pos (by simp; omega), (w 5 (by omega) (by omega)).2]
 rw [show (5 - 1 : Int) = 4 by omega, donjonref10_num.l0, if_pos (by omega), (w 4 (by omega) (by omega)).1, if_pos (by omega), if_pos (by simp; omega), (w 4 (by omega) (by omega)).2]
 rw [show (4 - 1 : Int) = 3 by omega, donjonref10_num.l0, if_pos (by omega), (w 3 (by omega) (by omega)).1, if_pos (by omega), if_pos (by simp; omega), (w 3 (by omega) (by omega)).2]
 rw [show (3 - 1 : Int) = 2 by omega, donjonref10_num.l0, if_pos (by omega), (w 2 (by omega) (by omega)).1, if_pos (by omega), if_pos (by simp; omega), (w 2 (by omega) (by omega)).2]
 rw [show (2 - 1 : Int) = 1 by omega, donjonref10_num.l0, if_pos (by omega), (w 1 (by omega) (by omega)).1, if_pos (by omega), if_pos (by simp; omega), (w 1 (by omega) (by omega)).2]
 rw [show (1 - 1 : Int) = 0 by omega, donjonref10_num.l0, if_pos (by omega), (w 0 (by omega) (by omega)).1, if_pos (by omega), if_pos (by simp; omega), (w 0 (by omega) (by omega)).2]
 rw [donjonref10_num.l0, if_neg (by omega)]
 have p7 : shr .u64 (IntKind.u64.wrap n) (8 * 7) % 256 = n / 72057594037927936 % 256 := by rw [show (8 * 7 : Int) = ((56 : Nat) : Int) by omega, hs 56 (by omega)]; omega
 have p6 : shr .u64 (IntKind.u64.wrap n) (8 * 6) % 256 = n / 281474976710656 % 256 := by rw [show (8 * 6 : Int) = ((48 : Nat) : Int) by omega, hs 48 (by omega)]; omega
 have p5 : shr .u64 (IntKind.u64.wrap n) (8 * 5) % 256 = n / 1099511627776 % 256 := by rw [show (8 * 5 : Int) = ((40 : Nat) : Int) by omega, hs 40 (by omega)]; omega
 have p4 : shr .u64 (IntKind.u64.wrap n) (8 * 4) % 256 = n / 4294967296 % 256 := by rw [show (8 * 4 : Int) = ((32 : Nat) : Int) by omega, hs 32 (by omega)]; omega
 have p3 : shr .u64 (IntKind.u64.wrap n) (8 * 3) % 256 = n / 16777216 % 256 := by rw [show (8 * 3 : Int) = ((24 : Nat) : Int) by omega, hs 24 (by omega)]; omega
 have p2 : shr .u64 (IntKind.u64.wrap n) (8 * 2) % 256 = n / 65536 % 256 := by rw [show (8 * 2 : Int) = ((16 : Nat) : Int) by omega, hs 16 (by omega)]; omega
 have p1 : shr .u64 (IntKind.u64.wrap n) (8 * 1) % 256 = n / 256 % 256 := by rw [show (8 * 1 : Int) = ((8 : Nat) : Int) by omega, hs 8 (by omega)]; omega
 have p0 : shr .u64 (IntKind.u64.wrap n) (8 * 0) % 256 = n % 256 := by rw [show (8 * 0 : Int) = ((0 : Nat) : Int) by omega, hs 0 (by omega)]; omega
 rw [p7, p6, p5, p4, p3, p2, p1, p0]
 unfold numB
 simp
theorem enc10 (e : SE) (h2 : e.f2.size ≤ 255) (h4 : e.f4.size ≤ 255) : donjonref10_EncodeEntry.f 19 e.f0 e.f1.f0 e.f1.f1 e.f1.f2 e.f1.f3 e.f2 e.f3 e.f4 e.f5 = some (encE e) := by
 have l4 := encStr_length e.f2
 have l5 := encStr_length e.f4
 unfold donjonref10_EncodeEntry.f
 rw [ref_num [] e.f0 (by simp) 10, Option.bind_some, ref_lab _ _ _ _ _ (by simp [numB]), Option.bind_some, ref_text _ _ (by simp [numB, encLab]) (by omega), Option.bind_some, Option.bind_some, if_pos (by simp [numB, encLab, l4]; omega), ref_text _ _ (by simp [numB, encLab, l4]; omega) (by omega), Option.bind_some, Option.bind_some, if_pos (by simp [numB, encLab, l4, l5]; omega)]
 simp [encB, encE]
theorem enc10_run (e : SE) (h2 : e.f2.size ≤ 255) (h4 : e.f4.size ≤ 255) (w : World) : Calls Tryd.prog 18 #[ev e] w fun r w' => ∃ A c, r = .returned (.slice A (encE e).length c) ∧ (encE e).length ≤ c ∧ Kd.C (Kd.int .u8) w' A (encE e).length (encE e) ∧ Below w.heap.size w w' := by
 refine (donjonref10_EncodeEntry.calls 19 e.f0 e.f1.f0 e.f1.f1 e.f1.f2 e.f1.f3 e.f2 e.f3 e.f4 e.f5 (encE e) w (enc10 e h2 h4)).mono ?_
 rintro r w' ⟨v, rfl, hR, hb⟩
 obtain ⟨A, c, rfl, hc, hC⟩ := Kd.R_reads hR
 exact ⟨A, c, rfl, hc, hC, hb⟩
theorem ref_empty : donjonref8_Of.f 100 0 (⟨#[]⟩ : ByteArray) = some (ofV 0 ⟨#[]⟩) := by
 have hs : (⟨#[]⟩ : ByteArray).size = 0 := rfl
 refine ref_of_f 0 (⟨#[]⟩ : ByteArray) ?_ 100 ?_
 ·rw [hs]; omega
 ·rw [hs]; omega
end Go.Proofs.YtihknjmibnonjaaDoor.Pure
end

section
/- label.Less, in whatever world: nothing that was there turns, and draws only grow. -/
namespace Go.Proofs.YtihknjmibnonjaaDoor.X
open Go.RowKit Go.Proofs.YtihknjmibnonjaaDoorW.PrintWords Go.Proofs.YtihknjmibnonjaaDoorW.PrintLast Go.Proofs.YtihknjmibnonjaaDoorW.PrintMore Go.Proofs.YtihknjmibnonjaaDoor.More
set_option linter.unusedVariables false
set_option linter.unusedSimpArgs false
/-- Nothing that was there has turned, and draws have only grown. -/
def BelD (w W : World) : Prop := Below w.heap.size w W ∧ w.drawn ≤ W.drawn
theorem BelD.refl (w : World) : BelD w w := ⟨Below.refl _ _, Nat.le_refl _⟩
theorem beld_alloc {w W : World} (h : BelD w W) (o : Obj) : BelD w (W.alloc o) := ⟨below_alloc h.1 o, h.2⟩
theorem beld_drew1 {w W : World} (h : BelD w W) : BelD w W.drew := ⟨below_drew1 h.1, Nat.le_trans h.2 (Nat.le_succ _)⟩
theorem beld_drewN {w W : World} (h : BelD w W) (n : Nat) : BelD w (W.drewN n) := ⟨pw_below_drewN h.1 n, Nat.le_trans h.2 (Nat.le_add_right _ _)⟩
theorem drawn_set (W : World) (a : Addr) (v : Value) : (W.setCell a v).drawn = W.drawn := by
 unfold World.setCell
 split <;> rfl
theorem beld_set {w W : World} {g j : Nat} {v : Value} (h : BelD w W) (hg : w.heap.size ≤ g) : BelD w (W.setCell ⟨g, j, none⟩ v) := ⟨below_set h.1 hg, by rw [drawn_set]; exact h.2⟩
theorem beld_then {w w1 w2 : World} (h : BelD w w1) (hB : w.heap.size ≤ w1.heap.size) (k : BelD w1 w2) : BelD w w2 := ⟨below_then h.1 hB k.1, Nat.le_trans h.2 k.2⟩
open Go.Sort in
theorem BelD.grows {w W : World} (h : BelD w W) : ∃ q os', W = grow (w.drewN q) os' := by
 obtain ⟨hb, hd⟩ := h
 refine ⟨W.drawn - w.drawn, W.heap.extract w.heap.size W.heap.size, ?_⟩
 have e : W.heap = w.heap ++ W.heap.extract w.heap.size W.heap.size := by
  have hs := hb.size
  apply Array.ext
  ·simp; omega
  ·intro i h1 h2
   rcases Nat.lt_or_ge i w.heap.size with hi | hi
   ·have := hb.block i hi
    rw [Array.getElem?_eq_getElem h1, Array.getElem?_eq_getElem hi] at this
    rw [Array.getElem_append_left hi]
    exact Option.some.inj this
   ·rw [Array.getElem_append_right hi, Array.getElem_extract]
    congr 1
    omega
 have h1 := hb.os
 have h2 := hb.tape
 have h3 := hb.output
 rcases W with ⟨a, b, c, d, f⟩
 show _ = (⟨_, _, _, _, _⟩ : World)
 dsimp only at e h1 h2 h3 hd ⊢
 rw [World.mk.injEq]
 exact ⟨e, h2, by show c = w.drawn + (c - w.drawn); omega, h1, h3⟩
set_option maxRecDepth 100000 in
theorem numbersD (a b c d : Int) (w : World) : Calls Tryd.prog 63 #[.agg #[.int .i64 a, .int .i64 b, .int .i64 c, .int .i64 d]] w fun e w' => e = .returned (.agg #[.int .i64 a, .int .i64 b, .int .i64 c, .int .i64 d]) ∧ BelD w w' := by
 go_enter Tryd.func63, Tryd.ntmps63
 go_wp2
 refine bodyPost_ret (results_cell_row rfl _ _ (w.heap.size + 1) 86 #[.int .i64 a, .int .i64 b, .int .i64 c, .int .i64 d] (0, 0) _ rfl (heap_alloc2_new w _ _) Tryd.underlying86 rfl (by kernel_rfl)) rfl ?_
 exact ⟨rfl, by repeat (first | exact BelD.refl _ | refine beld_alloc ?_ _ | refine beld_drew1 ?_)⟩
/-- Does a label stand ahead of another one? From the k-th number on. -/
def lessK (a b c d a' b' c' d' : Int) : Nat → Bool
 | 0 => if a ≠ a' then decide (a < a') else if b ≠ b' then decide (b < b') else if c ≠ c' then decide (c < c') else if d ≠ d' then decide (d < d') else false
 | 1 => if b ≠ b' then decide (b < b') else if c ≠ c' then decide (c < c') else if d ≠ d' then decide (d < d') else false
 | 2 => if c ≠ c' then decide (c < c') else if d ≠ d' then decide (d < d') else false
 | 3 => if d ≠ d' then decide (d < d') else false
 | _ => false
def less_.f (a0_0 : Int) (a0_1 : Int) (a0_2 : Int) (a0_3 : Int) (a1_0 : Int) (a1_1 : Int) (a1_2 : Int) (a1_3 : Int) : Option Bool := some (lessK a0_0 a0_1 a0_2 a0_3 a1_0 a1_1 a1_2 a1_3 0)
def lessHeld (a b c d a' b' c' d' : Int) (w0 : World) (s5 s6 : Value) (wx : World) : Prop := ∃ g h : Nat, s5 = .pointer (some ⟨g, 0, none⟩) ∧ s6 = .pointer (some ⟨h, 0, none⟩) ∧
 wx.cell? ⟨g, 0, none⟩ = some (.int .i64 a) ∧ wx.cell? ⟨g, 1, none⟩ = some (.int .i64 b) ∧ wx.cell? ⟨g, 2, none⟩ = some (.int .i64 c) ∧ wx.cell? ⟨g, 3, none⟩ = some (.int .i64 d) ∧ wx.cell? ⟨h, 0, none⟩ = some (.int .i64 a') ∧ wx.cell? ⟨h, 1, none⟩ = some (.int .i64 b') ∧ wx.cell? ⟨h, 2, none⟩ = some (.int .i64 c') ∧ wx.cell? ⟨h, 3, none⟩ = some (.int .i64 d') ∧ BelD w0 wx
def lessAt (a b c d a' b' c' d' : Int) (r : Bool) (w0 : World) (g h k : Nat) (wx : World) : Prop := lessK a b c d a' b' c' d' k = r ∧ wx.cell? ⟨g, 0, none⟩ = some (.int .i64 a) ∧ wx.cell? ⟨g, 1, none⟩ = some (.int .i64 b) ∧ wx.cell? ⟨g, 2, none⟩ = some (.int .i64 c) ∧ wx.cell? ⟨g, 3, none⟩ = some (.int .i64 d) ∧ wx.cell? ⟨h, 0, none⟩ = some (.int .i64 a') ∧ wx.cell? ⟨h, 1, none⟩ = some (.int .i64 b') ∧ wx.cell? ⟨h, 2, none⟩ = some (.int .i64 c') ∧ wx.cell? ⟨h, 3, none⟩ = some (.int .i64 d') ∧ BelD w0 wx
theorem old_cells' {W w1 : World} (hb : BelD W w1) : (∀ b o, b < W.heap.size → w1.cell? ⟨b, o, none⟩ = W.cell? ⟨b, o, none⟩) ∧ (∀ b o, b < W.heap.size → w1.frozen? ⟨b, o, none⟩ = W.frozen? ⟨b, o, none⟩) :=
 ⟨fun b o h => hb.1.cell (p := ⟨b, o, none⟩) h, fun b o h => hb.1.frozen (p := ⟨b, o, none⟩) h⟩
attribute [local go_sem ↓] Go.wp_at_zero Go.wp_at_succ
set_option maxRecDepth 100000 in
set_option maxHeartbeats 8000000 in
theorem less_.calls (a0_0 : Int) (a0_1 : Int) (a0_2 : Int) (a0_3 : Int) (a1_0 : Int) (a1_1 : Int) (a1_2 : Int) (a1_3 : Int) (r : Bool) (w : World) (h : less_.f a0_0 a0_1 a0_2 a0_3 a1_0 a1_1 a1_2 a1_3 = some r) :
  Calls Tryd.prog 42 #[.agg #[.int .i64 a0_0, .int .i64 a0_1, .int .i64 a0_2, .int .i64 a0_3], .agg #[.int .i64 a1_0, .int .i64 a1_1, .int .i64 a1_2, .int .i64 a1_3]] w fun e w' => e = .returned (.bool r) ∧ BelD w w' := by
 have hr := Option.some.inj h
 have HR := Aside0.mk hr
 clear h hr
 go_enter Tryd.func42, Tryd.ntmps42
 go_upto_region 1 with fail
 go_cut [5, 6] (fun s5 s6 wx => lessHeld a0_0 a0_1 a0_2 a0_3 a1_0 a1_1 a1_2 a1_3 w s5 s6 wx)
 case first =>
  go_region_with (first | (go_at_call_of 63 (Value.agg #[Value.int IntKind.i64 a0_0, Value.int IntKind.i64 a0_1, Value.int IntKind.i64 a0_2, Value.int IntKind.i64 a0_3]); refine (numbersD a0_0 a0_1 a0_2 a0_3 _).mono ?_; rintro e w1 ⟨rfl, hb1⟩; obtain ⟨hc1, hf1⟩ := old_cells' hb1; have hz1 := hb1.1.size; (try simp at hz1); have HB1 : BelD w w1 := beld_then (by with_reducible repeat (first | exact BelD.refl _ | exact BelD.refl _ | apply beld_alloc | apply beld_drew1)) (by first | omega | (simp; done) | (simp; omega)) hb1; (try (have z10 : w.heap.size < w1.heap.size := by omega)); (try (have z11 : w.heap.size + 1 < w1.heap.size := by omega)); (try (have z12 : w.heap.size + 1 + 1 < w1.heap.size := by omega)); (try (have z13 : w.heap.size + 1 + 1 + 1 < w1.heap.size := by omega))) | (go_at_call_of 63 (Value.agg #[Value.int IntKind.i64 a1_0, Value.int IntKind.i64 a1_1, Value.int IntKind.i64 a1_2, Value.int IntKind.i64 a1_3]); refine (numbersD a1_0 a1_1 a1_2 a1_3 _).mono ?_; rintro e w2 ⟨rfl, hb2⟩; obtain ⟨hc2, hf2⟩ := old_cells' hb2; have hz2 := hb2.1.size; (try simp at hz2); have HB2 : BelD w w2 := beld_then (by with_reducible repeat (first | exact HB1 | exact BelD.refl _ | apply beld_alloc | apply beld_drew1)) (by first | omega | (simp; done) | (simp; omega)) hb2; (try (have z20 : w.heap.size < w2.heap.size := by omega)); (try (have z21 : w.heap.size + 1 < w2.heap.size := by omega)); (try (have z22 : w.heap.size + 1 + 1 < w2.heap.size := by omega)); (try (have z23 : w.heap.size + 1 + 1 + 1 < w2.heap.size := by omega)); (try (have z24 : w1.heap.size < w2.heap.size := by omega)); (try (have z25 : w1.heap.size + 1 < w2.heap.size := by omega))))
  all_goals (go_wp2_with fail; go_meet; refine ⟨_, _, rfl, rfl, ?_, ?_, ?_, ?_, ?_, ?_, ?_, ?_, ?_⟩ <;> first | (with_reducible (repeat (first | exact HB2 | refine beld_alloc ?_ _ | refine beld_set ?_ (by omega))); done) | (go_simp; done) | (go_simp; exact World.cell?_setCell_same _ _ _ (by go_simp; rfl)) | (go_simp; exact World.cell?_setCell_same _ _ (.int .i64 0) (by go_simp)))
 case rest =>
  obtain ⟨g, h, rfl, rfl, hx0, hx1, hx2, hx3, hy0, hy1, hy2, hy3, hbx⟩ := hcut
  have HB := Aside0.mk hbx
  clear hbx
  go_wp2
  go_loopw [12] (fun i wr => ∃ k : Nat, k ≤ 4 ∧ i = .int .i64 k ∧ lessAt a0_0 a0_1 a0_2 a0_3 a1_0 a1_1 a1_2 a1_3 r w g h k wr) (fun i _ => 4 - (intOf i).toNat)
  case atStart => exact ⟨0, Nat.zero_le _, rfl, HR.out, hx0, hx1, hx2, hx3, hy0, hy1, hy2, hy3, HB.out⟩
  case round =>
   clear hx0 hx1 hx2 hx3 hy0 hy1 hy2 hy3 HB HR
   obtain ⟨k, hk, rfl, hrk, hx0, hx1, hx2, hx3, hy0, hy1, hy2, hy3, hbx⟩ := hrel
   have HB := Aside0.mk hbx
   clear hbx
   rcases (show k = 0 ∨ k = 1 ∨ k = 2 ∨ k = 3 ∨ k = 4 from by omega) with rfl | rfl | rfl | rfl | rfl
   ·by_cases e : a0_0 = a1_0
    ·have e1 : (a0_0 == a1_0) = true := by rw [e]; exact beq_self_eq_true _
     have e2 : (a0_0 != a1_0) = false := by rw [bne, e1]; rfl
     have HRK : Aside0 (lessK a0_0 a0_1 a0_2 a0_3 a1_0 a1_1 a1_2 a1_3 1 = r) := ⟨by rw [← hrk]; simp [lessK, e]⟩
     clear e hrk
     go_wp2
     go_quiet (fail)
     go_wp2
     go_roundw
     case rel => exact ⟨1, by omega, by first | rfl | go_num, HRK.out, by simpa using hx0, by simpa using hx1, by simpa using hx2, by simpa using hx3, by simpa using hy0, by simpa using hy1, by simpa using hy2, by simpa using hy3, beld_drewN HB.out _⟩
     case measure => simp [intOf]
    ·have e1 : (a0_0 == a1_0) = false := beq_eq_false_iff_ne.2 e
     have e2 : (a0_0 != a1_0) = true := by rw [bne, e1]; rfl
     have HRK : Aside0 (decide (a0_0 < a1_0) = r) := ⟨by rw [← hrk]; simp [lessK, e]⟩
     clear e hrk
     go_wp2
     go_quiet (fail)
     go_wp2
     go_quiet (fail)
     go_wp2
     go_ret
     exact ⟨by rw [← HRK.out]; rfl, beld_drewN (beld_drewN HB.out _) _⟩
   ·by_cases e : a0_1 = a1_1
    ·have e1 : (a0_1 == a1_1) = true := by rw [e]; exact beq_self_eq_true _
     have e2 : (a0_1 != a1_1) = false := by rw [bne, e1]; rfl
     have HRK : Aside0 (lessK a0_0 a0_1 a0_2 a0_3 a1_0 a1_1 a1_2 a1_3 2 = r) := ⟨by rw [← hrk]; simp [lessK, e]⟩
     clear e hrk
     go_wp2
     go_quiet (fail)
     go_wp2
     go_roundw
     case rel => exact ⟨2, by omega, by first | rfl | go_num, HRK.out, by simpa using hx0, by simpa using hx1, by simpa using hx2, by simpa using hx3, by simpa using hy0, by simpa using hy1, by simpa using hy2, by simpa using hy3, beld_drewN HB.out _⟩
     case measure => simp [intOf]
    ·have e1 : (a0_1 == a1_1) = false := beq_eq_false_iff_ne.2 e
     have e2 : (a0_1 != a1_1) = true := by rw [bne, e1]; rfl
     have HRK : Aside0 (decide (a0_1 < a1_1) = r) := ⟨by rw [← hrk]; simp [lessK, e]⟩
     clear e hrk
     go_wp2
     go_quiet (fail)
     go_wp2
     go_quiet (fail)
     go_wp2
     go_ret
     exact ⟨by rw [← HRK.out]; rfl, beld_drewN (beld_drewN HB.out _) _⟩
   ·by_cases e : a0_2 = a1_2
    ·have e1 : (a0_2 == a1_2) = true := by rw [e]; exact beq_self_eq_true _
     have e2 : (a0_2 != a1_2) = false := by rw [bne, e1]; rfl
     have HRK : Aside0 (lessK a0_0 a0_1 a0_2 a0_3 a1_0 a1_1 a1_2 a1_3 3 = r) := ⟨by rw [← hrk]; simp [lessK, e]⟩
     clear e hrk
     go_wp2
     go_quiet (fail)
     go_wp2
     go_roundw
     case rel => exact ⟨3, by omega, by first | rfl | go_num, HRK.out, by simpa using hx0, by simpa using hx1, by simpa using hx2, by simpa using hx3, by simpa using hy0, by simpa using hy1, by simpa using hy2, by simpa using hy3, beld_drewN HB.out _⟩
     case measure => simp [intOf]
    ·have e1 : (a0_2 == a1_2) = false := beq_eq_false_iff_ne.2 e
     have e2 : (a0_2 != a1_2) = true := by rw [bne, e1]; rfl
     have HRK : Aside0 (decide (a0_2 < a1_2) = r) := ⟨by rw [← hrk]; simp [lessK, e]⟩
     clear e hrk
     go_wp2
     go_quiet (fail)
     go_wp2
     go_quiet (fail)
     go_wp2
     go_ret
     exact ⟨by rw [← HRK.out]; rfl, beld_drewN (beld_drewN HB.out _) _⟩
   ·by_cases e : a0_3 = a1_3
    ·have e1 : (a0_3 == a1_3) = true := by rw [e]; exact beq_self_eq_true _
     have e2 : (a0_3 != a1_3) = false := by rw [bne, e1]; rfl
     have HRK : Aside0 (lessK a0_0 a0_1 a0_2 a0_3 a1_0 a1_1 a1_2 a1_3 4 = r) := ⟨by rw [← hrk]; simp [lessK, e]⟩
     clear e hrk
     go_wp2
     go_quiet (fail)
     go_wp2
     go_roundw
     case rel => exact ⟨4, by omega, by first | rfl | go_num, HRK.out, by simpa using hx0, by simpa using hx1, by simpa using hx2, by simpa using hx3, by simpa using hy0, by simpa using hy1, by simpa using hy2, by simpa using hy3, beld_drewN HB.out _⟩
     case measure => simp [intOf]
    ·have e1 : (a0_3 == a1_3) = false := beq_eq_false_iff_ne.2 e
     have e2 : (a0_3 != a1_3) = true := by rw [bne, e1]; rfl
     have HRK : Aside0 (decide (a0_3 < a1_3) = r) := ⟨by rw [← hrk]; simp [lessK, e]⟩
     clear e hrk
     go_wp2
     go_quiet (fail)
     go_wp2
     go_quiet (fail)
     go_wp2
     go_ret
     exact ⟨by rw [← HRK.out]; rfl, beld_drewN (beld_drewN HB.out _) _⟩
   ·have HRK : Aside0 (false = r) := ⟨by rw [← hrk]; rfl⟩
    clear hrk
    go_wp2
    go_ret
    exact ⟨by rw [← HRK.out]; rfl, HB.out⟩
end Go.Proofs.YtihknjmibnonjaaDoor.X
end

section
/- slices.SortFunc at labels, under label.Less: the row holds core's mergeSort. -/
namespace Go.Proofs.YtihknjmibnonjaaDoor.X
open Go.RowKit Go.Proofs.YtihknjmibnonjaaDoorW.PrintWords Go.Proofs.YtihknjmibnonjaaDoorW.PrintLast Go.Proofs.YtihknjmibnonjaaDoorW.PrintMore Go.Proofs.YtihknjmibnonjaaDoor.More
set_option linter.unusedVariables false
set_option linter.unusedSimpArgs false
def sort_ren : Go.Shelf.Ren := ⟨fun | 6 => 40 | 14 => 61 | 15 => 62 | 20 => 74 | 21 => 75 | 22 => 76 | 23 => 77 | 24 => 78 | 25 => 79 | 26 => 80 | 27 => 81 | 28 => 82 | 29 => 83 | 46 => 87 | 47 => 88 | 48 => 89 | 49 => 90 | 50 => 91 | 57 => 98 | n => n, fun | 0 => 0 | 3 => 3 | 4 => 4 | 5 => 5 | 9 => 9 | 22 => 49 | 24 => 23 | 25 => 65 | 39 => 85 | 45 => 101 | 46 => 102 | 50 => 106 | 53 => 109 | 55 => 38 | 66 => 113 | 70 => 117 | 76 => 126 | 77 => 127 | n => n, fun n => n⟩
theorem sort_lays : SlLaysF0.n6 Tryd.prog sort_ren where
 mixed := by kernel_rfl
 f6 := ⟨"slices.SortFunc[[]donjon/api.Label,donjon/api.Label]", by decide, by kernel_rfl⟩
 f14 := ⟨"slices.pdqsortCmpFunc[donjon/api.Label]", by decide, by kernel_rfl⟩
 f15 := Tryd.func62
 f20 := ⟨"slices.insertionSortCmpFunc[donjon/api.Label]", by decide, by kernel_rfl⟩
 f21 := ⟨"slices.heapSortCmpFunc[donjon/api.Label]", by decide, by kernel_rfl⟩
 f22 := ⟨"slices.breakPatternsCmpFunc[donjon/api.Label]", by decide, by kernel_rfl⟩
 f23 := ⟨"slices.choosePivotCmpFunc[donjon/api.Label]", by decide, by kernel_rfl⟩
 f24 := ⟨"slices.reverseRangeCmpFunc[donjon/api.Label]", by decide, by kernel_rfl⟩
 f25 := ⟨"slices.partialInsertionSortCmpFunc[donjon/api.Label]", by decide, by kernel_rfl⟩
 f26 := ⟨"slices.partitionEqualCmpFunc[donjon/api.Label]", by decide, by kernel_rfl⟩
 f27 := ⟨"slices.partitionCmpFunc[donjon/api.Label]", by decide, by kernel_rfl⟩
 f28 := Tryd.func82
 f29 := Tryd.func83
 f46 := ⟨"slices.siftDownCmpFunc[donjon/api.Label]", by decide, by kernel_rfl⟩
 f47 := Tryd.func88
 f48 := Tryd.func89
 f49 := ⟨"slices.medianAdjacentCmpFunc[donjon/api.Label]", by decide, by kernel_rfl⟩
 f50 := ⟨"slices.medianCmpFunc[donjon/api.Label]", by decide, by kernel_rfl⟩
 f57 := ⟨"slices.order2CmpFunc[donjon/api.Label]", by decide, by kernel_rfl⟩
 t0 := Tryd.underlying0
 a0 := Tryd.isAgg0
 z0 := Tryd.sizeOf0
 v0 := Tryd.zeroValue0
 t3 := Tryd.underlying3
 a3 := Tryd.isAgg3
 z3 := Tryd.sizeOf3
 v3 := Tryd.zeroValue3
 t4 := Tryd.underlying4
 a4 := Tryd.isAgg4
 z4 := Tryd.sizeOf4
 v4 := Tryd.zeroValue4
 t5 := Tryd.underlying5
 a5 := Tryd.isAgg5
 z5 := Tryd.sizeOf5
 v5 := Tryd.zeroValue5
 t9 := Tryd.underlying9
 a9 := Tryd.isAgg9
 z9 := Tryd.sizeOf9
 v9 := Tryd.zeroValue9
 t22 := Tryd.underlying49
 a22 := Tryd.isAgg49
 z22 := Tryd.sizeOf49
 v22 := Tryd.zeroValue49
 t25 := Tryd.underlying65
 a25 := Tryd.isAgg65
 z25 := Tryd.sizeOf65
 v25 := Tryd.zeroValue65
 t39 := Tryd.underlying85
 a39 := Tryd.isAgg85
 z39 := Tryd.sizeOf85
 v39 := Tryd.zeroValue85
 t45 := Tryd.underlying101
 a45 := Tryd.isAgg101
 z45 := Tryd.sizeOf101
 v45 := Tryd.zeroValue101
 t46 := Tryd.underlying102
 a46 := Tryd.isAgg102
 z46 := Tryd.sizeOf102
 v46 := Tryd.zeroValue102
 t50 := Tryd.underlying106
 a50 := Tryd.isAgg106
 z50 := Tryd.sizeOf106
 v50 := Tryd.zeroValue106
 t53 := Tryd.underlying109
 a53 := Tryd.isAgg109
 z53 := Tryd.sizeOf109
 v53 := Tryd.zeroValue109
 t55 := Tryd.underlying38
 a55 := Tryd.isAgg38
 z55 := Tryd.sizeOf38
 v55 := Tryd.zeroValue38
 t66 := Tryd.underlying113
 a66 := Tryd.isAgg113
 z66 := Tryd.sizeOf113
 v66 := Tryd.zeroValue113
 t70 := Tryd.underlying117
 a70 := Tryd.isAgg117
 z70 := Tryd.sizeOf117
 v70 := Tryd.zeroValue117
 t76 := Tryd.underlying126
 a76 := Tryd.isAgg126
 z76 := Tryd.sizeOf126
 v76 := Tryd.zeroValue126
 t77 := Tryd.underlying127
 a77 := Tryd.isAgg127
 z77 := Tryd.sizeOf127
 v77 := Tryd.zeroValue127
instance inhL : Inhabited SL := ⟨⟨0, 0, 0, 0⟩⟩
def lessS (x y : SL) : Bool := lessK x.f0 x.f1 x.f2 x.f3 y.f0 y.f1 y.f2 y.f3 0
theorem lessS_iff (x y : SL) : lessS x y = true ↔ (x.f0 < y.f0 ∨ (x.f0 = y.f0 ∧ (x.f1 < y.f1 ∨ (x.f1 = y.f1 ∧ (x.f2 < y.f2 ∨ (x.f2 = y.f2 ∧ x.f3 < y.f3)))))) := by
 obtain ⟨a, b, c, d⟩ := x
 obtain ⟨a', b', c', d'⟩ := y
 unfold lessS lessK
 dsimp only
 by_cases h1 : a = a' <;> by_cases h2 : b = b' <;> by_cases h3 : c = c' <;> by_cases h4 : d = d' <;> simp [h1, h2, h3, h4]
def cmpS (x y : SL) : Int := if lessS x y = true then -1 else if lessS y x = true then 1 else 0
open Go.Sort in
theorem ltS (x y : SL) : ltOf cmpS x y = lessS x y := by
 unfold ltOf cmpS
 by_cases h1 : lessS x y = true
 ·simp [h1]
 ·by_cases h2 : lessS y x = true <;> simp [h1, h2]
theorem lessS_irrefl (x : SL) : lessS x x = false := by
 refine Bool.eq_false_iff.2 fun h => ?_
 rw [lessS_iff] at h
 omega
theorem lessS_trans {x y z : SL} (h1 : lessS x y = true) (h2 : lessS y z = true) : lessS x z = true := by
 rw [lessS_iff] at *
 omega
theorem lessS_ntrans {x y z : SL} (h1 : lessS x y = false) (h2 : lessS y z = false) : lessS x z = false := by
 refine Bool.eq_false_iff.2 fun h => ?_
 rw [Bool.eq_false_iff, ne_eq, lessS_iff] at h1 h2
 rw [lessS_iff] at h
 omega
theorem lessS_tot {x y : SL} (h1 : lessS x y = false) (h2 : lessS y x = false) : x = y := by
 rw [Bool.eq_false_iff, ne_eq, lessS_iff] at h1 h2
 obtain ⟨a, b, c, d⟩ := x
 obtain ⟨a', b', c', d'⟩ := y
 dsimp only at h1 h2
 obtain rfl : a = a' := by omega
 obtain rfl : b = b' := by omega
 obtain rfl : c = c' := by omega
 obtain rfl : d = d' := by omega
 rfl
open Go.Sort in
theorem swoS : SWO (ltOf cmpS) where
 irrefl x := by
  rw [ltS]
  exact lessS_irrefl x
 trans x y z h1 h2 := by
  rw [ltS] at *
  exact lessS_trans h1 h2
 ntrans x y z h1 h2 := by
  rw [ltS] at *
  exact lessS_ntrans h1 h2
/-- A label's four cells. -/
def encS (x : SL) : List Value := [.int .i64 x.f0, .int .i64 x.f1, .int .i64 x.f2, .int .i64 x.f3]
set_option maxHeartbeats 4000000 in
set_option maxRecDepth 100000 in
/-- The closure that compares. -/
theorem cmp_calls (x y : SL) (W : World) : Calls Tryd.prog 41 #[lv x, lv y] W fun e w' => e = .returned (.int .i64 (cmpS x y)) ∧ BelD W w' := by
 obtain ⟨a, b, c, d⟩ := x
 obtain ⟨a', b', c', d'⟩ := y
 obtain ⟨r, hr⟩ : ∃ r, lessS ⟨a, b, c, d⟩ ⟨a', b', c', d'⟩ = r := ⟨_, rfl⟩
 obtain ⟨q, hq⟩ : ∃ q, lessS ⟨a', b', c', d'⟩ ⟨a, b, c, d⟩ = q := ⟨_, rfl⟩
 have h1 := fun W => less_.calls a b c d a' b' c' d' r W (congrArg some hr)
 have h2 := fun W => less_.calls a' b' c' d' a b c d q W (congrArg some hq)
 have he : cmpS ⟨a, b, c, d⟩ ⟨a', b', c', d'⟩ = if r = true then -1 else if q = true then 1 else 0 := by
  unfold cmpS
  rw [hr, hq]
 rw [he]
 clear he hr hq
 unfold lv
 dsimp only
 go_enter Tryd.func41, Tryd.ntmps41
 cases r
 ·go_wp2_with fail
  refine (h1 _).mono ?_
  clear h1
  rintro e w1 ⟨rfl, hb1⟩
  obtain ⟨hc1, hf1⟩ := old_cells' hb1
  have hz1 := hb1.1.size
  (try simp at hz1)
  have HB1 : Aside0 (BelD W w1) := ⟨beld_then (beld_alloc (beld_alloc (BelD.refl W) _) _) (by simp; omega) hb1⟩
  clear hb1
  have z10 : W.heap.size < w1.heap.size := by omega
  have z11 : W.heap.size + 1 < w1.heap.size := by omega
  cases q
  ·go_wp2_with fail
   refine (h2 _).mono ?_
   clear h2
   rintro e w2 ⟨rfl, hb2⟩
   have HB2 : Aside0 (BelD W w2) := ⟨beld_then HB1.out (by omega) hb2⟩
   clear hb2 hc1 hf1
   go_wp2
   go_ret
   exact ⟨rfl, HB2.out⟩
  ·go_wp2_with fail
   refine (h2 _).mono ?_
   clear h2
   rintro e w2 ⟨rfl, hb2⟩
   have HB2 : Aside0 (BelD W w2) := ⟨beld_then HB1.out (by omega) hb2⟩
   clear hb2 hc1 hf1
   go_wp2
   go_ret
   exact ⟨rfl, HB2.out⟩
 ·go_wp2_with fail
  refine (h1 _).mono ?_
  clear h1
  rintro e w1 ⟨rfl, hb1⟩
  obtain ⟨hc1, hf1⟩ := old_cells' hb1
  have hz1 := hb1.1.size
  (try simp at hz1)
  have HB1 : Aside0 (BelD W w1) := ⟨beld_then (beld_alloc (beld_alloc (BelD.refl W) _) _) (by simp; omega) hb1⟩
  clear hb1
  have z10 : W.heap.size < w1.heap.size := by omega
  have z11 : W.heap.size + 1 < w1.heap.size := by omega
  go_wp2
  go_ret
  exact ⟨rfl, HB1.out⟩
/-! ### The sort of a row of labels -/
theorem encS_len (x : SL) : (encS x).length = 4 := rfl
theorem encS_one (x : SL) : ∀ v ∈ encS x, v.oneCell' = true := by
 intro v hv
 simp only [encS, List.mem_cons, List.not_mem_nil, or_false] at hv
 rcases hv with rfl | rfl | rfl | rfl <;> rfl
theorem flat_length (l : List SL) : (l.flatMap encS).length = l.length * 4 := by
 induction l with
 | nil => rfl
 | cons a r ih => rw [List.flatMap_cons, List.length_append, ih, encS_len, List.length_cons]; omega
theorem flat_block : ∀ (l : List SL) (j : Nat) (x : SL), l[j]? = some x → ((l.flatMap encS).drop (j * 4)).take 4 = encS x
 | [], _, _, h => by simp at h
 | a :: r, 0, x, h => by
  simp only [List.getElem?_cons_zero, Option.some.injEq] at h
  subst h
  rw [List.flatMap_cons, Nat.zero_mul, List.drop_zero, List.take_append_of_le_length (by rw [encS_len]; omega)]
  rfl
 | a :: r, j + 1, x, h => by
  rw [List.getElem?_cons_succ] at h
  rw [List.flatMap_cons, List.drop_append, show (encS a).drop ((j + 1) * 4) = [] from List.drop_eq_nil_of_le (by rw [encS_len]; omega), List.nil_append, encS_len, show (j + 1) * 4 - 4 = j * 4 by omega]
  exact flat_block r j x h
theorem flat_cell (l : List SL) (t : Nat) (h : t < l.length * 4) : (l.flatMap encS)[t]? = some ((encS l.toArray[t / 4]!)[t % 4]!) := by
 have hd : t / 4 < l.length := by omega
 have hb := flat_block l (t / 4) l[t / 4] (List.getElem?_eq_getElem hd)
 have h1 : (((l.flatMap encS).drop (t / 4 * 4)).take 4)[t % 4]? = (l.flatMap encS)[t]? := by
  rw [List.getElem?_take_of_lt (Nat.mod_lt _ (by omega)), List.getElem?_drop]
  congr 1
  omega
 rw [← h1, hb]
 have h2 : l.toArray[t / 4]! = l[t / 4] := by
  rw [getElem!_pos _ _ (by simpa using hd)]
  simp
 rw [h2]
 have h3 : t % 4 < (encS l[t / 4]).length := by rw [encS_len]; exact Nat.mod_lt _ (by omega)
 rw [List.getElem?_eq_getElem h3, getElem!_pos (encS l[t / 4]) (t % 4) h3]
theorem inner_flat {w : World} {base : Nat} {ok : Nat → Prop} {l : List SL} {cs : List Value} (h : Reps (k23.M w base ok) 4 l cs) : cs = l.flatMap encS := by
 refine List.ext_getElem? fun t => ?_
 by_cases ht : t < l.length * 4
 ·have hd : t / 4 < l.length := by omega
  have hb := h.2 (t / 4) _ (List.getElem?_eq_getElem hd)
  have hc := k23_openM hb
  have h1 : ∀ ys : List Value, ((ys.drop (t / 4 * 4)).take 4)[t % 4]? = ys[t]? := fun ys => by
   rw [List.getElem?_take_of_lt (Nat.mod_lt _ (by omega)), List.getElem?_drop]
   congr 1
   omega
  rw [← h1 cs, ← h1 (l.flatMap encS), flat_block l (t / 4) _ (List.getElem?_eq_getElem hd), hc]
  rfl
 ·rw [List.getElem?_eq_none (by rw [h.1]; omega), List.getElem?_eq_none (by rw [flat_length]; omega)]
theorem flat_reps (w : World) (base : Nat) (ok : Nat → Prop) (l : List SL) : Reps (k23.M w base ok) 4 l (l.flatMap encS) := ⟨flat_length l, fun j x hj => by rw [flat_block l j x hj]; exact k23_mkM w base ok x⟩
/-- Labels in their order. -/
def sortS (l : List SL) : List SL := l.mergeSort fun x y => !lessS y x
theorem sortS_length (l : List SL) : (sortS l).length = l.length := List.length_mergeSort l
open Go.Sort Go.Shelf in
theorem sort_labels (W : World) (base : Nat) (ok : Nat → Prop) (v : Value) (l : List SL) (h : Kd.R k23 23 W base ok v l) (hl : l.length < 4611686018427387904) :
  Calls Tryd.prog 40 #[v, .func (.func 41) #[] #[]] W fun e w' => e = .returned (.tuple #[]) ∧ Kd.R k23 23 w' base ok v (sortS l) ∧ W.grownBy w' v.ownBlock := by
 obtain ⟨h0, inner, hown, hr⟩ := h
 obtain rfl := inner_flat hr
 rcases hown.2 with ⟨rfl, hn⟩ | ⟨g, cap, cur, rfl, hbase, hb, h1, h2, h3, h4⟩
 ·obtain rfl : l = [] := List.eq_nil_of_length_eq_zero hn
  refine (AnyF.slices_SortFunc_none sort_lays none 0 _ W).mono ?_
  rintro e w' ⟨rfl, rfl⟩
  exact ⟨rfl, ⟨h0, [], by simpa [sortS] using hown, by simpa [sortS] using Reps.none _ _⟩, World.grownBy.refl _ _⟩
 ·have hg : g < W.heap.size := (Array.getElem?_eq_some_iff.1 hb).1
  have hH : HoldsK encS 4 W g 0 l.toArray := by
   intro j hj
   rw [size_flatK] at hj
   have hj' : j < l.length * 4 := by simpa using hj
   refine ⟨?_, by simp [World.frozen?, hb]⟩
   have h5 : (cur.toList.take (l.length * 4))[j]? = (l.flatMap encS)[j]? := congrArg (fun z : List Value => z[j]?) h4
   rw [List.getElem?_take_of_lt hj', flat_cell l j hj'] at h5
   rw [get_flatK _ _ _ _ hj]
   simp only [World.cell?, hb, Nat.zero_add]
   simp only [Option.isSome_none, Bool.false_eq_true, if_false]
   rw [← Array.getElem?_toList, h5]
   rfl
  have hcmp : CmpLays Tryd.prog 41 #[] encS 4 cmpS g 0 l.toArray.size W := fun m os dk _ x y => (cmp_calls x y _).mono fun e w' ⟨he, hb⟩ => ⟨he, by
   obtain ⟨q, os', hq⟩ := hb.grows
   exact ⟨q, os', hq⟩⟩
  refine (AnyQ.slices_SortFunc_total sort_lays 4 (fun w => by kernel_rfl) (fun w => by kernel_rfl) encS encS_len encS_one cmpS swoS 41 #[] g 0 cap l.toArray W (fun args w => by kernel_rfl) hcmp hH hg (by simpa using hl) (fun x y a b => lessS_tot (by rwa [ltS] at a) (by rwa [ltS] at b))).mono ?_
  rintro e w' ⟨rfl, m, os, rfl⟩
  have hlen : (sortS l).length = l.length := sortS_length l
  have hcur : cur.size = cap * 4 := h3
  have hflat : flatK encS 4 (sortS l).toArray = ((sortS l).flatMap encS).toArray := by
   apply Array.ext_getElem?
   intro t
   by_cases ht : t < (sortS l).length * 4
   ·have h6 : t < (flatK encS 4 (sortS l).toArray).size := by rw [size_flatK]; simpa using ht
    have h7 := get_flatK encS 4 (sortS l).toArray t (by simpa using ht)
    rw [getElem!_pos _ t h6] at h7
    rw [Array.getElem?_eq_getElem h6, h7, List.getElem?_toArray, flat_cell _ t ht]
   ·rw [Array.getElem?_eq_none (by rw [size_flatK]; simpa using ht), List.getElem?_toArray, List.getElem?_eq_none (by rw [flat_length]; omega)]
  have hfl : (flatK encS 4 (sortS l).toArray).size = l.length * 4 := by rw [size_flatK]; simp [hlen]
  have hblk : (sortWorldK encS 4 W g 0 m (l.toArray.toList.mergeSort fun x y => !(ltOf cmpS) y x).toArray os).heap[g]? = some (.cells (putCells id 0 (flatK encS 4 (sortS l).toArray) cur) 23 (0, 0)) := by
   rw [show (l.toArray.toList.mergeSort fun x y => !(ltOf cmpS) y x) = sortS l by simp [sortS, ltS]]
   unfold sortWorldK putRowK
   rw [heap_grow_old _ _ (by simpa using hg)]
   simp [putRow, mapBlock, Sort.ahead, Array.getElem?_modify, hb, onCells]
  refine ⟨rfl, ⟨h0, (sortS l).flatMap encS, ?_, flat_reps _ _ _ _⟩, ?_⟩
  ·rw [hlen]
   refine ⟨by rw [flat_length, hlen]; rfl, .inr ⟨g, cap, _, rfl, hbase, hblk, h1, h2, by simp [putCells, hcur]; rfl, ?_⟩⟩
   show (putCells id 0 (flatK encS 4 (sortS l).toArray) cur).toList.take (l.length * 4) = _
   apply List.ext_getElem?
   intro t
   by_cases ht : t < l.length * 4
   ·rw [List.getElem?_take_of_lt ht, Array.getElem?_toList]
    have htc : t < cur.size := by rw [hcur]; have := Nat.mul_le_mul_right 4 h1; omega
    have h8 : (flatK encS 4 (sortS l).toArray)[t]? = ((sortS l).flatMap encS)[t]? := by rw [hflat, List.getElem?_toArray]
    have h9 : t < (flatK encS 4 (sortS l).toArray).size := by rw [hfl]; exact ht
    rw [← h8, Array.getElem?_eq_getElem h9]
    have h10 : t < (sortS l).length * 4 := by rw [hlen]; exact ht
    have h11 := getElem!_pos (flatK encS 4 (sortS l).toArray) t h9
    simp [putCells, htc, h10, h11]
   ·rw [List.getElem?_take_eq_none (by omega), List.getElem?_eq_none (by rw [flat_length, hlen]; omega)]
  ·refine ⟨rfl, rfl, rfl, by simp [sortWorldK, putRowK, putRow, mapBlock, Sort.ahead, grow], fun k hk hne => ?_⟩
   unfold sortWorldK putRowK
   rw [heap_grow_old _ _ (by simpa [putRow, mapBlock, Sort.ahead] using hk)]
   have hgk : g ≠ k := fun e => hne (by rw [← e]; rfl)
   simp [putRow, mapBlock, Sort.ahead, Array.getElem?_modify, hgk]
end Go.Proofs.YtihknjmibnonjaaDoor.X
end

section
/- The log's Seen: the entries of whatever labels one is over, label by label in their order. -/
namespace Go.Proofs.YtihknjmibnonjaaDoor.X
open Go.RowKit Go.Proofs.YtihknjmibnonjaaDoorW.PrintWords Go.Proofs.YtihknjmibnonjaaDoorW.PrintLast Go.Proofs.YtihknjmibnonjaaDoorW.PrintMore Go.Proofs.YtihknjmibnonjaaDoor.More Go.Proofs.YtihknjmibnonjaaDoor.Pure Go.Proofs.YtihknjmibnonjaaDoor.Lib
set_option linter.unusedVariables false
set_option linter.unusedSimpArgs false
set_option maxRecDepth 100000
theorem grown_nil {w w' : World} (h : w.grownBy w' none) : Below w.heap.size w w' := ⟨h.os, h.tape, h.output, h.size, fun i hi => h.block i hi (by simp)⟩
theorem MapAt.beside {W w1 : World} {b r n cnt : Nat} {z : Value} {f : SL → Value} {left : SL → Bool} (h : MapAt W b r n z f left cnt) {α : Type} {d : Kd α} {e base : Nat} {ok : Nat → Prop} {v : Value} {xs : List α} (hR : Kd.R d e W base ok v xs) (hg : W.grownBy w1 v.ownBlock) : MapAt w1 b r n z f left cnt := by
 refine h.kept hg (fun hk => ?_) (fun hk => ?_)
 ·obtain ⟨cells, hc⟩ := Kd.R_typed hR b hk.symm
  obtain ⟨es, c, hm⟩ := h.is.isMap
  rw [hc] at hm
  cases hm
 ·obtain ⟨cells, hc⟩ := Kd.R_typed hR r hk.symm
  obtain ⟨o, s, c, d, hm⟩ := h.isIter
  rw [hc] at hm
  cases hm
theorem infoLab : (Tryd.prog.info? 23).map (fun i => (i.zero, i.size, i.bytes)) = some (some (.agg #[(.int .i64 0), (.int .i64 0), (.int .i64 0), (.int .i64 0)]), 4, 32) := by kernel_rfl
/-- Is the one label over the other? -/
def overS (x y : SL) : Bool := mx x.f0 y.f0 == x.f0 && (Go.bits .or .i64 x.f1 y.f1 == x.f1 && (mn x.f2 y.f2 == x.f2 && (Go.bits .and .i64 x.f3 y.f3 == x.f3)))
theorem over_S (x y : SL) : label_Over.f x.f0 x.f1 x.f2 x.f3 y.f0 y.f1 y.f2 y.f3 = some (overS x y) := rfl
theorem takeL_rd (l : List SL) (k : Nat) (h : k < l.length) : l.take (k + 1) = l.take k ++ [rd_T23 l (k : Int)] := by
 rw [List.take_add_one, List.getElem?_eq_getElem h]
 unfold rd_T23
 rw [List.getD_eq_getElem?_getD, Int.toNat_natCast, List.getElem?_eq_getElem h]
 rfl
theorem rdL_mem (l : List SL) (k : Int) (h0 : 0 ≤ k) (h : k < l.length) : rd_T23 l k ∈ l := by
 unfold rd_T23
 rw [List.getD_eq_getElem?_getD, List.getElem?_eq_getElem (by omega)]
 exact List.getElem_mem _
/-- What a row of labels must be so that its rows are what one may see. -/
def Seen (rows : SL → List SE) (a : SL) (ats : List SL) : Prop := (∀ y ∈ ats, okL y ∧ overS a y = true) ∧ ats.Nodup ∧ ∀ y, okL y → overS a y = true → rows y ≠ [] → y ∈ ats
theorem sortS_perm2 (l : List SL) : (sortS l).Perm l := List.mergeSort_perm _ _
theorem flat_len (rows : SL → List SE) : ∀ (l : List SL), (∀ y ∈ l, (rows y).length ≤ 1000) → ∀ k, l.length ≤ k → (l.flatMap rows).length ≤ 1000 * k
 | [], _, k, _ => by simp
 | y :: l, h, k, hk => by
  rw [List.flatMap_cons, List.length_append]
  have h1 := h y List.mem_cons_self
  simp only [List.length_cons] at hk
  have h2 := flat_len rows l (fun z hz => h z (List.mem_cons_of_mem _ hz)) (k - 1) (by omega)
  omega
def log_Seen.T12 : Bool × List (List Nat × List Nat) := (true, [([], []), ([], []), ([1], [1]), ([2], [2]), ([3], [3]), ([], []), ([4, 5], [4, 5]), ([0, 6], [0, 6]), ([7, 7, 0, 1, 2, 3, 4, 5, 6, 7], [0, 7])])
def log_Seen.B12 : List Nat := [0, 0, 2, 6, 14, 0, 62, 127, 255]
theorem log_Seen.tab12 : rtab .any (opsOf Tryd.f20 12) = log_Seen.T12 := by kernel_rfl
theorem log_Seen.bits12 : waitsOk log_Seen.T12.2 log_Seen.B12 = true := by kernel_rfl
set_option maxHeartbeats 8000000 in
theorem log_Seen.calls {w : World} {lb mb n base : Nat} {hdr : SL → Value} {rows : SL → List SE} (h : LogIs w lb mb n base hdr rows) {a : SL} (ha : okL a) (hn : n ≤ 100000) (hrow : ∀ y, okL y → (rows y).length ≤ 1000) :
  Calls Tryd.prog 20 #[.pointer (some ⟨lb, 0, none⟩), lv a] w fun e w' => ∃ (v : Value) (ats : List SL), e = .returned v ∧ Seen rows a ats ∧ RE w' w.heap.size (fun _ => True) v ((sortS ats).flatMap rows) ∧ Below w.heap.size w w' := by
 have HL := Aside0.mk h
 have HA := Aside0.mk ha
 have HN := Aside0.mk hn
 have HROW := Aside0.mk hrow
 have HMB : Aside0 (MapIs (w.alloc (.cells #[.int .i64 a.f0, .int .i64 a.f1, .int .i64 a.f2, .int .i64 a.f3] 23)) mb n (.slice none 0 0) hdr) := ⟨h.2.1.below (below_alloc (Below.refl _ _) _)⟩
 have hc : (w.alloc (.cells #[.int .i64 a.f0, .int .i64 a.f1, .int .i64 a.f2, .int .i64 a.f3] 23)).cell? ⟨lb, 0, none⟩ = some (.map (some mb)) := (blk_cell (h.below (below_alloc (Below.refl _ _) _)).1 0).trans rfl
 clear h ha hn hrow
 unfold lv
 go_enter Tryd.func20, Tryd.ntmps20
 go_wp2_with (first | (at_range; refine range_lab _ rfl _ 56 34 rfl Tryd.underlying56 mb n _ rfl HMB.out ?_; intro w0 left0 cnt0 hat0 hle0 hz0 hg0 hs0) | go_in)
 go_frame
 have hsz : (w.alloc (.cells #[.int .i64 a.f0, .int .i64 a.f1, .int .i64 a.f2, .int .i64 a.f3] 23)).heap.size = w.heap.size + 1 := by simp
 rw [hsz] at hat0
 have BX0 : Aside0 (BoxL w0 w.heap.size a) := ⟨BoxL.below (W := w.alloc (.cells #[.int .i64 a.f0, .int .i64 a.f1, .int .i64 a.f2, .int .i64 a.f3] 23)) (blk_new w _) (grown_nil hg0)⟩
 have HB0 := Aside0.mk (below_step (below_alloc (Below.refl _ w) _) (grown_nil hg0))
 simp only [hsz]
 clear hsz
 go_loopw [5] (fun v wr => ∃ (left : SL → Bool) (cnt : Nat) (out : List SL), MapAt wr mb (w.heap.size + 1) n (.slice none 0 0) hdr left cnt ∧ Aside0 (Kd.R k23 23 wr w.heap.size (fun k => k ≠ w.heap.size) v out) ∧
  Aside0 ((∀ y ∈ out, okL y ∧ overS a y = true ∧ left y = false) ∧ out.Nodup ∧ ∀ y, okL y → left y = false → overS a y = true → rows y ≠ [] → y ∈ out) ∧ Aside0 (cnt ≤ n ∧ out.length ≤ n - cnt) ∧ Aside0 (BoxL wr w.heap.size a) ∧ Aside0 (Below w.heap.size w wr)) (fun _ wr => wr.rangeLeft mb (w.heap.size + 1))
 case atStart =>
  refine ⟨left0, cnt0, [], hat0, ⟨Kd.R_nil _ _ _ _ _⟩, ⟨by simp, List.nodup_nil, fun y hy hl _ hr => absurd ?_ hr⟩, ⟨hle0, by simp⟩, BX0, HB0⟩
  have h5 := hz0 y hy hl
  obtain ⟨A, c, e⟩ := HL.out.shape hy
  rw [e] at h5
  injection h5 with _ h5 _
  exact List.eq_nil_of_length_eq_zero h5
 case round =>
  obtain ⟨left, cnt, out, hat, HR, HOK, HCN, BX, HB⟩ := hrel
  clear BX0 HB0 hat0 hle0 hz0 hg0 hs0 hc HMB
  go_wp2_with (first | (at_next; refine next_lab _ rfl _ rfl mb (w.heap.size + 1) n _ left cnt rfl hat ?_ ?_) | go_in)
  ·intro hl0
   have HSEEN : Aside0 (Seen rows a out) := ⟨fun y hy => ⟨(HOK.out.1 y hy).1, (HOK.out.1 y hy).2.1⟩, HOK.out.2.1, fun y hy h1 h2 => HOK.out.2.2 y hy (hl0 y hy) h1 h2⟩
   have HOL : Aside0 (out.length ≤ 100000) := ⟨by have := HCN.out; have := HN.out; omega⟩
   clear hat hl0 HOK HCN BX
   go_wp2_with fail
   refine (sort_labels _ _ _ u5 out HR.out (by have := HOL.out; omega)).mono ?_
   rintro e w2 ⟨rfl, hR2, hg2⟩
   obtain ⟨ats, hats⟩ : ∃ ats, sortS out = ats := ⟨_, rfl⟩
   rw [hats] at hR2
   obtain ⟨Aa, ca, ev5⟩ := Kd.R_slice hR2
   obtain ⟨Q, hQ⟩ : ∃ Q, ats.length = Q := ⟨_, rfl⟩
   have HATS := Aside0.mk hats
   have HQ : Aside0 (ats.length = Q ∧ Q ≤ 100000) := ⟨hQ, by rw [← hQ, ← hats, sortS_length]; exact HOL.out⟩
   have HB2 := Aside0.mk (pw_below_grown HB.out _ (below_size HB.out) hg2 (Kd.R_base HR.out))
   subst ev5
   rw [hQ] at hR2
   have HCA : Aside0 (Kd.C k23 w2 Aa Q ats) := ⟨by have h1 := (Kd.R_reads' hR2).2.2; rwa [hQ] at h1⟩
   have HQS : Aside0 ((Value.slice Aa ats.length ca) = .slice Aa Q ca) := ⟨by rw [hQ]⟩
   simp only [hQ]
   clear hg2 hR2 HR HB hats hQ HOL
   go_wp2
   go_loopw [7, 30] (fun v7 v30 wr => ∃ (k : Nat) (j : Int) (acc : List SE), v30 = .int .i64 j ∧ Aside0 ((k : Int) = j) ∧ Aside0 (RE wr w2.heap.size (fun _ => True) v7 acc) ∧ Aside0 (k ≤ Q) ∧ Aside0 ((ats.take k).flatMap rows = acc) ∧ Aside0 (Below w2.heap.size w2 wr)) (fun _ v30 _ => Q - (intOf v30).toNat)
   case atStart => exact ⟨0, 0, [], rfl, ⟨rfl⟩, ⟨Kd.R_nil _ _ _ _ _⟩, ⟨Nat.zero_le _⟩, ⟨rfl⟩, ⟨Below.refl _ _⟩⟩
   case round =>
    obtain ⟨k, j, acc, rfl, HJ, HR, HK, HACC, HBB⟩ := hrel
    by_cases hj : j < (Q : Int)
    ·have e1 : decide (j < (Q : Int)) = true := decide_eq_true hj
     have HKN : Aside0 (k < Q) := ⟨by have := HJ.out; omega⟩
     have hj0 := HJ.out
     have ek : wrap64 (j + 1) = j + 1 := wrap64_id (by omega) (by have := HQ.out; omega)
     obtain ⟨ad, eA, hx0, hx1, hx2, hx3⟩ := at_T23 (Kd.C_below HCA.out HBB.out) j (by omega) (by omega)
     have HTK0 : ats.take (k + 1) = ats.take k ++ [rd_T23 ats j] := by rw [takeL_rd ats k (by rw [HQ.out.1]; exact HKN.out), hj0]
     have HOY : Aside0 (okL (rd_T23 ats j)) := ⟨(HSEEN.out.1 _ ((sortS_perm2 out).mem_iff.1 (by rw [HATS.out]; exact rdL_mem ats j (by omega) (by rw [HQ.out.1]; omega)))).1⟩
     have HTK : Aside0 ((ats.take (k + 1)).flatMap rows = (ats.take k).flatMap rows ++ rows (rd_T23 ats j)) := ⟨by rw [HTK0, List.flatMap_append]; simp⟩
     have HAL : Aside0 (acc.length ≤ 1000 * k) := ⟨by rw [← HACC.out]; exact flat_len _ _ (fun y hy => HROW.out y (HSEEN.out.1 _ ((sortS_perm2 out).mem_iff.1 (by rw [HATS.out]; exact List.mem_of_mem_take hy))).1) k (List.length_take_le _ _)⟩
     have p1 := eq_true (show (0 : Int) ≤ j by omega)
     have q1 := eq_true (show j < (Q : Int) by omega)
     have p2 : decide ((0 : Int) ≤ j) = true := decide_eq_true (by omega)
     cases eA
     clear hj hj0 HTK0
     generalize rd_T23 ats j = y at hx0 hx1 hx2 hx3 HTK HOY
     obtain ⟨A, c, hA⟩ := HL.out.shape HOY.out
     obtain ⟨M, hM⟩ : ∃ M, (rows y).length = M := ⟨_, rfl⟩
     have HRY : Aside0 (Kd.C k26 w A M (rows y)) := ⟨by have h1 := HL.out.row HOY.out; rw [hA] at h1; have h2 := (Kd.R_reads' h1).2.2; rwa [hM] at h2⟩
     have HLK : Aside0 (∀ W, Below w.heap.size w W → (Instr.lookup 56 (.map (some mb)) (.agg #[.int .i64 y.f0, .int .i64 y.f1, .int .i64 y.f2, .int .i64 y.f3]) false).run Tryd.prog W = .ok (.slice A M c) W) := ⟨fun W hb => by
      have h1 := look_run (h := (HL.out.below hb).2.1) HOY.out Tryd.underlying56 zeroSl
      rw [hA, hM] at h1
      exact h1⟩
     have HLEN : Aside0 (acc.length + (rows y).length ≤ 200000000 ∧ (rows y).length = M) := ⟨by have h1 := HROW.out y HOY.out; have h2 := HQ.out; have h3 := HKN.out; have h4 := HAL.out; omega, hM⟩
     clear hA hM HAL
     go_upto_region 12 with fail
     have HBd := Aside0.mk (below_drew1 (below_alloc (below_step HB2.out HBB.out) (.cells #[.int .i64 y.f0, .int .i64 y.f1, .int .i64 y.f2, .int .i64 y.f3] 23)))
     have HB2d := Aside0.mk (below_drew1 (below_alloc HBB.out (.cells #[.int .i64 y.f0, .int .i64 y.f1, .int .i64 y.f2, .int .i64 y.f3] 23)))
     have BKd := Aside0.mk (blk_drew (blk_new wr (.cells #[.int .i64 y.f0, .int .i64 y.f1, .int .i64 y.f2, .int .i64 y.f3] 23)))
     have HRd := Aside0.mk (Kd.R_drew (Kd.R_alloc HR.out (.cells #[.int .i64 y.f0, .int .i64 y.f1, .int .i64 y.f2, .int .i64 y.f3] 23)))
     clear hx0 hx1 hx2 hx3 HR HBB
     generalize wr.heap.size = gb at BKd ⊢

     refine start_ (n := 9) (S := fun w' => w'.cell? ⟨lb, 0, none⟩ = some (.map (some mb)) ∧ w'.cell? ⟨gb, 0, none⟩ = some (.int .i64 y.f0) ∧ w'.cell? ⟨gb, 1, none⟩ = some (.int .i64 y.f1) ∧ w'.cell? ⟨gb, 2, none⟩ = some (.int .i64 y.f2) ∧ w'.cell? ⟨gb, 3, none⟩ = some (.int .i64 y.f3) ∧ (Instr.lookup 56 (.map (some mb)) (.agg #[.int .i64 y.f0, .int .i64 y.f1, .int .i64 y.f2, .int .i64 y.f3]) false).run Tryd.prog w' = .ok (.slice A M c) w') (ds := []) #[false, false, false, false, false, false, false, false, false] (by kernel_rfl) rfl rfl ⟨(blk_cell (HL.out.below HBd.out).1 0).trans rfl, (blk_cell BKd.out 0).trans rfl, (blk_cell BKd.out 1).trans rfl, (blk_cell BKd.out 2).trans rfl, (blk_cell BKd.out 3).trans rfl, HLK.out _ HBd.out⟩ (fun hHeld => ?_)
     refine with_tabW log_Seen.tab12 log_Seen.bits12 (fun HT_ HW_ => ?_)
     generalize World.drew _ = wd at HBd BKd HRd HB2d hHeld ⊢
     refine pure_ (i := 0) (N := some 34) (v := ?_) (a' := ?_) #[true, false, false, false, false, false, false, false, false] rfl rfl (any_of HT_.out (by kernel_rfl)) (fun _ _ _ h => h) (Or.inl ⟨by rfl, ?_⟩) ?_ ?_
     rotate_left
     ·intro w'
      go_simp
      with_reducible rfl
     rotate_left
     ·simp only [Act.put, List.setIfInBounds_toArray, List.set_cons_zero, List.set_cons_succ, i64_w, i32_w]
      rfl
     refine pure_ (i := 1) (N := some 35) (v := ?_) (a' := ?_) #[true, true, false, false, false, false, false, false, false] rfl rfl (any_of HT_.out (by kernel_rfl)) (fun _ _ _ h => h) (Or.inl ⟨by rfl, ?_⟩) ?_ ?_
     rotate_left
     ·intro w'
      go_simp
      with_reducible rfl
     rotate_left
     ·simp only [Act.put, List.setIfInBounds_toArray, List.set_cons_zero, List.set_cons_succ, i64_w, i32_w]
      rfl
     refine pure_ (i := 2) (N := some 36) (v := ?_) (a' := ?_) #[true, true, true, false, false, false, false, false, false] rfl rfl (any_of HT_.out (by kernel_rfl)) (fun _ _ _ h => h) (Or.inl ⟨by rfl, ?_⟩) ?_ ?_
     rotate_left
     ·intro w'
      go_simp
      with_reducible rfl
     rotate_left
     ·simp only [Act.put, List.setIfInBounds_toArray, List.set_cons_zero, List.set_cons_succ, i64_w, i32_w]
      rfl
     refine pure_ (i := 3) (N := some 37) (v := ?_) (a' := ?_) #[true, true, true, true, false, false, false, false, false] rfl rfl (any_of HT_.out (by kernel_rfl)) (fun _ _ _ h => h) (Or.inl ⟨by rfl, ?_⟩) ?_ ?_
     rotate_left
     ·intro w'
      go_simp
      with_reducible rfl
     rotate_left
     ·simp only [Act.put, List.setIfInBounds_toArray, List.set_cons_zero, List.set_cons_succ, i64_w, i32_w]
      rfl
     refine take_ (i := 4) (N := some 38) (v := ?_) (a' := ?_) #[true, true, true, true, true, false, false, false, false] rfl rfl (take_ofW HT_.out HW_.out (by kernel_rfl)) (fun _ _ _ h => h) (Or.inl ⟨by rfl, ?_⟩) hHeld ?_ ?_
     rotate_left
     ·rintro w' ⟨s0, s1, s2, s3, s4, s5⟩
      go_simp
      with_reducible rfl
     rotate_left
     ·simp only [Act.put, List.setIfInBounds_toArray, List.set_cons_zero, List.set_cons_succ, i64_w, i32_w]
      rfl
     refine take_ (i := 5) (N := some 39) (v := ?_) (a' := ?_) #[true, true, true, true, true, true, false, false, false] rfl rfl (take_ofW HT_.out HW_.out (by kernel_rfl)) (fun _ _ _ h => h) (Or.inl ⟨by rfl, ?_⟩) hHeld ?_ ?_
     rotate_left
     ·rintro w' ⟨s0, s1, s2, s3, s4, s5⟩
      go_simp
      with_reducible rfl
     rotate_left
     ·simp only [Act.put, List.setIfInBounds_toArray, List.set_cons_zero, List.set_cons_succ, i64_w, i32_w]
      rfl
     refine take_ (i := 6) (N := some 40) (v := ?_) (a' := ?_) #[true, true, true, true, true, true, true, false, false] rfl rfl (take_ofW HT_.out HW_.out (by kernel_rfl)) (fun _ _ _ h => h) (Or.inl ⟨by rfl, ?_⟩) hHeld ?_ ?_
     rotate_left
     ·rintro w' ⟨s0, s1, s2, s3, s4, s5⟩
      go_simp
      with_reducible rfl
     rotate_left
     ·simp only [Act.put, List.setIfInBounds_toArray, List.set_cons_zero, List.set_cons_succ, i64_w, i32_w]
      rfl
     refine one_ (i := 7) (N := some 41) #[true, true, true, true, true, true, true, true, false] rfl rfl (one_of HT_.out (by kernel_rfl)) (by decide) (fun K hK => ?_)
     refine Kd.R_append_rows_step k26 (Rr := k26.K wd) (w0 := w2) w2.heap.size (by rfl) (.tmp 34) (.tmp 40) 34 26 _ 88 rfl Tryd.underlying34 info26 rfl (by decide) (by omega) _ acc (rows y) _ M c (fun _ => True) (fun _ => False) rfl rfl HRd.out (Kd.C_below HRY.out HBd.out) ?aK (fun _ h => h.elim) (fun _ _ => trivial) HB2d.out (below_size HB2d.out) (by have := HLEN.out; omega) ?_
     (case aK => exact fun _ _ h => entry_KM h)
     intro v1 w1 ho hb hg hat
     have n1_ := Aside0.mk (below_step HB2.out hb)
     have n3_ := Aside0.mk hb
     have HR1 := Aside0.mk ho
     have n2_ := Aside0.mk (blk_grown BKd.out hg (Kd.R_ne HRd.out BKd.out (by decide)))
     clear hb ho hg hat HBd BKd HRd HB2d
     have HBd := n1_
     have BKd := n2_
     have HB2d := n3_
     clear n1_ n2_ n3_
     refine hK.out _ _ ⟨(blk_cell (HL.out.below HBd.out).1 0).trans rfl, (blk_cell BKd.out 0).trans rfl, (blk_cell BKd.out 1).trans rfl, (blk_cell BKd.out 2).trans rfl, (blk_cell BKd.out 3).trans rfl, HLK.out _ HBd.out⟩ (fun hHeld => ?_)
     clear hK K
     refine norm_ (a' := ?_) ?_ ?_
     rotate_left
     ·show Act.put _ (some 41) _ = _
      simp only [Act.put, List.setIfInBounds_toArray, List.set_cons_zero, List.set_cons_succ, i64_w, i32_w]
      rfl
     refine pure_ (i := 8) (N := some 7) (v := ?_) (a' := ?_) #[true, true, true, true, true, true, true, true, true] rfl rfl (any_of HT_.out (by kernel_rfl)) (fun _ _ _ h => h) (Or.inl ⟨by rfl, ?_⟩) ?_ ?_
     rotate_left
     ·intro w'
      go_simp
      with_reducible rfl
     rotate_left
     ·simp only [Act.put, List.setIfInBounds_toArray, List.set_cons_zero, List.set_cons_succ, i64_w, i32_w]
      rfl
     refine done_ (done_of HT_.out (by kernel_rfl)) ?_
     try go_wp2
     refine ⟨⟨k + 1, j + 1, acc ++ rows y, by rw [ek], ⟨by have := HJ.out; omega⟩, HR1, ⟨HKN.out⟩, ⟨by rw [HTK.out, HACC.out]⟩, HB2d⟩, ?_⟩
     rw [ek]
     have := HKN.out
     have := HJ.out
     simp only [intOf]
     omega
    ·have e1 : decide (j < (Q : Int)) = false := decide_eq_false hj
     have HE : Aside0 (acc = (sortS out).flatMap rows) := ⟨by rw [← HACC.out, List.take_of_length_le (by have := HQ.out; have := HJ.out; omega), HATS.out]⟩
     clear hj
     go_wp2
     go_ret
     exact ⟨_, out, rfl, HSEEN.out, HE.out ▸ Kd.R_lower HR.out (below_size HB2.out), below_step HB2.out HBB.out⟩
  ·intro x w1 cnt1 hx hlx hat1 hlt1 hg1 hs1 hen
   have HNR : Aside0 (∀ k, k < wr.heap.size → (∃ cells q, wr.heap[k]? = some (.cells cells q (0, 0))) → w1.heap[k]? = wr.heap[k]?) := ⟨fun k hk ⟨cells, q, hc⟩ => hg1.block k hk (fun e => by
    obtain ⟨o, s, c, d, hi⟩ := hat.isIter
    have e2 := Option.some.inj e
    rw [← e2, hc] at hi
    cases hi)⟩
   have HR1 := Aside0.mk (Kd.R_mono (Kd.R_move (Kd.R_bound HR.out) (fun k hk => by
    obtain ⟨_, _, hlt, q, _, cells, hc⟩ := hk
    exact HNR.out k hlt ⟨cells, q, hc⟩)) (fun k hk => show k ≠ wr.heap.size ∧ k ≠ w.heap.size from ⟨fun e => by have := hk.2.2.1; omega, hk.1⟩))
   have BK := Aside0.mk (show (w1.alloc (.cells #[.int .i64 x.f0, .int .i64 x.f1, .int .i64 x.f2, .int .i64 x.f3] 23)).heap[wr.heap.size]? = some (.cells #[.int .i64 x.f0, .int .i64 x.f1, .int .i64 x.f2, .int .i64 x.f3] 23 (0, 0)) by rw [← hs1]; exact blk_new _ _)
   have BX1 : Aside0 (BoxL (w1.alloc (.cells #[.int .i64 x.f0, .int .i64 x.f1, .int .i64 x.f2, .int .i64 x.f3] 23)) w.heap.size a) := ⟨blk_alloc ((HNR.out _ (blk_lt BX.out) ⟨_, _, BX.out⟩).trans BX.out) _⟩
   have HB1 := Aside0.mk (HB.out.grown hg1 (below_size HB.out) (fun k hk => by have := Option.some.inj hk; omega))
   have HAT1 := Aside0.mk hat1
   have HLT := Aside0.mk hlt1
   have HRL := Aside0.mk hat.left_eq
   have HX := Aside0.mk (And.intro hx hlx)
   unfold lv at hen ⊢
   have HBQ := Aside0.mk (below_alloc HB1.out (.cells #[.int .i64 x.f0, .int .i64 x.f1, .int .i64 x.f2, .int .i64 x.f3] 23))
   have HRQ := Aside0.mk (Kd.R_below HR1.out (below_alloc (Below.refl _ _) (.cells #[.int .i64 x.f0, .int .i64 x.f1, .int .i64 x.f2, .int .i64 x.f3] 23)))
   have HATQ := Aside0.mk (HAT1.out.below (below_alloc (Below.refl _ _) (.cells #[.int .i64 x.f0, .int .i64 x.f1, .int .i64 x.f2, .int .i64 x.f3] 23)))
   go_upto_region 5 with fail
   clear hat hat1 hlt1 hg1 hx hlx HB HR HNR hen hs1 HB1 HR1 HAT1 BX
   generalize wr.heap.size = gb at BK HRQ ⊢
   generalize w1.alloc (.cells #[.int .i64 x.f0, .int .i64 x.f1, .int .i64 x.f2, .int .i64 x.f3] 23) = wd at BK BX1 HBQ HRQ HATQ ⊢
   have a0 : wd.cell? ⟨w.heap.size, 0, none⟩ = some (.int .i64 a.f0) := (blk_cell BX1.out 0).trans rfl
   have a1 : wd.cell? ⟨w.heap.size, 1, none⟩ = some (.int .i64 a.f1) := (blk_cell BX1.out 1).trans rfl
   have a2 : wd.cell? ⟨w.heap.size, 2, none⟩ = some (.int .i64 a.f2) := (blk_cell BX1.out 2).trans rfl
   have a3 : wd.cell? ⟨w.heap.size, 3, none⟩ = some (.int .i64 a.f3) := (blk_cell BX1.out 3).trans rfl
   have k0 : wd.cell? ⟨gb, 0, none⟩ = some (.int .i64 x.f0) := (blk_cell BK.out 0).trans rfl
   have k1 : wd.cell? ⟨gb, 1, none⟩ = some (.int .i64 x.f1) := (blk_cell BK.out 1).trans rfl
   have k2 : wd.cell? ⟨gb, 2, none⟩ = some (.int .i64 x.f2) := (blk_cell BK.out 2).trans rfl
   have k3 : wd.cell? ⟨gb, 3, none⟩ = some (.int .i64 x.f3) := (blk_cell BK.out 3).trans rfl
   go_wp2_with fail
   refine (label_Over.calls a.f0 a.f1 a.f2 a.f3 x.f0 x.f1 x.f2 x.f3 _ _ (over_S a x)).mono ?_
   rintro e w3 ⟨rfl, hb⟩
   have BK3 := Aside0.mk (blk_below BK.out hb)
   have BX3 := Aside0.mk (BX1.out.below hb)
   have HB3 := Aside0.mk (below_step HBQ.out hb)
   have HR3 := Aside0.mk (Kd.R_below HRQ.out hb)
   have HAT3 := Aside0.mk (HATQ.out.below hb)
   clear hb BK BX1 HBQ HRQ HATQ a0 a1 a2 a3 k0 k1 k2 k3
   by_cases ho : overS a x = true
   ·rw [ho]
    have HO := Aside0.mk ho
    clear ho
    have k0 : w3.cell? ⟨gb, 0, none⟩ = some (.int .i64 x.f0) := (blk_cell BK3.out 0).trans rfl
    have k1 : w3.cell? ⟨gb, 1, none⟩ = some (.int .i64 x.f1) := (blk_cell BK3.out 1).trans rfl
    have k2 : w3.cell? ⟨gb, 2, none⟩ = some (.int .i64 x.f2) := (blk_cell BK3.out 2).trans rfl
    have k3 : w3.cell? ⟨gb, 3, none⟩ = some (.int .i64 x.f3) := (blk_cell BK3.out 3).trans rfl
    have HLEN : Aside0 ((out.length + 1) * 32 ≤ 140737488355328) := ⟨by have := HCN.out; have := HN.out; omega⟩
    go_wp2_with (first | (at_builtin; refine Kd.R_append k23 (w0 := w) w.heap.size rfl (.tmp 22) (.tmp 24) 49 23 (.agg #[(.int .i64 0), (.int .i64 0), (.int .i64 0), (.int .i64 0)]) 32 rfl Tryd.underlying49 infoLab rfl (by decide) (by omega) _ out x [.int .i64 x.f0, .int .i64 x.f1, .int .i64 x.f2, .int .i64 x.f3] (fun k => k ≠ gb ∧ k ≠ w.heap.size) (fun _ => False) rfl rfl (k23_mkM _ _ _ x) (fun _ hk => hk.elim) (fun k_ hk => ⟨Kd.freshB BK3.out k_ hk, Kd.freshB BX3.out k_ hk⟩) HR3.out HB3.out (below_size HB3.out) HLEN.out ?_; intro v1 w4 ho hb hg hat) | go_in)
    refine ⟨⟨_, cnt1, out ++ [x], HAT3.out.beside HR3.out hg, ⟨Kd.R_mono ho (fun _ hk => hk.2)⟩, ⟨fun y hy => ?_, ?_, fun y hy hl hov hr => ?_⟩, ⟨?_, ?_⟩, ⟨blk_grown BX3.out hg (Kd.R_away HR3.out (fun _ hk => hk.2))⟩, ⟨hb⟩⟩, ?_⟩
    ·rcases List.mem_append.1 hy with h1 | h1
     ·obtain ⟨h2, h3, h4⟩ := HOK.out.1 y h1
      exact ⟨h2, h3, by simp [h4]⟩
     ·obtain rfl := List.mem_singleton.1 h1
      exact ⟨HX.out.1, HO.out, by simp⟩
    ·refine List.nodup_append.2 ⟨HOK.out.2.1, by simp, fun y hy z hz e => ?_⟩
     obtain rfl := List.mem_singleton.1 hz
     subst e
     have h4 := (HOK.out.1 y hy).2.2
     rw [HX.out.2] at h4
     cases h4
    ·by_cases hyx : y = x
     ·subst hyx
      exact List.mem_append_right _ List.mem_cons_self
     ·simp only [hyx, decide_false, Bool.not_false, Bool.and_true] at hl
      exact List.mem_append_left _ (HOK.out.2.2 y hy hl hov hr)
    ·have := HCN.out
     have := HLT.out
     omega
    ·have := HCN.out
     have := HLT.out
     rw [List.length_append, List.length_singleton]
     omega
    ·rw [HRL.out, (HAT3.out.beside HR3.out hg).left_eq]
     exact HLT.out
   ·have ho2 : overS a x = false := by simpa using ho
    rw [ho2]
    have HO := Aside0.mk ho2
    clear ho ho2
    go_wp2
    refine ⟨⟨_, cnt1, out, HAT3.out, ⟨Kd.R_mono HR3.out (fun _ hk => hk.2)⟩, ⟨fun y hy => ?_, HOK.out.2.1, fun y hy hl hov hr => ?_⟩, ⟨?_, ?_⟩, BX3, HB3⟩, ?_⟩
    ·obtain ⟨h2, h3, h4⟩ := HOK.out.1 y hy
     exact ⟨h2, h3, by simp [h4]⟩
    ·by_cases hyx : y = x
     ·subst hyx
      rw [HO.out] at hov
      cases hov
     ·simp only [hyx, decide_false, Bool.not_false, Bool.and_true] at hl
      exact HOK.out.2.2 y hy hl hov hr
    ·have := HCN.out
     have := HLT.out
     omega
    ·have := HCN.out
     have := HLT.out
     omega
    ·rw [HRL.out, HAT3.out.left_eq]
     exact HLT.out
end Go.Proofs.YtihknjmibnonjaaDoor.X
end
