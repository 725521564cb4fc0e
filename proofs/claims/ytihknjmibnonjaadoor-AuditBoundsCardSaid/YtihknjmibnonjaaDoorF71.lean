/- Written by a program of this session over the kit's print: YtihknjmibnonjaaDoorF71. -/
import Derived.Test.YtihknjmibnonjaaDoorH
namespace Go.Proofs.YtihknjmibnonjaaDoor.X
open Go.RowKit Go.Proofs.YtihknjmibnonjaaDoorW.PrintWords Go.Proofs.YtihknjmibnonjaaDoorW.PrintLast Go.Proofs.YtihknjmibnonjaaDoorW.PrintMore Go.Proofs.YtihknjmibnonjaaDoor.More
attribute [local go_sem] max2_int min2_int max_two min_two max_three min_three max_four min_four binOp_string_leq binOp_string_gtr   -- for this text's walks alone
set_option linter.unusedVariables false
set_option linter.unusedSimpArgs false

/-! ### api_wordOfFaults: function 71 -/
def api_wordOfFaults.f (a0 : Int) : Option (ByteArray) := if a0 = 31 then (some (⟨#[114, 101, 97, 100]⟩ : ByteArray)) else (if a0 = 32 then (some (⟨#[119, 114, 105, 116, 101]⟩ : ByteArray)) else (if a0 = 33 then (some (⟨#[101, 120, 101, 99]⟩ : ByteArray)) else (if a0 = 34 then (some (⟨#[103, 97, 116, 101]⟩ : ByteArray)) else (if a0 = 35 then (some (⟨#[98, 111, 117, 110, 100]⟩ : ByteArray)) else (if a0 = 36 then (some (⟨#[111, 112]⟩ : ByteArray)) else (if a0 = 37 then (some (⟨#[115, 116, 97, 99, 107]⟩ : ByteArray)) else (some (⟨#[101, 114, 114, 111, 114]⟩ : ByteArray))))))))
set_option maxHeartbeats 8000000 in
set_option maxRecDepth 100000 in
theorem api_wordOfFaults.calls (a0 : Int) (r : ByteArray) (w : World) (h : api_wordOfFaults.f a0 = some r) :
    Calls Tryd.prog 71 #[.int .i64 a0] w fun e w' => e = .returned (.string r) ∧ Drawn0 w w' := by
  have H : (if a0 = 31 then (some (⟨#[114, 101, 97, 100]⟩ : ByteArray)) else (if a0 = 32 then (some (⟨#[119, 114, 105, 116, 101]⟩ : ByteArray)) else (if a0 = 33 then (some (⟨#[101, 120, 101, 99]⟩ : ByteArray)) else (if a0 = 34 then (some (⟨#[103, 97, 116, 101]⟩ : ByteArray)) else (if a0 = 35 then (some (⟨#[98, 111, 117, 110, 100]⟩ : ByteArray)) else (if a0 = 36 then (some (⟨#[111, 112]⟩ : ByteArray)) else (if a0 = 37 then (some (⟨#[115, 116, 97, 99, 107]⟩ : ByteArray)) else (some (⟨#[101, 114, 114, 111, 114]⟩ : ByteArray))))))))) = some r := h
  clear h
  by_cases c2 : a0 = 31
  · rw [if_pos c2] at H
    have c2b0 : (a0 == 31) = true := beq_iff_eq.mpr c2
    have c2b1 : (a0 != 31) = false := bne_eq_false_iff_eq.mpr c2
    clear c2
    obtain rfl := Option.some.inj H
    go_enter Tryd.func71, Tryd.ntmps71
    go_wp2
    go_ret
    exact ⟨by first | rfl | (simp; done) | (simp [*]; done), by repeat (first | exact Drawn0.refl _ | apply Drawn0.step)⟩
  · rw [if_neg c2] at H
    have c2b0 : (a0 == 31) = false := beq_eq_false_iff_ne.mpr c2
    have c2b1 : (a0 != 31) = true := bne_iff_ne.mpr c2
    by_cases c3 : a0 = 32
    · rw [if_pos c3] at H
      have c3b0 : (a0 == 32) = true := beq_iff_eq.mpr c3
      have c3b1 : (a0 != 32) = false := bne_eq_false_iff_eq.mpr c3
      clear c3
      obtain rfl := Option.some.inj H
      go_enter Tryd.func71, Tryd.ntmps71
      go_wp2
      go_ret
      exact ⟨by first | rfl | (simp; done) | (simp [*]; done), by repeat (first | exact Drawn0.refl _ | apply Drawn0.step)⟩
    · rw [if_neg c3] at H
      have c3b0 : (a0 == 32) = false := beq_eq_false_iff_ne.mpr c3
      have c3b1 : (a0 != 32) = true := bne_iff_ne.mpr c3
      by_cases c4 : a0 = 33
      · rw [if_pos c4] at H
        have c4b0 : (a0 == 33) = true := beq_iff_eq.mpr c4
        have c4b1 : (a0 != 33) = false := bne_eq_false_iff_eq.mpr c4
        clear c4
        obtain rfl := Option.some.inj H
        go_enter Tryd.func71, Tryd.ntmps71
        go_wp2
        go_ret
        exact ⟨by first | rfl | (simp; done) | (simp [*]; done), by repeat (first | exact Drawn0.refl _ | apply Drawn0.step)⟩
      · rw [if_neg c4] at H
        have c4b0 : (a0 == 33) = false := beq_eq_false_iff_ne.mpr c4
        have c4b1 : (a0 != 33) = true := bne_iff_ne.mpr c4
        by_cases c5 : a0 = 34
        · rw [if_pos c5] at H
          have c5b0 : (a0 == 34) = true := beq_iff_eq.mpr c5
          have c5b1 : (a0 != 34) = false := bne_eq_false_iff_eq.mpr c5
          clear c5
          obtain rfl := Option.some.inj H
          go_enter Tryd.func71, Tryd.ntmps71
          go_wp2
          go_ret
          exact ⟨by first | rfl | (simp; done) | (simp [*]; done), by repeat (first | exact Drawn0.refl _ | apply Drawn0.step)⟩
        · rw [if_neg c5] at H
          have c5b0 : (a0 == 34) = false := beq_eq_false_iff_ne.mpr c5
          have c5b1 : (a0 != 34) = true := bne_iff_ne.mpr c5
          by_cases c6 : a0 = 35
          · rw [if_pos c6] at H
            have c6b0 : (a0 == 35) = true := beq_iff_eq.mpr c6
            have c6b1 : (a0 != 35) = false := bne_eq_false_iff_eq.mpr c6
            clear c6
            obtain rfl := Option.some.inj H
            go_enter Tryd.func71, Tryd.ntmps71
            go_wp2
            go_ret
            exact ⟨by first | rfl | (simp; done) | (simp [*]; done), by repeat (first | exact Drawn0.refl _ | apply Drawn0.step)⟩
          · rw [if_neg c6] at H
            have c6b0 : (a0 == 35) = false := beq_eq_false_iff_ne.mpr c6
            have c6b1 : (a0 != 35) = true := bne_iff_ne.mpr c6
            by_cases c7 : a0 = 36
            · rw [if_pos c7] at H
              have c7b0 : (a0 == 36) = true := beq_iff_eq.mpr c7
              have c7b1 : (a0 != 36) = false := bne_eq_false_iff_eq.mpr c7
              clear c7
              obtain rfl := Option.some.inj H
              go_enter Tryd.func71, Tryd.ntmps71
              go_wp2
              go_ret
              exact ⟨by first | rfl | (simp; done) | (simp [*]; done), by repeat (first | exact Drawn0.refl _ | apply Drawn0.step)⟩
            · rw [if_neg c7] at H
              have c7b0 : (a0 == 36) = false := beq_eq_false_iff_ne.mpr c7
              have c7b1 : (a0 != 36) = true := bne_iff_ne.mpr c7
              by_cases c8 : a0 = 37
              · rw [if_pos c8] at H
                have c8b0 : (a0 == 37) = true := beq_iff_eq.mpr c8
                have c8b1 : (a0 != 37) = false := bne_eq_false_iff_eq.mpr c8
                clear c8
                obtain rfl := Option.some.inj H
                go_enter Tryd.func71, Tryd.ntmps71
                go_wp2
                go_ret
                exact ⟨by first | rfl | (simp; done) | (simp [*]; done), by repeat (first | exact Drawn0.refl _ | apply Drawn0.step)⟩
              · rw [if_neg c8] at H
                have c8b0 : (a0 == 37) = false := beq_eq_false_iff_ne.mpr c8
                have c8b1 : (a0 != 37) = true := bne_iff_ne.mpr c8
                obtain rfl := Option.some.inj H
                go_enter Tryd.func71, Tryd.ntmps71
                go_wp2
                go_ret
                exact ⟨by first | rfl | (simp; done) | (simp [*]; done), by repeat (first | exact Drawn0.refl _ | apply Drawn0.step)⟩

end Go.Proofs.YtihknjmibnonjaaDoor.X
