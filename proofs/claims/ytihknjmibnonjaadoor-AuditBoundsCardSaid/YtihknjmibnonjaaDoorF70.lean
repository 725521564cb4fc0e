/- Written by a program of this session over the kit's print: YtihknjmibnonjaaDoorF70. -/
import Derived.Test.YtihknjmibnonjaaDoorH
namespace Go.Proofs.YtihknjmibnonjaaDoor.X
open Go.RowKit Go.Proofs.YtihknjmibnonjaaDoorW.PrintWords Go.Proofs.YtihknjmibnonjaaDoorW.PrintLast Go.Proofs.YtihknjmibnonjaaDoorW.PrintMore Go.Proofs.YtihknjmibnonjaaDoor.More
attribute [local go_sem] max2_int min2_int max_two min_two max_three min_three max_four min_four binOp_string_leq binOp_string_gtr   -- for this text's walks alone
set_option linter.unusedVariables false
set_option linter.unusedSimpArgs false

/-! ### api_wordOfSystem: function 70 -/
def api_wordOfSystem.f (a0 : Int) : Option (ByteArray) := if a0 = 11 then (some (⟨#[98, 97, 100]⟩ : ByteArray)) else (if a0 = 12 then (some (⟨#[100, 101, 97, 100]⟩ : ByteArray)) else (if a0 = 13 then (some (⟨#[102, 117, 108, 108]⟩ : ByteArray)) else (if a0 = 14 then (some (⟨#[98, 117, 115, 121]⟩ : ByteArray)) else (if a0 = 15 then (some (⟨#[108, 97, 98, 101, 108]⟩ : ByteArray)) else (if a0 = 16 then (some (⟨#[97, 99, 108]⟩ : ByteArray)) else (if a0 = 17 then (some (⟨#[113, 117, 111, 116, 97]⟩ : ByteArray)) else (if a0 = 18 then (some (⟨#[108, 111, 103]⟩ : ByteArray)) else (if a0 = 19 then (some (⟨#[114, 117, 108, 101]⟩ : ByteArray)) else (if a0 = 20 then (some (⟨#[108, 111, 103, 105, 110]⟩ : ByteArray)) else (if a0 = 21 then (some (⟨#[110, 97, 109, 101]⟩ : ByteArray)) else (some (⟨#[101, 114, 114, 111, 114]⟩ : ByteArray))))))))))))
set_option maxHeartbeats 8000000 in
set_option maxRecDepth 100000 in
theorem api_wordOfSystem.calls (a0 : Int) (r : ByteArray) (w : World) (h : api_wordOfSystem.f a0 = some r) :
    Calls Tryd.prog 70 #[.int .i64 a0] w fun e w' => e = .returned (.string r) ∧ Drawn0 w w' := by
  have H : (if a0 = 11 then (some (⟨#[98, 97, 100]⟩ : ByteArray)) else (if a0 = 12 then (some (⟨#[100, 101, 97, 100]⟩ : ByteArray)) else (if a0 = 13 then (some (⟨#[102, 117, 108, 108]⟩ : ByteArray)) else (if a0 = 14 then (some (⟨#[98, 117, 115, 121]⟩ : ByteArray)) else (if a0 = 15 then (some (⟨#[108, 97, 98, 101, 108]⟩ : ByteArray)) else (if a0 = 16 then (some (⟨#[97, 99, 108]⟩ : ByteArray)) else (if a0 = 17 then (some (⟨#[113, 117, 111, 116, 97]⟩ : ByteArray)) else (if a0 = 18 then (some (⟨#[108, 111, 103]⟩ : ByteArray)) else (if a0 = 19 then (some (⟨#[114, 117, 108, 101]⟩ : ByteArray)) else (if a0 = 20 then (some (⟨#[108, 111, 103, 105, 110]⟩ : ByteArray)) else (if a0 = 21 then (some (⟨#[110, 97, 109, 101]⟩ : ByteArray)) else (some (⟨#[101, 114, 114, 111, 114]⟩ : ByteArray))))))))))))) = some r := h
  clear h
  by_cases c2 : a0 = 11
  · rw [if_pos c2] at H
    have c2b0 : (a0 == 11) = true := beq_iff_eq.mpr c2
    have c2b1 : (a0 != 11) = false := bne_eq_false_iff_eq.mpr c2
    clear c2
    obtain rfl := Option.some.inj H
    go_enter Tryd.func70, Tryd.ntmps70
    go_wp2
    go_ret
    exact ⟨by first | rfl | (simp; done) | (simp [*]; done), by repeat (first | exact Drawn0.refl _ | apply Drawn0.step)⟩
  · rw [if_neg c2] at H
    have c2b0 : (a0 == 11) = false := beq_eq_false_iff_ne.mpr c2
    have c2b1 : (a0 != 11) = true := bne_iff_ne.mpr c2
    by_cases c3 : a0 = 12
    · rw [if_pos c3] at H
      have c3b0 : (a0 == 12) = true := beq_iff_eq.mpr c3
      have c3b1 : (a0 != 12) = false := bne_eq_false_iff_eq.mpr c3
      clear c3
      obtain rfl := Option.some.inj H
      go_enter Tryd.func70, Tryd.ntmps70
      go_wp2
      go_ret
      exact ⟨by first | rfl | (simp; done) | (simp [*]; done), by repeat (first | exact Drawn0.refl _ | apply Drawn0.step)⟩
    · rw [if_neg c3] at H
      have c3b0 : (a0 == 12) = false := beq_eq_false_iff_ne.mpr c3
      have c3b1 : (a0 != 12) = true := bne_iff_ne.mpr c3
      by_cases c4 : a0 = 13
      · rw [if_pos c4] at H
        have c4b0 : (a0 == 13) = true := beq_iff_eq.mpr c4
        have c4b1 : (a0 != 13) = false := bne_eq_false_iff_eq.mpr c4
        clear c4
        obtain rfl := Option.some.inj H
        go_enter Tryd.func70, Tryd.ntmps70
        go_wp2
        go_ret
        exact ⟨by first | rfl | (simp; done) | (simp [*]; done), by repeat (first | exact Drawn0.refl _ | apply Drawn0.step)⟩
      · rw [if_neg c4] at H
        have c4b0 : (a0 == 13) = false := beq_eq_false_iff_ne.mpr c4
        have c4b1 : (a0 != 13) = true := bne_iff_ne.mpr c4
        by_cases c5 : a0 = 14
        · rw [if_pos c5] at H
          have c5b0 : (a0 == 14) = true := beq_iff_eq.mpr c5
          have c5b1 : (a0 != 14) = false := bne_eq_false_iff_eq.mpr c5
          clear c5
          obtain rfl := Option.some.inj H
          go_enter Tryd.func70, Tryd.ntmps70
          go_wp2
          go_ret
          exact ⟨by first | rfl | (simp; done) | (simp [*]; done), by repeat (first | exact Drawn0.refl _ | apply Drawn0.step)⟩
        · rw [if_neg c5] at H
          have c5b0 : (a0 == 14) = false := beq_eq_false_iff_ne.mpr c5
          have c5b1 : (a0 != 14) = true := bne_iff_ne.mpr c5
          by_cases c6 : a0 = 15
          · rw [if_pos c6] at H
            have c6b0 : (a0 == 15) = true := beq_iff_eq.mpr c6
            have c6b1 : (a0 != 15) = false := bne_eq_false_iff_eq.mpr c6
            clear c6
            obtain rfl := Option.some.inj H
            go_enter Tryd.func70, Tryd.ntmps70
            go_wp2
            go_ret
            exact ⟨by first | rfl | (simp; done) | (simp [*]; done), by repeat (first | exact Drawn0.refl _ | apply Drawn0.step)⟩
          · rw [if_neg c6] at H
            have c6b0 : (a0 == 15) = false := beq_eq_false_iff_ne.mpr c6
            have c6b1 : (a0 != 15) = true := bne_iff_ne.mpr c6
            by_cases c7 : a0 = 16
            · rw [if_pos c7] at H
              have c7b0 : (a0 == 16) = true := beq_iff_eq.mpr c7
              have c7b1 : (a0 != 16) = false := bne_eq_false_iff_eq.mpr c7
              clear c7
              obtain rfl := Option.some.inj H
              go_enter Tryd.func70, Tryd.ntmps70
              go_wp2
              go_ret
              exact ⟨by first | rfl | (simp; done) | (simp [*]; done), by repeat (first | exact Drawn0.refl _ | apply Drawn0.step)⟩
            · rw [if_neg c7] at H
              have c7b0 : (a0 == 16) = false := beq_eq_false_iff_ne.mpr c7
              have c7b1 : (a0 != 16) = true := bne_iff_ne.mpr c7
              by_cases c8 : a0 = 17
              · rw [if_pos c8] at H
                have c8b0 : (a0 == 17) = true := beq_iff_eq.mpr c8
                have c8b1 : (a0 != 17) = false := bne_eq_false_iff_eq.mpr c8
                clear c8
                obtain rfl := Option.some.inj H
                go_enter Tryd.func70, Tryd.ntmps70
                go_wp2
                go_ret
                exact ⟨by first | rfl | (simp; done) | (simp [*]; done), by repeat (first | exact Drawn0.refl _ | apply Drawn0.step)⟩
              · rw [if_neg c8] at H
                have c8b0 : (a0 == 17) = false := beq_eq_false_iff_ne.mpr c8
                have c8b1 : (a0 != 17) = true := bne_iff_ne.mpr c8
                by_cases c9 : a0 = 18
                · rw [if_pos c9] at H
                  have c9b0 : (a0 == 18) = true := beq_iff_eq.mpr c9
                  have c9b1 : (a0 != 18) = false := bne_eq_false_iff_eq.mpr c9
                  clear c9
                  obtain rfl := Option.some.inj H
                  go_enter Tryd.func70, Tryd.ntmps70
                  go_wp2
                  go_ret
                  exact ⟨by first | rfl | (simp; done) | (simp [*]; done), by repeat (first | exact Drawn0.refl _ | apply Drawn0.step)⟩
                · rw [if_neg c9] at H
                  have c9b0 : (a0 == 18) = false := beq_eq_false_iff_ne.mpr c9
                  have c9b1 : (a0 != 18) = true := bne_iff_ne.mpr c9
                  by_cases c10 : a0 = 19
                  · rw [if_pos c10] at H
                    have c10b0 : (a0 == 19) = true := beq_iff_eq.mpr c10
                    have c10b1 : (a0 != 19) = false := bne_eq_false_iff_eq.mpr c10
                    clear c10
                    obtain rfl := Option.some.inj H
                    go_enter Tryd.func70, Tryd.ntmps70
                    go_wp2
                    go_ret
                    exact ⟨by first | rfl | (simp; done) | (simp [*]; done), by repeat (first | exact Drawn0.refl _ | apply Drawn0.step)⟩
                  · rw [if_neg c10] at H
                    have c10b0 : (a0 == 19) = false := beq_eq_false_iff_ne.mpr c10
                    have c10b1 : (a0 != 19) = true := bne_iff_ne.mpr c10
                    by_cases c11 : a0 = 20
                    · rw [if_pos c11] at H
                      have c11b0 : (a0 == 20) = true := beq_iff_eq.mpr c11
                      have c11b1 : (a0 != 20) = false := bne_eq_false_iff_eq.mpr c11
                      clear c11
                      obtain rfl := Option.some.inj H
                      go_enter Tryd.func70, Tryd.ntmps70
                      go_wp2
                      go_ret
                      exact ⟨by first | rfl | (simp; done) | (simp [*]; done), by repeat (first | exact Drawn0.refl _ | apply Drawn0.step)⟩
                    · rw [if_neg c11] at H
                      have c11b0 : (a0 == 20) = false := beq_eq_false_iff_ne.mpr c11
                      have c11b1 : (a0 != 20) = true := bne_iff_ne.mpr c11
                      by_cases c12 : a0 = 21
                      · rw [if_pos c12] at H
                        have c12b0 : (a0 == 21) = true := beq_iff_eq.mpr c12
                        have c12b1 : (a0 != 21) = false := bne_eq_false_iff_eq.mpr c12
                        clear c12
                        obtain rfl := Option.some.inj H
                        go_enter Tryd.func70, Tryd.ntmps70
                        go_wp2
                        go_ret
                        exact ⟨by first | rfl | (simp; done) | (simp [*]; done), by repeat (first | exact Drawn0.refl _ | apply Drawn0.step)⟩
                      · rw [if_neg c12] at H
                        have c12b0 : (a0 == 21) = false := beq_eq_false_iff_ne.mpr c12
                        have c12b1 : (a0 != 21) = true := bne_iff_ne.mpr c12
                        obtain rfl := Option.some.inj H
                        go_enter Tryd.func70, Tryd.ntmps70
                        go_wp2
                        go_ret
                        exact ⟨by first | rfl | (simp; done) | (simp [*]; done), by repeat (first | exact Drawn0.refl _ | apply Drawn0.step)⟩

end Go.Proofs.YtihknjmibnonjaaDoor.X
