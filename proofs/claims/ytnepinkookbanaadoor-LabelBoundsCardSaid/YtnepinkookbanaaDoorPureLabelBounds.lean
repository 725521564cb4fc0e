/- LabelBounds, over numbers and lists: labels at their bounds may be, those beyond may not, and no text is read as one. For every input. -/
import Derived.Test.YtnepinkookbanaaDoorF9
import Derived.Test.YtnepinkookbanaaDoorPLabOrd
import Derived.Test.YtnepinkookbanaaDoorHO
namespace Go.Proofs.YtnepinkookbanaaDoor.Pure
open Go.RowKit Go.Proofs.YtnepinkookbanaaDoor.X Go.Proofs.YtnepinkookbanaaDoorW.PrintWords Go.Proofs.YtnepinkookbanaaDoorW.PrintLast Go.Proofs.YtnepinkookbanaaDoor.Lib

theorem parse_b0 : label_Parse.f (⟨#[52, 46, 48, 46, 48, 46, 48]⟩ : ByteArray) = some (0, 0, 0, 0, 1) := by decide +kernel
theorem parse_b1 : label_Parse.f (⟨#[48, 46, 50, 53, 54, 46, 48, 46, 48]⟩ : ByteArray) = some (0, 0, 0, 0, 1) := by decide +kernel
theorem parse_b2 : label_Parse.f (⟨#[48, 46, 48, 46, 45, 49, 46, 48]⟩ : ByteArray) = some (0, 0, 0, 0, 1) := by decide +kernel
theorem parse_b3 : label_Parse.f (⟨#[48, 46, 48, 46, 48, 46]⟩ : ByteArray) = some (0, 0, 0, 0, 1) := by decide +kernel
theorem LabelBounds : ∀ (a0 : Int) (a1 : Int), (Lit.int .i64 a0).wf = true → (Lit.int .i64 a1).wf = true → ∃ k, donjonlaw4_LabelBounds.f k a0 a1 = some true := by
  intro a b _ _
  refine ⟨1, ?_⟩
  unfold donjonlaw4_LabelBounds.f donjonlaw4_within.f
  obtain ⟨r, e, h0, h1, _⟩ := within_small (a := b) (n := 500) (by omega) (by omega)
  rw [known4, Option.bind_some, if_pos rfl, e, Option.bind_some]
  have w1 : wrap64 (1 + r) = 1 + r := wrap64_id (by omega) (by omega)
  rw [w1]
  have c1 : label_Check.f 3 255 3 255 = some 0 := by rfl
  have c2 : label_Check.f 0 0 0 0 = some 0 := by rfl
  rw [c1, Option.bind_some, if_pos rfl, c2, Option.bind_some, donjonlaw4_LabelBounds.j0, if_neg (by decide)]
  unfold donjonlaw4_within.f
  obtain ⟨t, et, t0, t1, _⟩ := within_small (a := a) (n := 4) (by omega) (by omega)
  rw [et, Option.bind_some, parse_b0, parse_b1, parse_b2, parse_b3]
  have w3 : wrap64 (3 + (1 + r)) = 3 + (1 + r) := wrap64_id (by omega) (by omega)
  have w4 : wrap64 (255 + (1 + r)) = 255 + (1 + r) := wrap64_id (by omega) (by omega)
  have w5 : wrap64 (-(1 + r)) = -(1 + r) := wrap64_id (by omega) (by omega)
  simp only [Option.bind_some, label_Parse.chk, w3, w4, w5]
  have d1 : labOk (3 + (1 + r)) 255 3 255 = false := by
    unfold labOk
    rw [decide_eq_false (by omega : ¬ 3 + (1 + r) ≤ 3)]
    simp
  have d2 : labOk 3 (255 + (1 + r)) 3 255 = false := by
    unfold labOk
    rw [decide_eq_false (by omega : ¬ 255 + (1 + r) ≤ 255)]
    simp
  have d3 : labOk 3 255 (-(1 + r)) 255 = false := by
    unfold labOk
    rw [decide_eq_false (by omega : ¬ 0 ≤ -(1 + r))]
    simp
  have d4 : labOk 3 255 3 (-(1 + r)) = false := by
    unfold labOk
    rw [decide_eq_false (by omega : ¬ 0 ≤ -(1 + r))]
    simp
  rw [d1, d2, d3, d4]
  by_cases k0 : t = 0
  · rw [if_pos k0]; rfl
  · rw [if_neg k0]
    by_cases k1 : t = 1
    · rw [if_pos k1]; rfl
    · rw [if_neg k1]
      by_cases k2 : t = 2
      · rw [if_pos k2]; rfl
      · rw [if_neg k2]
        have k3 : t = 3 := by omega
        rw [if_pos k3]; rfl
end Go.Proofs.YtnepinkookbanaaDoor.Pure
