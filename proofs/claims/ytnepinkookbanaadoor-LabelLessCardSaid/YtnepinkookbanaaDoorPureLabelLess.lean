/- LabelLess, over numbers and lists: labels stand in one order: of two that are unlike one is less. For every input. -/
import Derived.Test.YtnepinkookbanaaDoorF5
import Derived.Test.YtnepinkookbanaaDoorPLabOrd
import Derived.Test.YtnepinkookbanaaDoorHO
namespace Go.Proofs.YtnepinkookbanaaDoor.Pure
open Go.RowKit Go.Proofs.YtnepinkookbanaaDoor.X Go.Proofs.YtnepinkookbanaaDoorW.PrintWords Go.Proofs.YtnepinkookbanaaDoorW.PrintLast Go.Proofs.YtnepinkookbanaaDoor.Lib

theorem less_iff (a b c d a' b' c' d' : Int) : lessK a b c d a' b' c' d' 0 = true ↔ (a < a' ∨ (a = a' ∧ (b < b' ∨ (b = b' ∧ (c < c' ∨ (c = c' ∧ d < d')))))) := by
  rw [show lessK a b c d a' b' c' d' 0 = (if a ≠ a' then decide (a < a') else if b ≠ b' then decide (b < b') else if c ≠ c' then decide (c < c') else if d ≠ d' then decide (d < d') else false) from rfl]
  by_cases h1 : a = a'
  · rw [if_neg (by simp [h1])]
    by_cases h2 : b = b'
    · rw [if_neg (by simp [h2])]
      by_cases h3 : c = c'
      · rw [if_neg (by simp [h3])]
        by_cases h4 : d = d'
        · rw [if_neg (by simp [h4])]
          constructor
          · intro h; cases h
          · intro h; omega
        · rw [if_pos h4, decide_eq_true_eq]
          omega
      · rw [if_pos h3, decide_eq_true_eq]
        omega
    · rw [if_pos h2, decide_eq_true_eq]
      omega
  · rw [if_pos h1, decide_eq_true_eq]
    omega
theorem less_irrefl (a b c d : Int) : lessK a b c d a b c d 0 = false := by
  cases h : lessK a b c d a b c d 0 with
  | false => rfl
  | true => have := (less_iff a b c d a b c d).1 h; omega
theorem less_one {a b c d a' b' c' d' : Int} (h : lessK a b c d a' b' c' d' 0 = lessK a' b' c' d' a b c d 0) : a = a' ∧ b = b' ∧ c = c' ∧ d = d' := by
  have h1 := less_iff a b c d a' b' c' d'
  have h2 := less_iff a' b' c' d' a b c d
  rw [h] at h1
  cases hx : lessK a' b' c' d' a b c d 0 with
  | false => rw [hx] at h1 h2; simp only [Bool.false_eq_true, false_iff] at h1 h2; omega
  | true => rw [hx] at h1 h2; simp only [true_iff] at h1 h2; omega
theorem less_trans {a b c d a' b' c' d' a2 b2 c2 d2 : Int} (h1 : lessK a b c d a' b' c' d' 0 = true) (h2 : lessK a' b' c' d' a2 b2 c2 d2 0 = true) : lessK a b c d a2 b2 c2 d2 0 = true := by
  have e1 := (less_iff _ _ _ _ _ _ _ _).1 h1
  have e2 := (less_iff _ _ _ _ _ _ _ _).1 h2
  exact (less_iff _ _ _ _ _ _ _ _).2 (by omega)
theorem less_j0 (a b c d a' b' c' d' a2 b2 c2 d2 : Int) : donjonlaw4_LabelLess.j0 1 false a b c d a' b' c' d' a2 b2 c2 d2 = some true := by
  rw [donjonlaw4_LabelLess.j0, if_neg (by decide)]
  unfold label_Less.f
  simp only [Option.bind_some]
  by_cases h1 : lessK a b c d a' b' c' d' 0 = true
  · rw [if_pos h1]
    by_cases h2 : lessK a' b' c' d' a2 b2 c2 d2 0 = true
    · rw [if_pos h2, less_trans h1 h2]
    · rw [if_neg h2]
  · rw [if_neg h1]
theorem LabelLess : ∀ (a0_0 : Int) (a0_1 : Int) (a0_2 : Int) (a0_3 : Int) (a1_0 : Int) (a1_1 : Int) (a1_2 : Int) (a1_3 : Int) (a2_0 : Int) (a2_1 : Int) (a2_2 : Int) (a2_3 : Int), (Lit.int .i64 a0_0).wf = true → (Lit.int .i64 a0_1).wf = true → (Lit.int .i64 a0_2).wf = true → (Lit.int .i64 a0_3).wf = true → (Lit.int .i64 a1_0).wf = true → (Lit.int .i64 a1_1).wf = true → (Lit.int .i64 a1_2).wf = true → (Lit.int .i64 a1_3).wf = true → (Lit.int .i64 a2_0).wf = true → (Lit.int .i64 a2_1).wf = true → (Lit.int .i64 a2_2).wf = true → (Lit.int .i64 a2_3).wf = true → ∃ k, donjonlaw4_LabelLess.f k a0_0 a0_1 a0_2 a0_3 a1_0 a1_1 a1_2 a1_3 a2_0 a2_1 a2_2 a2_3 = some true := by
  intro a0_0 a0_1 a0_2 a0_3 a1_0 a1_1 a1_2 a1_3 a2_0 a2_1 a2_2 a2_3 _ _ _ _ _ _ _ _ _ _ _ _
  refine ⟨1, ?_⟩
  unfold donjonlaw4_LabelLess.f
  rw [known4, Option.bind_some, if_pos rfl, good4_f, Option.bind_some, good4_f, Option.bind_some, good4_f, Option.bind_some]
  simp only [label_Less.f, Option.bind_some, less_irrefl, less_j0]
  split
  · rename_i hne
    rw [if_neg]
    intro he
    have e := less_one (beq_iff_eq.1 he)
    obtain ⟨e1, e2, e3, e4⟩ := e
    rw [e1, e2, e3, e4] at hne
    simp at hne
  · rfl
end Go.Proofs.YtnepinkookbanaaDoor.Pure
