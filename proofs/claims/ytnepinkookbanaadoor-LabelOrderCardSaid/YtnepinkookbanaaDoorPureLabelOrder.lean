/- LabelOrder, over numbers: over is an order, and all are over bottom. For every input. -/
import Derived.Test.YtnepinkookbanaaDoorF3
import Derived.Test.YtnepinkookbanaaDoorPLabOrd
import Derived.Test.YtnepinkookbanaaDoorHO
namespace Go.Proofs.YtnepinkookbanaaDoor.Pure
open Go.RowKit Go.Proofs.YtnepinkookbanaaDoor.X Go.Proofs.YtnepinkookbanaaDoorW.PrintWords Go.Proofs.YtnepinkookbanaaDoorW.PrintLast Go.Proofs.YtnepinkookbanaaDoor.Lib Go.Proofs.YtnepinkookbanaaDoorW.PrintMore

theorem order_end {s c i d s' c' i' d' s2 c2 i2 d2 : Int} (h : Lab s c i d) (h' : Lab s' c' i' d') (h2 : Lab s2 c2 i2 d2) : donjonlaw4_LabelOrder.j0 1 false s c i d s' c' i' d' s2 c2 i2 d2 = some true := by
  rw [donjonlaw4_LabelOrder.j0, if_neg (by decide), over_f h h', Option.bind_some]
  by_cases c1 : overV s c i d s' c' i' d' = true
  · rw [if_pos c1, over_f h' h2, Option.bind_some]
    by_cases c2 : overV s' c' i' d' s2 c2 i2 d2 = true
    · rw [if_pos c2, over_f h h2, Option.bind_some, overV_trans c1 c2]
    · rw [if_neg c2]
  · rw [if_neg c1]
theorem LabelOrder : ∀ (a0_0 : Int) (a0_1 : Int) (a0_2 : Int) (a0_3 : Int) (a1_0 : Int) (a1_1 : Int) (a1_2 : Int) (a1_3 : Int) (a2_0 : Int) (a2_1 : Int) (a2_2 : Int) (a2_3 : Int), (Lit.int .i64 a0_0).wf = true → (Lit.int .i64 a0_1).wf = true → (Lit.int .i64 a0_2).wf = true → (Lit.int .i64 a0_3).wf = true → (Lit.int .i64 a1_0).wf = true → (Lit.int .i64 a1_1).wf = true → (Lit.int .i64 a1_2).wf = true → (Lit.int .i64 a1_3).wf = true → (Lit.int .i64 a2_0).wf = true → (Lit.int .i64 a2_1).wf = true → (Lit.int .i64 a2_2).wf = true → (Lit.int .i64 a2_3).wf = true → ∃ k, donjonlaw4_LabelOrder.f k a0_0 a0_1 a0_2 a0_3 a1_0 a1_1 a1_2 a1_3 a2_0 a2_1 a2_2 a2_3 = some true := by
  intro a b c d a' b' c' d' a2 b2 c2 d2 _ _ _ _ _ _ _ _ _ _ _ _
  refine ⟨1, ?_⟩
  unfold donjonlaw4_LabelOrder.f
  have hA := lab_good a b c d
  have hB := lab_good a' b' c' d'
  have hC := lab_good a2 b2 c2 d2
  rw [known4, Option.bind_some, if_pos rfl, good4_f, Option.bind_some, good4_f, Option.bind_some, good4_f, Option.bind_some, over_f hA hA, Option.bind_some, if_pos (overV_refl _ _ _ _)]
  unfold label_Bottom.f
  rw [Option.bind_some, over_f hA lab_bottom, Option.bind_some, if_pos (overV_bottom hA), over_f hA hB, Option.bind_some]
  by_cases c1 : overV (a % 4) (b % 256) (c % 4) (d % 256) (a' % 4) (b' % 256) (c' % 4) (d' % 256) = true
  · rw [if_pos c1, over_f hB hA, Option.bind_some]
    by_cases c2 : overV (a' % 4) (b' % 256) (c' % 4) (d' % 256) (a % 4) (b % 256) (c % 4) (d % 256) = true
    · obtain ⟨e1, e2, e3, e4⟩ := overV_anti hA hB c1 c2
      have e : (!(a % 4 == a' % 4) || (!(b % 256 == b' % 256) || (!(c % 4 == c' % 4) || (!(d % 256 == d' % 256))))) = false := by rw [e1, e2, e3, e4]; simp
      rw [if_pos c2]
      show donjonlaw4_LabelOrder.j0 1 (!(a % 4 == a' % 4) || (!(b % 256 == b' % 256) || (!(c % 4 == c' % 4) || (!(d % 256 == d' % 256))))) _ _ _ _ _ _ _ _ _ _ _ _ = _
      rw [e]
      exact order_end hA hB hC
    · rw [if_neg c2]
      exact order_end hA hB hC
  · rw [if_neg c1]
    exact order_end hA hB hC
end Go.Proofs.YtnepinkookbanaaDoor.Pure
