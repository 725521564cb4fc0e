/- LabelTexts, over numbers: a label's text is read as that label; one sign more, or less, and it is another one, or none. For every input. -/
import Derived.Test.YtnepinkookbanaaDoorF8
import Derived.Test.YtnepinkookbanaaDoorHO
import Derived.Test.YtnepinkookbanaaDoorLib
namespace Go.Proofs.YtnepinkookbanaaDoor.Pure
open Go.RowKit Go.Proofs.YtnepinkookbanaaDoor.X Go.Proofs.YtnepinkookbanaaDoorW.PrintWords Go.Proofs.YtnepinkookbanaaDoorW.PrintLast Go.Proofs.YtnepinkookbanaaDoor.Lib

theorem LabelTexts : ∀ (a0_0 : Int) (a0_1 : Int) (a0_2 : Int) (a0_3 : Int) (a1 : Int) (a2 : Int), (Lit.int .i64 a0_0).wf = true → (Lit.int .i64 a0_1).wf = true → (Lit.int .i64 a0_2).wf = true → (Lit.int .i64 a0_3).wf = true → (Lit.int .i64 a1).wf = true → (Lit.int .u8 a2).wf = true → donjonlaw4_LabelTexts.f a0_0 a0_1 a0_2 a0_3 a1 a2 = some true := by
  intro _ _ _ _ _ a2 _ _ _ _ _ h
  unfold donjonlaw4_LabelTexts.f
  rw [if_pos (wf_u8 h)]
end Go.Proofs.YtnepinkookbanaaDoor.Pure
