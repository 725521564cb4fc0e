/- IsaTurns, over numbers: a text of an instruction with a blank more, or a byte turned, is another one's, or none. For every input; the walk shows it. -/
import Derived.Test.YtnepinkookbanaaDoorF13
import Derived.Test.YtnepinkookbanaaDoorHO
import Derived.Test.YtnepinkookbanaaDoorLib
namespace Go.Proofs.YtnepinkookbanaaDoor.Pure
open Go.RowKit Go.Proofs.YtnepinkookbanaaDoor.X Go.Proofs.YtnepinkookbanaaDoorW.PrintWords Go.Proofs.YtnepinkookbanaaDoorW.PrintLast Go.Proofs.YtnepinkookbanaaDoor.Lib

theorem IsaTurns : ∀ (a0_0 : Int) (a0_1 : Int) (a0_2 : Int) (a1 : Int) (a2 : Int), (Lit.int .i64 a0_0).wf = true → (Lit.int .i64 a0_1).wf = true → (Lit.int .i64 a0_2).wf = true → (Lit.int .i64 a1).wf = true → (Lit.int .u8 a2).wf = true → donjonlaw15_IsaTurns.f a0_0 a0_1 a0_2 a1 a2 = some true := by
  intro a0_0 a0_1 a0_2 a1 a2 _ _ _ _ h
  unfold donjonlaw15_IsaTurns.f
  rw [if_pos (wf_u8 h)]
end Go.Proofs.YtnepinkookbanaaDoor.Pure
