/- UserWrong, over numbers and lists: a word of which the last byte was turned, lets nobody in, nor does any word under a name that nobody has. For every input; the walk shows it. -/
import Derived.Test.YtcjkekdmmjfgeaaF10
import Derived.Test.YtcjkekdmmjfgeaaHO
import Derived.Test.YtcjkekdmmjfgeaaLib
namespace Go.Proofs.Ytcjkekdmmjfgeaa.Pure
open Go.RowKit Go.Proofs.Ytcjkekdmmjfgeaa.X Go.Proofs.YtcjkekdmmjfgeaaW.PrintWords Go.Proofs.YtcjkekdmmjfgeaaW.PrintLast Go.Proofs.Ytcjkekdmmjfgeaa.Lib

theorem UserWrong : ∀ (l0 : List (S54)) (a1 : Int) (a2 : Int), (l0.length ≤ maxLen ∧ l0.length * 32 ≤ 140737488351232 ∧ ∀ y_ ∈ l0, g_T54 y_) → (Lit.int .i64 a1).wf = true → (Lit.int .u8 a2).wf = true → donjonlaw9_UserWrong.f l0 a1 a2 = some true := by
  intro _ _ a2 _ _ h
  unfold donjonlaw9_UserWrong.f
  rw [if_pos (wf_u8 h)]
end Go.Proofs.Ytcjkekdmmjfgeaa.Pure
