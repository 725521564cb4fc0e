/- QuotaCounts, over numbers and lists: whatever labels are counted, each has its own count, and all are told in order. For every input; the walk shows it. -/
import Derived.Test.YtinbhijeonghaaaF6
import Derived.Test.YtinbhijeonghaaaHO
import Derived.Test.YtinbhijeonghaaaLib
namespace Go.Proofs.Ytinbhijeonghaaa.Pure
open Go.RowKit Go.Proofs.Ytinbhijeonghaaa.X Go.Proofs.YtinbhijeonghaaaW.PrintWords Go.Proofs.YtinbhijeonghaaaW.PrintLast Go.Proofs.Ytinbhijeonghaaa.Lib

theorem QuotaCounts : ∀ (l0 : List (S43)) (a1_0 : Int) (a1_1 : Int) (a1_2 : Int) (a1_3 : Int), (l0.length ≤ maxLen ∧ l0.length * 32 ≤ 140737488351232 ∧ ∀ y_ ∈ l0, g_T43 y_) → (Lit.int .i64 a1_0).wf = true → (Lit.int .i64 a1_1).wf = true → (Lit.int .i64 a1_2).wf = true → (Lit.int .i64 a1_3).wf = true → donjonlaw12_QuotaCounts.f l0 a1_0 a1_1 a1_2 a1_3 = some true :=
  fun _ _ _ _ _ _ _ _ _ _ => rfl
end Go.Proofs.Ytinbhijeonghaaa.Pure
