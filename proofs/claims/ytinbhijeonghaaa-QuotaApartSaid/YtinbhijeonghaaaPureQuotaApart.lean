/- QuotaApart, over numbers: what is counted at one label changes no other one's count; two counts do not see one another. For every input; the walk shows it. -/
import Derived.Test.YtinbhijeonghaaaF7
import Derived.Test.YtinbhijeonghaaaHO
import Derived.Test.YtinbhijeonghaaaLib
namespace Go.Proofs.Ytinbhijeonghaaa.Pure
open Go.RowKit Go.Proofs.Ytinbhijeonghaaa.X Go.Proofs.YtinbhijeonghaaaW.PrintWords Go.Proofs.YtinbhijeonghaaaW.PrintLast Go.Proofs.Ytinbhijeonghaaa.Lib

theorem QuotaApart : ∀ (a0_0 : Int) (a0_1 : Int) (a0_2 : Int) (a0_3 : Int) (a1_0 : Int) (a1_1 : Int) (a1_2 : Int) (a1_3 : Int) (a2 : Int) (a3 : Int), (Lit.int .i64 a0_0).wf = true → (Lit.int .i64 a0_1).wf = true → (Lit.int .i64 a0_2).wf = true → (Lit.int .i64 a0_3).wf = true → (Lit.int .i64 a1_0).wf = true → (Lit.int .i64 a1_1).wf = true → (Lit.int .i64 a1_2).wf = true → (Lit.int .i64 a1_3).wf = true → (Lit.int .i64 a2).wf = true → (Lit.int .i64 a3).wf = true → donjonlaw12_QuotaApart.f a0_0 a0_1 a0_2 a0_3 a1_0 a1_1 a1_2 a1_3 a2 a3 = some true :=
  fun _ _ _ _ _ _ _ _ _ _ _ _ _ _ _ _ _ _ _ _ => rfl
end Go.Proofs.Ytinbhijeonghaaa.Pure
