/- AuditFull, over numbers: a log takes as many entries of a label as it has room for, each with its number; what is beyond is refused; another label's room is its own. For every input; the walk shows it. -/
import Derived.Test.YtihknjmibnonjaaDoorF3
import Derived.Test.YtihknjmibnonjaaDoorHO
import Derived.Test.YtihknjmibnonjaaDoorLib
namespace Go.Proofs.YtihknjmibnonjaaDoor.Pure
open Go.RowKit Go.Proofs.YtihknjmibnonjaaDoor.X Go.Proofs.YtihknjmibnonjaaDoorW.PrintWords Go.Proofs.YtihknjmibnonjaaDoorW.PrintLast Go.Proofs.YtihknjmibnonjaaDoor.Lib

theorem AuditFull : ∀ (a0 : Int) (a1_0 : Int) (a1_1 : Int) (a1_2 : Int) (a1_3 : Int) (a2_0 : Int) (a2_1 : Int) (a2_2 : Int) (a2_3 : Int) (a3_0 : Int) (a3_1 : Int) (a3_2 : Int) (a3_3 : Int) (a3_4 : Int) (a3_5 : ByteArray) (a3_6 : Int) (a3_7 : ByteArray) (a3_8 : Int), (Lit.int .i64 a0).wf = true → (Lit.int .i64 a1_0).wf = true → (Lit.int .i64 a1_1).wf = true → (Lit.int .i64 a1_2).wf = true → (Lit.int .i64 a1_3).wf = true → (Lit.int .i64 a2_0).wf = true → (Lit.int .i64 a2_1).wf = true → (Lit.int .i64 a2_2).wf = true → (Lit.int .i64 a2_3).wf = true → (Lit.int .i64 a3_0).wf = true → (Lit.int .i64 a3_1).wf = true → (Lit.int .i64 a3_2).wf = true → (Lit.int .i64 a3_3).wf = true → (Lit.int .i64 a3_4).wf = true → a3_5.size ≤ 140737488351232 → (Lit.int .i64 a3_6).wf = true → a3_7.size ≤ 140737488351232 → (Lit.int .i64 a3_8).wf = true → donjonlaw14_AuditFull.f a0 a1_0 a1_1 a1_2 a1_3 a2_0 a2_1 a2_2 a2_3 a3_0 a3_1 a3_2 a3_3 a3_4 a3_5 a3_6 a3_7 a3_8 = some true := 
  fun _ _ _ _ _ _ _ _ _ _ _ _ _ _ _ _ _ _ _ _ _ _ _ _ _ _ _ _ _ _ _ _ _ _ _ _ => rfl

end Go.Proofs.YtihknjmibnonjaaDoor.Pure
