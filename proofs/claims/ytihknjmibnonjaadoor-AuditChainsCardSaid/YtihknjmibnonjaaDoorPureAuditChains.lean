/- AuditChains, over numbers and lists: each label's chain in the log is the one that the document reckons, entry by entry. For every input; the walk shows it. -/
import Derived.Test.YtihknjmibnonjaaDoorF4
import Derived.Test.YtihknjmibnonjaaDoorHO
import Derived.Test.YtihknjmibnonjaaDoorLib
namespace Go.Proofs.YtihknjmibnonjaaDoor.Pure
open Go.RowKit Go.Proofs.YtihknjmibnonjaaDoor.X Go.Proofs.YtihknjmibnonjaaDoorW.PrintWords Go.Proofs.YtihknjmibnonjaaDoorW.PrintLast Go.Proofs.YtihknjmibnonjaaDoor.Lib

theorem AuditChains : ∀ (l0 : List (S26)) (a1_0 : Int) (a1_1 : Int) (a1_2 : Int) (a1_3 : Int), (l0.length ≤ maxLen ∧ l0.length * 88 ≤ 140737488351232 ∧ ∀ y_ ∈ l0, g_T26 y_) → (Lit.int .i64 a1_0).wf = true → (Lit.int .i64 a1_1).wf = true → (Lit.int .i64 a1_2).wf = true → (Lit.int .i64 a1_3).wf = true → donjonlaw14_AuditChains.f l0 a1_0 a1_1 a1_2 a1_3 = some true := 
  fun _ _ _ _ _ _ _ _ _ _ => rfl

end Go.Proofs.YtihknjmibnonjaaDoor.Pure
