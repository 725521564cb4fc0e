/- AuditBounds, over numbers and lists: an entry at its bounds is taken, one beyond is refused, and the log is as it was. For every input; the walk shows it. -/
import Derived.Test.YtihknjmibnonjaaDoorF6
import Derived.Test.YtihknjmibnonjaaDoorHO
import Derived.Test.YtihknjmibnonjaaDoorLib
namespace Go.Proofs.YtihknjmibnonjaaDoor.Pure
open Go.RowKit Go.Proofs.YtihknjmibnonjaaDoor.X Go.Proofs.YtihknjmibnonjaaDoorW.PrintWords Go.Proofs.YtihknjmibnonjaaDoorW.PrintLast Go.Proofs.YtihknjmibnonjaaDoor.Lib

theorem AuditBounds : ∀ (a0 : Int) (a1 : Int), (Lit.int .i64 a0).wf = true → (Lit.int .i64 a1).wf = true → donjonlaw14_AuditBounds.f a0 a1 = some true := 
  fun _ _ _ _ => rfl

end Go.Proofs.YtihknjmibnonjaaDoor.Pure
