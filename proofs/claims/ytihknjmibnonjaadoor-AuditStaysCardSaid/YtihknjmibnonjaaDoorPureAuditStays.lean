/- AuditStays, over numbers and lists: what a log has told stands: later rows begin with the earlier ones, and who looks sees what was seen, in its order. For every input; the walk shows it. -/
import Derived.Test.YtihknjmibnonjaaDoorF5
import Derived.Test.YtihknjmibnonjaaDoorHO
import Derived.Test.YtihknjmibnonjaaDoorLib
namespace Go.Proofs.YtihknjmibnonjaaDoor.Pure
open Go.RowKit Go.Proofs.YtihknjmibnonjaaDoor.X Go.Proofs.YtihknjmibnonjaaDoorW.PrintWords Go.Proofs.YtihknjmibnonjaaDoorW.PrintLast Go.Proofs.YtihknjmibnonjaaDoor.Lib

theorem AuditStays : ∀ (l0 : List (S26)) (l1 : List (S26)) (a2_0 : Int) (a2_1 : Int) (a2_2 : Int) (a2_3 : Int), (l0.length ≤ maxLen ∧ l0.length * 88 ≤ 140737488351232 ∧ ∀ y_ ∈ l0, g_T26 y_) → (l1.length ≤ maxLen ∧ l1.length * 88 ≤ 140737488351232 ∧ ∀ y_ ∈ l1, g_T26 y_) → (Lit.int .i64 a2_0).wf = true → (Lit.int .i64 a2_1).wf = true → (Lit.int .i64 a2_2).wf = true → (Lit.int .i64 a2_3).wf = true → donjonlaw14_AuditStays.f l0 l1 a2_0 a2_1 a2_2 a2_3 = some true := 
  fun _ _ _ _ _ _ _ _ _ _ _ _ => rfl

end Go.Proofs.YtihknjmibnonjaaDoor.Pure
