/- AuditPlays, over numbers and lists: whatever entries come, the log and the document's row tell the same of each label, and each entry's text is the document's. For every input; the walk shows it. -/
import Derived.Test.YtihknjmibnonjaaDoorF7
import Derived.Test.YtihknjmibnonjaaDoorHO
import Derived.Test.YtihknjmibnonjaaDoorLib
namespace Go.Proofs.YtihknjmibnonjaaDoor.Pure
open Go.RowKit Go.Proofs.YtihknjmibnonjaaDoor.X Go.Proofs.YtihknjmibnonjaaDoorW.PrintWords Go.Proofs.YtihknjmibnonjaaDoorW.PrintLast Go.Proofs.YtihknjmibnonjaaDoor.Lib

theorem AuditPlays : ∀ (l0 : List (S26)) (l1 : List (S23)), (l0.length ≤ maxLen ∧ l0.length * 88 ≤ 140737488351232 ∧ ∀ y_ ∈ l0, g_T26 y_) → (l1.length ≤ maxLen ∧ l1.length * 32 ≤ 140737488351232 ∧ ∀ y_ ∈ l1, g_T23 y_) → donjonlaw14_AuditPlays.f l0 l1 = some true := by
  intro l0 l1 h _
  unfold donjonlaw14_AuditPlays.f
  refine if_pos (fun e he => ?_)
  obtain ⟨h0, _, h2, _, h4, _⟩ := h.2.2 e he
  exact ⟨wf_i64 h0, by omega⟩
end Go.Proofs.YtihknjmibnonjaaDoor.Pure
