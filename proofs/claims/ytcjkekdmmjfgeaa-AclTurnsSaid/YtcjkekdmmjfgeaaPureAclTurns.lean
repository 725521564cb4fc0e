/- AclTurns, over numbers and lists: a list of which one grant was turned so that it may not be is refused. For every input. -/
import Derived.Test.YtcjkekdmmjfgeaaF14
import Derived.Test.YtcjkekdmmjfgeaaBits
namespace Go.Proofs.Ytcjkekdmmjfgeaa.Pure
open Go.RowKit Go.Proofs.Ytcjkekdmmjfgeaa.X Go.Proofs.YtcjkekdmmjfgeaaW.PrintWords Go.Proofs.YtcjkekdmmjfgeaaW.PrintLast Go.Proofs.Ytcjkekdmmjfgeaa.Lib

theorem turns_known : donjonlaw5_known.f = some true := by decide +kernel
set_option maxRecDepth 100000 in
theorem turns_n (n a1 a2 : Int) (hn : n = 1 ∨ n = 2 ∨ n = 3 ∨ n = 4) : donjonlaw5_AclTurns.l0 20 n a1 a2 [] 0 = some true := by
  obtain ⟨r1, e1, h1, h2, _⟩ := within_small (a := a1) (n := n) (by omega) (by omega)
  obtain ⟨r2, e2, h3, h4, _⟩ := within_small (a := a2) (n := 5) (by omega) (by omega)
  have g1 : donjonlaw5_within.f a1 n = some r1 := e1
  have g2 : donjonlaw5_within.f a2 5 = some r2 := e2
  clear e1 e2
  have hr2 : r2 = 0 ∨ r2 = 1 ∨ r2 = 2 ∨ r2 = 3 ∨ r2 = 4 := by omega
  rcases hn with rfl | rfl | rfl | rfl
  · have hr1 : r1 = 0 := by omega
    repeat rw [donjonlaw5_AclTurns.l0, if_pos (by decide +kernel), if_pos (by decide +kernel)]
    rw [donjonlaw5_AclTurns.l0, if_neg (by decide +kernel), g1, g2]
    subst hr1
    rcases hr2 with rfl | rfl | rfl | rfl | rfl <;> decide +kernel
  · have hr1 : r1 = 0 ∨ r1 = 1 := by omega
    repeat rw [donjonlaw5_AclTurns.l0, if_pos (by decide +kernel), if_pos (by decide +kernel)]
    rw [donjonlaw5_AclTurns.l0, if_neg (by decide +kernel), g1, g2]
    rcases hr1 with rfl | rfl <;> rcases hr2 with rfl | rfl | rfl | rfl | rfl <;> decide +kernel
  · have hr1 : r1 = 0 ∨ r1 = 1 ∨ r1 = 2 := by omega
    repeat rw [donjonlaw5_AclTurns.l0, if_pos (by decide +kernel), if_pos (by decide +kernel)]
    rw [donjonlaw5_AclTurns.l0, if_neg (by decide +kernel), g1, g2]
    rcases hr1 with rfl | rfl | rfl <;> rcases hr2 with rfl | rfl | rfl | rfl | rfl <;> decide +kernel
  · have hr1 : r1 = 0 ∨ r1 = 1 ∨ r1 = 2 ∨ r1 = 3 := by omega
    repeat rw [donjonlaw5_AclTurns.l0, if_pos (by decide +kernel), if_pos (by decide +kernel)]
    rw [donjonlaw5_AclTurns.l0, if_neg (by decide +kernel), g1, g2]
    rcases hr1 with rfl | rfl | rfl | rfl <;> rcases hr2 with rfl | rfl | rfl | rfl | rfl <;> decide +kernel

theorem AclTurns : ∀ (a0 : Int) (a1 : Int) (a2 : Int), (Lit.int .i64 a0).wf = true → (Lit.int .i64 a1).wf = true → (Lit.int .i64 a2).wf = true → ∃ k, donjonlaw5_AclTurns.f k a0 a1 a2 = some true := by
  intro a0 a1 a2 _ _ _
  refine ⟨20, ?_⟩
  unfold donjonlaw5_AclTurns.f
  rw [turns_known, Option.bind_some, if_pos rfl]
  obtain ⟨r0, e0, h1, h2, _⟩ := within_small (a := a0) (n := 4) (by omega) (by omega)
  have g0 : donjonlaw5_within.f a0 4 = some r0 := e0
  rw [g0, Option.bind_some, wrap64_id (by omega) (by omega)]
  exact turns_n _ a1 a2 (by omega)
end Go.Proofs.Ytcjkekdmmjfgeaa.Pure
