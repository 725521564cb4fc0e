/- AclFull, over numbers and lists: a list has MaxAcl grants at most; who has one may be set anew, and one who goes makes room. For every input. -/
import Derived.Test.YtinbhijeonghaaaF4
import Derived.Test.YtinbhijeonghaaaBits
import Derived.Test.YtinbhijeonghaaaHO
namespace Go.Proofs.Ytinbhijeonghaaa.Pure
open Go.RowKit Go.Proofs.Ytinbhijeonghaaa.X Go.Proofs.YtinbhijeonghaaaW.PrintWords Go.Proofs.YtinbhijeonghaaaW.PrintLast Go.Proofs.Ytinbhijeonghaaa.Lib

theorem full_all : ∀ n m : Fin 7, donjonlaw5_AclFull.l0 20 ((n.val : Nat) : Int) (wrap64 (1 + ((m.val : Nat) : Int))) ([] : List S31) 0 = some true := by decide +kernel
theorem AclFull : ∀ (a0 : Int) (a1 : Int), (Lit.int .i64 a0).wf = true → (Lit.int .i64 a1).wf = true → ∃ k, donjonlaw5_AclFull.f k a0 a1 = some true := by
  intro a0 a1 _ _
  obtain ⟨t, et, t0, t1, _⟩ := within_small (a := a0) (n := 7) (by omega) (by omega)
  obtain ⟨s, es, s0, s1, _⟩ := within_small (a := a1) (n := 7) (by omega) (by omega)
  refine ⟨20, ?_⟩
  unfold donjonlaw5_AclFull.f
  rw [show donjonlaw5_known.f = some true by decide +kernel, Option.bind_some, if_pos rfl, show donjonlaw5_within.f a0 7 = some t from et, Option.bind_some, show donjonlaw5_within.f a1 7 = some s from es, Option.bind_some]
  have h := full_all ⟨t.toNat, by omega⟩ ⟨s.toNat, by omega⟩
  simp only at h
  rw [show ((t.toNat : Nat) : Int) = t by omega, show ((s.toNat : Nat) : Int) = s by omega] at h
  exact h
end Go.Proofs.Ytinbhijeonghaaa.Pure
