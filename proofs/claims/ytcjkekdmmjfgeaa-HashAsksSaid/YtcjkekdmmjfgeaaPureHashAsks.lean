/- HashAsks, over numbers and lists: of any salt and word, of any bytes behind any number, the document's number. For every input. -/
import Derived.Test.YtcjkekdmmjfgeaaF4
import Derived.Test.YtcjkekdmmjfgeaaPHashOf
namespace Go.Proofs.Ytcjkekdmmjfgeaa.Pure
open Go.RowKit Go.Proofs.Ytcjkekdmmjfgeaa.X Go.Proofs.YtcjkekdmmjfgeaaW.PrintWords Go.Proofs.YtcjkekdmmjfgeaaW.PrintLast Go.Proofs.Ytcjkekdmmjfgeaa.Lib

theorem HashAsks : ∀ (a0 : Int) (a1 : ByteArray) (a2 : Int) (l3 : List Int), (Lit.int .i64 a0).wf = true → a1.size ≤ 140737488351232 → (Lit.int .u64 a2).wf = true → (l3.length ≤ maxLen ∧ l3.length * 1 ≤ 140737488351232 ∧ ∀ x ∈ l3, (Lit.int .u8 x).wf = true) → ∃ k, donjonlaw8_HashAsks.f k a0 a1 a2 l3 = some true := by
  intro a s h l _ hs _ ⟨_, hl, _⟩
  obtain ⟨K, hK⟩ : ∃ K : Nat, l.length + s.size + 20 < K := ⟨_, Nat.lt_succ_self _⟩
  refine ⟨K, ?_⟩
  unfold donjonlaw8_HashAsks.f donjonlaw8_known.f
  rw [Option.bind_some, if_pos rfl, wrap64_id (by omega) (by omega)]
  by_cases hg : (s.size : Int) + (l.length : Int) > 5000
  · rw [if_pos hg]
  rw [if_neg hg, of_f a s (by omega) K (by omega), Option.bind_some, ref_of_f a s (by omega) K (by omega), Option.bind_some, if_pos rfl, chain_f l (by omega) K (by omega), Option.bind_some, ref_chain_f l (by omega) K (by omega), Option.bind_some]
  simp
end Go.Proofs.Ytcjkekdmmjfgeaa.Pure
