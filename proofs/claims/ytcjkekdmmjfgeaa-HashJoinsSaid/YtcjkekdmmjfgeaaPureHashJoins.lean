/- HashJoins, over numbers and lists: the chain of two rows, one behind the other, is that of both; rows that differ in their last byte alone differ. For every input; no condition beyond the statement's own. -/
import Derived.Test.YtcjkekdmmjfgeaaF3
import Derived.Test.YtcjkekdmmjfgeaaPHash
namespace Go.Proofs.Ytcjkekdmmjfgeaa.Pure
open Go.RowKit Go.Proofs.Ytcjkekdmmjfgeaa.X Go.Proofs.YtcjkekdmmjfgeaaW.PrintWords Go.Proofs.YtcjkekdmmjfgeaaW.PrintLast Go.Proofs.Ytcjkekdmmjfgeaa.Lib

theorem last_turned {h by_ : Int} {xs : List Int} (h0 : 0 ≤ h) (h1 : h < 18446744073709551616) (hne : xs.length ≠ 0) (hx : ∀ x ∈ xs, 0 ≤ x ∧ x < 256) (hb0 : 0 ≤ by_) (hb : by_ < 256) (hb1 : by_ ≠ 0) :
    chain h (xs.set (xs.length - 1) (Go.bits .xor .u8 (rd xs ((xs.length : Int) - 1)) by_)) ≠ chain h xs := by
  obtain ⟨ys, y, rfl⟩ : ∃ ys y, xs = ys ++ [y] := by
    rcases List.eq_nil_or_concat xs with rfl | ⟨ys, y, rfl⟩
    · exact absurd rfl hne
    · exact ⟨ys, y, by simp⟩
  have hr : rd (ys ++ [y]) (((ys ++ [y]).length : Int) - 1) = y := by
    have := @rd_getElem (ys ++ [y]) ys.length (by simp)
    have e : ((ys ++ [y]).length : Int) - 1 = (ys.length : Int) := by simp
    rw [e, this]
    simp
  have hy := hx y (by simp)
  rw [hr, xor_u8 hy.1 hy.2 hb0 hb]
  have hs : (ys ++ [y]).set ((ys ++ [y]).length - 1) (((y.toNat ^^^ by_.toNat : Nat) : Int)) = ys ++ [((y.toNat ^^^ by_.toNat : Nat) : Int)] := by
    simp
  rw [hs, chain_snoc, chain_snoc]
  intro e
  have hl : y.toNat ^^^ by_.toNat < 2 ^ 8 := Nat.xor_lt_two_pow (by omega) (by omega)
  have hc := chain_range h0 h1 ys
  have := hstep_inj hc.1 hc.2 (by omega) (by omega) hy.1 hy.2 e
  have h3 : y.toNat ^^^ by_.toNat = y.toNat := by omega
  exact nat_xor_ne (by omega) h3

theorem HashJoins : ∀ (a0 : Int) (l1 : List Int) (l2 : List Int) (a3 : Int), (Lit.int .u64 a0).wf = true → (l1.length ≤ maxLen ∧ l1.length * 1 ≤ 140737488351232 ∧ ∀ x ∈ l1, (Lit.int .u8 x).wf = true) → (l2.length ≤ maxLen ∧ l2.length * 1 ≤ 140737488351232 ∧ ∀ x ∈ l2, (Lit.int .u8 x).wf = true) → (Lit.int .u8 a3).wf = true → ∃ k, donjonlaw8_HashJoins.f k a0 l1 l2 a3 = some true := by
  intro h l1 l2 b hh ⟨hm1, hz1, hw1⟩ ⟨hm2, hz2, hw2⟩ hb
  have hh' := wf_u64 hh
  have hb' := wf_u8 hb
  unfold maxLen at hm1 hm2
  obtain ⟨K, hK⟩ : ∃ K : Nat, l1.length + l2.length + 1 < K := ⟨_, Nat.lt_succ_self _⟩
  refine ⟨K + 2, ?_⟩
  unfold donjonlaw8_HashJoins.f
  unfold donjonlaw8_known.f
  rw [Option.bind_some, if_pos rfl, wrap64_id (by omega) (by omega)]
  by_cases hl : (l1.length : Int) + (l2.length : Int) > 5000
  · rw [if_pos hl]
  rw [if_neg hl, Option.bind_some, if_pos (by rw [List.length_nil]; omega), Option.bind_some, List.nil_append, if_pos (by omega), Option.bind_some]
  have hlen : (l1 ++ l2).length = l1.length + l2.length := List.length_append
  rw [chain_f l1 (by omega) _ (by omega), Option.bind_some, chain_f l2 (by omega) _ (by omega), Option.bind_some, chain_f (l1 ++ l2) (by omega) _ (by omega), Option.bind_some]
  rw [if_pos (chain_append h l1 l2).symm, chain_f [] (by simp) _ (by simp), Option.bind_some]
  have e0 : (chain h [] != h) = false := by simp [chain]
  rw [e0]
  rw [donjonlaw8_HashJoins.j0]
  rw [if_neg (by simp)]
  by_cases hn : ((l1 ++ l2).length : Int) = 0
  · rw [if_pos hn]
    rw [donjonlaw8_HashJoins.j1]
    simp
  rw [if_neg hn]
  by_cases hz : b = 0
  · subst hz
    rw [donjonlaw8_HashJoins.j1]
    simp
  have ez : (b == 0) = false := by simpa using hz
  rw [ez]
  rw [donjonlaw8_HashJoins.j1]
  rw [if_neg (by simp), chain_f (l1 ++ l2) (by omega) _ (by omega)]
  rw [Option.bind_some]
  rw [wrap64_id (by omega) (by omega), if_pos (by omega), if_pos (by omega), chain_f _ (by rw [List.length_set]; omega) _ (by rw [List.length_set]; omega)]
  rw [Option.bind_some]
  have e1 : (((l1 ++ l2).length : Int) - 1).toNat = (l1 ++ l2).length - 1 := by omega
  rw [e1]
  have := last_turned (xs := l1 ++ l2) hh'.1 hh'.2 (by omega) (fun x hx => by
    rcases List.mem_append.1 hx with hx | hx
    · exact wf_u8 (hw1 x hx)
    · exact wf_u8 (hw2 x hx)) hb'.1 hb'.2 hz
  simpa using this

end Go.Proofs.Ytcjkekdmmjfgeaa.Pure
