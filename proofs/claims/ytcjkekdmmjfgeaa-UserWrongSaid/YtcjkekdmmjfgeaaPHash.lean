/- The chain of a hash, in plain numbers. -/
import Derived.Test.YtcjkekdmmjfgeaaF16
import Derived.Test.YtcjkekdmmjfgeaaBits
namespace Go.Proofs.Ytcjkekdmmjfgeaa.Pure
open Go.RowKit Go.Proofs.Ytcjkekdmmjfgeaa.X Go.Proofs.YtcjkekdmmjfgeaaW.PrintWords Go.Proofs.YtcjkekdmmjfgeaaW.PrintLast Go.Proofs.Ytcjkekdmmjfgeaa.Lib

theorem chain_l0 (xs : List Int) (hm : xs.length ≤ 9223372036854775807) (d : Nat) : ∀ (k : Nat) (h i : Int), 0 ≤ i → i ≤ xs.length → (xs.length : Int) - i = d → d < k →
    hash_Chain.l0 k h xs (xs.length : Int) i = some (chain h (xs.drop i.toNat)) := by
  induction d with
  | zero =>
    intro k h i h0 h1 hd hk
    obtain ⟨k, rfl⟩ : ∃ m, k = m + 1 := ⟨k - 1, by omega⟩
    simp only [hash_Chain.l0]
    rw [if_neg (by omega), List.drop_of_length_le (by omega)]
    rfl
  | succ d ih =>
    intro k h i h0 h1 hd hk
    obtain ⟨k, rfl⟩ : ∃ m, k = m + 1 := ⟨k - 1, by omega⟩
    have hlt : i < (xs.length : Int) := by omega
    simp only [hash_Chain.l0]
    rw [if_pos hlt, if_pos h0, if_pos hlt, wrap64_id (by omega) (by omega), drop_rd h0 hlt, ih k _ (i + 1) (by omega) (by omega) (by omega) (by omega)]
    rfl
theorem chain_f (xs : List Int) (hm : xs.length ≤ 9223372036854775807) (k : Nat) (hk : xs.length < k) (h : Int) : hash_Chain.f k h xs = some (chain h xs) := by
  unfold hash_Chain.f
  rw [chain_l0 xs hm xs.length k h 0 (by omega) (by omega) (by omega) hk]
  rfl
theorem chain_snoc (h : Int) (xs : List Int) (x : Int) : chain h (xs ++ [x]) = hstep (chain h xs) x := by
  rw [chain_append]
  rfl
end Go.Proofs.Ytcjkekdmmjfgeaa.Pure
