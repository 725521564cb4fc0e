/- What a password comes to, in plain numbers: the program's and the document's. -/
import Derived.Test.YtcjkekdmmjfgeaaF17
import Derived.Test.YtcjkekdmmjfgeaaF18
import Derived.Test.YtcjkekdmmjfgeaaPHash
namespace Go.Proofs.Ytcjkekdmmjfgeaa.Pure
open Go.RowKit Go.Proofs.Ytcjkekdmmjfgeaa.X Go.Proofs.YtcjkekdmmjfgeaaW.PrintWords Go.Proofs.YtcjkekdmmjfgeaaW.PrintLast Go.Proofs.Ytcjkekdmmjfgeaa.Lib

/-- The first n of a salt's eight bytes, the highest first. -/
def saltB (a : Int) (n : Nat) : List Int := (List.range n).map fun i => a % 18446744073709551616 / 2 ^ (56 - 8 * i) % 256
theorem saltB_succ (a : Int) (n : Nat) : saltB a (n + 1) = saltB a n ++ [a % 18446744073709551616 / 2 ^ (56 - 8 * n) % 256] := by
  unfold saltB
  rw [List.range_succ, List.map_append]
  rfl
theorem saltB_length (a : Int) (n : Nat) : (saltB a n).length = n := by simp [saltB]
/-- What a password comes to. -/
def ofV (a : Int) (s : ByteArray) : Int := chain 14695981039346656037 (saltB a 8 ++ bytesOf s)
theorem shr_u64 (x : Int) (c : Int) (h1 : c ≤ 64) : shr .u64 x c = x / 2 ^ c.toNat := by
  unfold shr
  have : IntKind.u64.bits = 64 := rfl
  rw [this]
  congr 2
  omega
theorem of_l0 (a : Int) (s : ByteArray) (hs : s.size ≤ 140737488355000) (m : Nat) : ∀ (n k : Nat), n + m = 8 → m + 9 + s.size < k → hash_Of.l0 k a s (saltB a n) (n : Int) = some (ofV a s) := by
  induction m with
  | zero =>
    intro n k hn hk
    obtain ⟨k, rfl⟩ : ∃ m, k = m + 1 := ⟨k - 1, by omega⟩
    obtain rfl : n = 8 := by omega
    rw [hash_Of.l0]
    rw [if_neg (by decide), if_pos (by rw [saltB_length]; omega), chain_f _ (by rw [List.length_append, saltB_length, bytesOf_length]; omega) _ (by rw [List.length_append, saltB_length, bytesOf_length]; omega), Option.bind_some]
    rfl
  | succ m ih =>
    intro n k hn hk
    obtain ⟨k, rfl⟩ : ∃ m, k = m + 1 := ⟨k - 1, by omega⟩
    rw [hash_Of.l0]
    rw [if_pos (by omega), wrap64_id (n := 8 * (n : Int)) (by omega) (by omega), wrap64_id (n := 56 - 8 * (n : Int)) (by omega) (by omega), if_pos (by omega), if_pos (by rw [saltB_length]; omega), wrap64_id (n := (n : Int) + 1) (by omega) (by omega), shr_u64 _ _ (by omega), u64_wrap]
    have e : (56 - 8 * (n : Int)).toNat = 56 - 8 * n := by omega
    rw [e, ← saltB_succ]
    exact ih (n + 1) k (by omega) (by omega)
theorem of_f (a : Int) (s : ByteArray) (hs : s.size ≤ 140737488355000) (k : Nat) (hk : 17 + s.size < k) : hash_Of.f k a s = some (ofV a s) := by
  unfold hash_Of.f
  rw [wrap64_id (by omega) (by omega), if_pos (by omega), if_pos (by omega)]
  exact of_l0 a s hs 8 0 k (by omega) (by omega)
theorem ref_chain_l0 (xs : List Int) (hm : xs.length ≤ 9223372036854775807) (d : Nat) : ∀ (k : Nat) (h i : Int), 0 ≤ i → i ≤ xs.length → (xs.length : Int) - i = d → d < k →
    donjonref8_Chain.l0 k h xs i = some (chain h (xs.drop i.toNat)) := by
  induction d with
  | zero =>
    intro k h i h0 h1 hd hk
    obtain ⟨k, rfl⟩ : ∃ m, k = m + 1 := ⟨k - 1, by omega⟩
    rw [donjonref8_Chain.l0, if_neg (by omega), List.drop_of_length_le (by omega)]
    rfl
  | succ d ih =>
    intro k h i h0 h1 hd hk
    obtain ⟨k, rfl⟩ : ∃ m, k = m + 1 := ⟨k - 1, by omega⟩
    have hlt : i < (xs.length : Int) := by omega
    rw [donjonref8_Chain.l0]
    rw [if_pos hlt, if_pos h0, wrap64_id (by omega) (by omega), drop_rd h0 hlt, ih k _ (i + 1) (by omega) (by omega) (by omega) (by omega)]
    rfl
theorem ref_chain_f (xs : List Int) (hm : xs.length ≤ 9223372036854775807) (k : Nat) (hk : xs.length < k) (h : Int) : donjonref8_Chain.f k h xs = some (chain h xs) := by
  unfold donjonref8_Chain.f
  rw [ref_chain_l0 xs hm xs.length k h 0 (by omega) (by omega) (by omega) hk]
  rfl
theorem ref_of_l0 (a : Int) (s : ByteArray) (hs : s.size ≤ 140737488355000) (m : Nat) : ∀ (n k : Nat), n + m = 8 → m + 9 + s.size < k → donjonref8_Of.l0 k a s (saltB a n) (7 - (n : Int)) = some (ofV a s) := by
  induction m with
  | zero =>
    intro n k hn hk
    obtain ⟨k, rfl⟩ : ∃ m, k = m + 1 := ⟨k - 1, by omega⟩
    obtain rfl : n = 8 := by omega
    rw [donjonref8_Of.l0]
    rw [if_neg (by decide), ref_chain_f _ (by rw [saltB_length]; omega) _ (by rw [saltB_length]; omega), Option.bind_some, if_pos (by omega), ref_chain_f _ (by rw [bytesOf_length]; omega) _ (by rw [bytesOf_length]; omega), Option.bind_some]
    unfold ofV
    rw [chain_append]
  | succ m ih =>
    intro n k hn hk
    obtain ⟨k, rfl⟩ : ∃ m, k = m + 1 := ⟨k - 1, by omega⟩
    rw [donjonref8_Of.l0]
    rw [if_pos (by omega), wrap64_id (n := 8 * (7 - (n : Int))) (by omega) (by omega), if_pos (by omega), if_pos (by rw [saltB_length]; omega), wrap64_id (n := 7 - (n : Int) - 1) (by omega) (by omega), shr_u64 _ _ (by omega), u64_wrap]
    have e : (8 * (7 - (n : Int))).toNat = 56 - 8 * n := by omega
    have e2 : 7 - (n : Int) - 1 = 7 - ((n + 1 : Nat) : Int) := by omega
    rw [e, ← saltB_succ, e2]
    exact ih (n + 1) k (by omega) (by omega)
theorem ref_of_f (a : Int) (s : ByteArray) (hs : s.size ≤ 140737488355000) (k : Nat) (hk : 17 + s.size < k) : donjonref8_Of.f k a s = some (ofV a s) := by
  unfold donjonref8_Of.f
  exact ref_of_l0 a s hs 8 0 k (by omega) (by omega)
theorem ofV_range (a : Int) (s : ByteArray) : 0 ≤ ofV a s ∧ ofV a s < 18446744073709551616 := chain_range (by decide) (by decide) _
end Go.Proofs.Ytcjkekdmmjfgeaa.Pure
