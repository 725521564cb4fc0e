/- HashSalts, over numbers and lists: a password's number is the chain from the salt's; unlike salts that differ in their last byte alone make unlike numbers of an empty word. For every input. -/
import Derived.Test.YtcjkekdmmjfgeaaF5
import Derived.Test.YtcjkekdmmjfgeaaPHashOf
namespace Go.Proofs.Ytcjkekdmmjfgeaa.Pure
open Go.RowKit Go.Proofs.Ytcjkekdmmjfgeaa.X Go.Proofs.YtcjkekdmmjfgeaaW.PrintWords Go.Proofs.YtcjkekdmmjfgeaaW.PrintLast Go.Proofs.Ytcjkekdmmjfgeaa.Lib

theorem bytesOf_one (s : ByteArray) (c : UInt8) : bytesOf (s ++ (⟨#[c]⟩ : ByteArray)) = bytesOf s ++ [(c.toNat : Int)] := by
  unfold bytesOf
  simp
theorem bytesOf_range (s : ByteArray) : ∀ x ∈ bytesOf s, 0 ≤ x ∧ x < 256 := by
  intro x hx
  unfold bytesOf at hx
  obtain ⟨b, _, rfl⟩ := List.mem_map.1 hx
  have := b.toNat_lt
  omega
/-- A salt of which the last byte was turned. -/
theorem xor_wrap (a b : Int) (hb0 : 0 ≤ b) (hb : b < 256) : Go.bits .xor .i64 a b % 18446744073709551616 = (((a % 18446744073709551616).toNat ^^^ b.toNat : Nat) : Int) := by
  have hx : (a % 18446744073709551616).toNat ^^^ b.toNat < 2 ^ 64 := Nat.xor_lt_two_pow (by omega) (by omega)
  show IntKind.i64.wrap ((BitVec.ofInt 64 a ^^^ BitVec.ofInt 64 b).toNat : Int) % _ = _
  rw [BitVec.toNat_xor, ofInt64_mod a, ofInt64_toNat hb0 (by omega), Go.IntKind.wrap_i64]
  omega
theorem saltB_8 (a : Int) : saltB a 8 = saltB a 7 ++ [a % 18446744073709551616 % 256] := by
  rw [saltB_succ a 7]
  simp
theorem saltB_turned (a b : Int) (hb0 : 0 ≤ b) (hb : b < 256) : saltB (Go.bits .xor .i64 a b) 7 = saltB a 7 := by
  unfold saltB
  refine List.map_congr_left fun i hi => ?_
  have hi7 : i < 7 := by simpa using hi
  rw [xor_wrap a b hb0 hb]
  congr 1
  have hU : a % 18446744073709551616 = (((a % 18446744073709551616).toNat : Nat) : Int) := by omega
  generalize (a % 18446744073709551616).toNat = U at hU
  rw [hU]
  have hsmall : b.toNat / 2 ^ (56 - 8 * i) = 0 := by
    refine Nat.div_eq_of_lt ?_
    have : 2 ^ 8 ≤ 2 ^ (56 - 8 * i) := Nat.pow_le_pow_right (by decide) (by omega)
    omega
  have h := Nat.xor_div_two_pow (n := 56 - 8 * i) (a := U) (b := b.toNat)
  rw [hsmall, Nat.xor_zero] at h
  have c : ((2 : Int) ^ (56 - 8 * i)) = ((2 ^ (56 - 8 * i) : Nat) : Int) := by simp
  rw [c, ← Int.natCast_ediv, ← Int.natCast_ediv, h]
theorem low_turned (a b : Int) (hb0 : 0 ≤ b) (hb : b < 256) (hne : b ≠ 0) : Go.bits .xor .i64 a b % 18446744073709551616 % 256 ≠ a % 18446744073709551616 % 256 := by
  rw [xor_wrap a b hb0 hb]
  have h : ((a % 18446744073709551616).toNat ^^^ b.toNat) % 2 ^ 8 = (a % 18446744073709551616).toNat % 2 ^ 8 ^^^ b.toNat % 2 ^ 8 := Nat.xor_mod_two_pow
  have hbm : b.toNat % 2 ^ 8 = b.toNat := Nat.mod_eq_of_lt (by omega)
  rw [hbm] at h
  have hn : (a % 18446744073709551616).toNat % 2 ^ 8 ^^^ b.toNat ≠ (a % 18446744073709551616).toNat % 2 ^ 8 := nat_xor_ne (by omega)
  omega
theorem ofV_empty (a : Int) : ofV a (⟨#[]⟩ : ByteArray) = hstep (chain 14695981039346656037 (saltB a 7)) (a % 18446744073709551616 % 256) := by
  unfold ofV
  have e : bytesOf (⟨#[]⟩ : ByteArray) = [] := rfl
  rw [e, List.append_nil, saltB_8, chain_snoc]
theorem ofV_turned (a b : Int) (hb0 : 0 ≤ b) (hb : b < 256) (hne : b ≠ 0) : ofV (Go.bits .xor .i64 a b) (⟨#[]⟩ : ByteArray) ≠ ofV a (⟨#[]⟩ : ByteArray) := by
  rw [ofV_empty, ofV_empty, saltB_turned a b hb0 hb]
  intro e
  have hc := chain_range (h := 14695981039346656037) (by decide) (by decide) (saltB a 7)
  exact low_turned a b hb0 hb hne (hstep_inj hc.1 hc.2 (by omega) (by omega) (by omega) (by omega) e)
theorem ofV_ab (a : Int) (s : ByteArray) : ofV a (s ++ (⟨#[97]⟩ : ByteArray)) ≠ ofV a (s ++ (⟨#[98]⟩ : ByteArray)) := by
  unfold ofV
  rw [bytesOf_one, bytesOf_one, ← List.append_assoc, ← List.append_assoc, chain_snoc, chain_snoc]
  intro e
  have hc := chain_range (h := 14695981039346656037) (by decide) (by decide) (saltB a 8 ++ bytesOf s)
  have := hstep_inj hc.1 hc.2 (by decide) (by decide) (by decide) (by decide) e
  exact absurd this (by decide)

theorem HashSalts : ∀ (a0 : Int) (a1 : Int) (a2 : ByteArray), (Lit.int .i64 a0).wf = true → (Lit.int .u8 a1).wf = true → a2.size ≤ 140737488351232 → ∃ k, donjonlaw8_HashSalts.f k a0 a1 a2 = some true := by
  intro a b s _ hb hs
  have hb' := wf_u8 hb
  obtain ⟨K, hK⟩ : ∃ K : Nat, s.size + 30 < K := ⟨_, Nat.lt_succ_self _⟩
  refine ⟨K, ?_⟩
  have z0 : (⟨#[]⟩ : ByteArray).size = 0 := rfl
  have z1 : (s ++ (⟨#[97]⟩ : ByteArray)).size = s.size + 1 := by rw [ByteArray.size_append]; rfl
  have z2 : (s ++ (⟨#[98]⟩ : ByteArray)).size = s.size + 1 := by rw [ByteArray.size_append]; rfl
  unfold donjonlaw8_HashSalts.f donjonlaw8_known.f
  rw [Option.bind_some, if_pos rfl]
  by_cases hg : (s.size : Int) > 1000
  · rw [if_pos hg]
  rw [if_neg hg, of_f a _ (by omega) K (by omega), Option.bind_some, of_f a s (by omega) K (by omega), Option.bind_some, if_pos (by omega), chain_f _ (by rw [bytesOf_length]; omega) K (by rw [bytesOf_length]; omega), Option.bind_some]
  have e1 : ofV a s = chain (ofV a (⟨#[]⟩ : ByteArray)) (bytesOf s) := by
    unfold ofV
    have e : bytesOf (⟨#[]⟩ : ByteArray) = [] := rfl
    rw [e, List.append_nil, chain_append]
  have e2 : (ofV a (s ++ (⟨#[97]⟩ : ByteArray)) != ofV a (s ++ (⟨#[98]⟩ : ByteArray))) = true := by simpa using ofV_ab a s
  rw [if_pos e1]
  by_cases hz : b = 0
  · rw [if_pos hz, if_pos (by omega), of_f a _ (by omega) K (by omega), Option.bind_some, of_f a _ (by omega) K (by omega), Option.bind_some, e2]
  · rw [if_neg hz, wrap64_id (by omega) (by omega), of_f _ _ (by omega) K (by omega), Option.bind_some, if_neg (ofV_turned a b hb'.1 hb'.2 hz), if_pos (by omega), of_f a _ (by omega) K (by omega), Option.bind_some, of_f a _ (by omega) K (by omega), Option.bind_some, e2]
end Go.Proofs.Ytcjkekdmmjfgeaa.Pure
