/- Plain lemmas on the bits of whole numbers. -/
import Derived.Test.YtihknjmibnonjaaDoorLib
import Derived.Laws.BitsLemmas
namespace Go.Proofs.YtihknjmibnonjaaDoor.Lib
open Go.RowKit Go.Proofs.YtihknjmibnonjaaDoorW.PrintWords

theorem i64_wrap_id {n : Int} (h0 : -9223372036854775808 ≤ n) (h1 : n ≤ 9223372036854775807) : IntKind.i64.wrap n = n := by
  rw [Go.IntKind.wrap_i64]
  omega
theorem ofInt64_mod (x : Int) : (BitVec.ofInt 64 x).toNat = (x % 18446744073709551616).toNat := by
  rw [BitVec.toNat_ofInt]
  rfl
/-- Masking an int by 2^j - 1. -/
theorem and_i64_mask (x : Int) (j : Nat) (hj : j ≤ 62) : Go.bits .and .i64 x (2 ^ j - 1) = x % 2 ^ j := by
  have hp : (0 : Int) < 2 ^ j := Int.pow_pos (by decide)
  have hpn : 0 < 2 ^ j := Nat.two_pow_pos j
  have hle : 2 ^ j ≤ 2 ^ 62 := Nat.pow_le_pow_right (by decide) hj
  have hc : ((2 : Int) ^ j - 1) = ((2 ^ j - 1 : Nat) : Int) := by
    rw [Int.natCast_sub hpn]; simp
  have hm : (BitVec.ofInt 64 ((2 : Int) ^ j - 1)).toNat = 2 ^ j - 1 := by
    rw [hc, BitVec.ofInt_natCast, BitVec.toNat_ofNat]
    exact Nat.mod_eq_of_lt (by omega)
  show IntKind.i64.wrap ((BitVec.ofInt 64 x &&& BitVec.ofInt 64 (2 ^ j - 1)).toNat : Int) = _
  rw [BitVec.toNat_and, hm, Nat.and_two_pow_sub_one_eq_mod, ofInt64_mod]
  have hlt : (x % 18446744073709551616).toNat % 2 ^ j < 2 ^ j := Nat.mod_lt _ hpn
  rw [i64_wrap_id (by omega) (by omega)]
  have h0 : 0 ≤ x % 18446744073709551616 := Int.emod_nonneg _ (by decide)
  rw [Int.natCast_emod, Int.toNat_of_nonneg h0]
  have hd : ((2 ^ j : Nat) : Int) ∣ 18446744073709551616 := by
    refine ⟨((2 ^ (64 - j) : Nat) : Int), ?_⟩
    rw [← Int.natCast_mul, ← Nat.pow_add]
    have : j + (64 - j) = 64 := by omega
    rw [this]
    rfl
  rw [Int.emod_emod_of_dvd _ hd]
  simp
theorem and_u64_mask (x : Int) (j : Nat) (hj : j ≤ 62) : Go.bits .and .u64 x (2 ^ j - 1) = x % 2 ^ j := by
  have hpn : 0 < 2 ^ j := Nat.two_pow_pos j
  have hle : 2 ^ j ≤ 2 ^ 62 := Nat.pow_le_pow_right (by decide) hj
  have hc : ((2 : Int) ^ j - 1) = ((2 ^ j - 1 : Nat) : Int) := by
    rw [Int.natCast_sub hpn]; simp
  have hm : (BitVec.ofInt 64 ((2 : Int) ^ j - 1)).toNat = 2 ^ j - 1 := by
    rw [hc, BitVec.ofInt_natCast, BitVec.toNat_ofNat]
    exact Nat.mod_eq_of_lt (by omega)
  show IntKind.u64.wrap ((BitVec.ofInt 64 x &&& BitVec.ofInt 64 (2 ^ j - 1)).toNat : Int) = _
  rw [BitVec.toNat_and, hm, Nat.and_two_pow_sub_one_eq_mod, ofInt64_mod]
  have hlt : (x % 18446744073709551616).toNat % 2 ^ j < 2 ^ j := Nat.mod_lt _ hpn
  rw [u64_wrap, Int.emod_eq_of_lt (by omega) (by omega)]
  have h0 : 0 ≤ x % 18446744073709551616 := Int.emod_nonneg _ (by decide)
  rw [Int.natCast_emod, Int.toNat_of_nonneg h0]
  have hd : ((2 ^ j : Nat) : Int) ∣ 18446744073709551616 := by
    refine ⟨((2 ^ (64 - j) : Nat) : Int), ?_⟩
    rw [← Int.natCast_mul, ← Nat.pow_add]
    have : j + (64 - j) = 64 := by omega
    rw [this]
    rfl
  rw [Int.emod_emod_of_dvd _ hd]
  simp
theorem and_7 (x : Int) : Go.bits .and .i64 x 7 = x % 8 := and_i64_mask x 3 (by decide)
theorem and_65535 (x : Int) : Go.bits .and .i64 x 65535 = x % 65536 := and_i64_mask x 16 (by decide)
theorem and_4294967295 (x : Int) : Go.bits .and .i64 x 4294967295 = x % 4294967296 := and_i64_mask x 32 (by decide)
theorem uand_7 (x : Int) : Go.bits .and .u64 x 7 = x % 8 := and_u64_mask x 3 (by decide)
theorem uand_255 (x : Int) : Go.bits .and .u64 x 255 = x % 256 := and_u64_mask x 8 (by decide)
theorem uand_65535 (x : Int) : Go.bits .and .u64 x 65535 = x % 65536 := and_u64_mask x 16 (by decide)
theorem wraps_i64 (n : Int) (h₀ : 0 ≤ n) (h₁ : n < 2 ^ 63) : IntKind.i64.wrap n = n := i64_wrap_id (by omega) (by omega)
/-- or of what lies apart is the sum. -/
theorem or_apart (i : Nat) (x y : Int) (hx0 : 0 ≤ x) (hx : x % 2 ^ i = 0) (hx1 : x < 9223372036854775808) (hy0 : 0 ≤ y) (hy : y < 2 ^ i) (hy1 : y < 9223372036854775808) : Go.bits .or .i64 x y = x + y :=
  Go.bits_join .i64 63 (by decide) wraps_i64 i x y hx0 hx hx1 hy0 hy hy1
theorem within_small {a n : Int} (hn : 0 < n) (hn1 : n ≤ 4611686018427387904) :
    ∃ r, (if n = 0 then none else if Int.tmod a n < 0 then some (wrap64 (Int.tmod a n + n)) else some (Int.tmod a n)) = some r ∧ 0 ≤ r ∧ r < n ∧ r = a % n := by
  rw [if_neg (by omega)]
  have h1 := Int.tmod_lt_of_pos a hn
  have h2 : -n < Int.tmod a n := by
    have := Int.tmod_lt_of_pos (-a) hn
    rw [Int.neg_tmod] at this
    omega
  have h3 : Int.tmod a n = a % n ∨ Int.tmod a n = a % n - n := by
    rw [Int.tmod_eq_emod]
    split
    · left; omega
    · right
      have : (n.natAbs : Int) = n := by omega
      omega
  have h4 := Int.emod_nonneg a (by omega : n ≠ 0)
  have h5 := Int.emod_lt_of_pos a hn
  by_cases h : Int.tmod a n < 0
  · rw [if_pos h, wrap64_id (by omega) (by omega)]
    exact ⟨_, rfl, by omega, by omega, by omega⟩
  · rw [if_neg h]
    exact ⟨_, rfl, by omega, by omega, by omega⟩
end Go.Proofs.YtihknjmibnonjaaDoor.Lib
