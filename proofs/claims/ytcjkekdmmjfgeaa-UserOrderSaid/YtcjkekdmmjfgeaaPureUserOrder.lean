import Derived.Test.YtcjkekdmmjfgeaaF12
import Derived.Test.YtcjkekdmmjfgeaaF35
import Derived.Test.YtcjkekdmmjfgeaaF31
import Derived.Test.YtcjkekdmmjfgeaaF32
import Derived.Test.YtcjkekdmmjfgeaaF17
import Derived.Test.YtcjkekdmmjfgeaaF18
import Derived.Test.YtcjkekdmmjfgeaaF16
import Derived.Test.YtcjkekdmmjfgeaaLib
import Derived.Laws.BitsLemmas
import Derived.Test.YtcjkekdmmjfgeaaF50
import Derived.Test.YtcjkekdmmjfgeaaF33
import Derived.Test.YtcjkekdmmjfgeaaF38
import Derived.Test.YtcjkekdmmjfgeaaHO
/- Plain lemmas on the bits of whole numbers. -/
namespace Go.Proofs.Ytcjkekdmmjfgeaa.Lib
open Go.RowKit Go.Proofs.YtcjkekdmmjfgeaaW.PrintWords

theorem i64_wrap_id {n : Int} (h0 : -9223372036854775808 ≤ n) (h1 : n ≤ 9223372036854775807) : IntKind.i64.wrap n = n := by
  rw [Go.IntKind.wrap_i64]
  omega
theorem ofInt64_mod (x : Int) : (BitVec.ofInt 64 x).toNat = (x % 18446744073709551616).toNat := by
  rw [BitVec.toNat_ofInt]
  rfl
/-- Masking an int by 2^j - 1. -/
theorem and_i64_mask (x : Int) (j : Nat) (hj : j ≤ 62) : Go.bits .and .i64 x (2 ^ j - 1) = x % 2 ^ j := by
  have hp : (0 : Int) < 2 ^ j := Int.pow_pos (by decide)
  have hpn : 0 < 2 ^ j := Nat.two_pow_pos j
  have hle : 2 ^ j ≤ 2 ^ 62 := Nat.pow_le_pow_right (by decide) hj
  have hc : ((2 : Int) ^ j - 1) = ((2 ^ j - 1 : Nat) : Int) := by
    rw [Int.natCast_sub hpn]; simp
  have hm : (BitVec.ofInt 64 ((2 : Int) ^ j - 1)).toNat = 2 ^ j - 1 := by
    rw [hc, BitVec.ofInt_natCast, BitVec.toNat_ofNat]
    exact Nat.mod_eq_of_lt (by omega)
  show IntKind.i64.wrap ((BitVec.ofInt 64 x &&& BitVec.ofInt 64 (2 ^ j - 1)).toNat : Int) = _
  rw [BitVec.toNat_and, hm, Nat.and_two_pow_sub_one_eq_mod, ofInt64_mod]
  have hlt : (x % 18446744073709551616).toNat % 2 ^ j < 2 ^ j := Nat.mod_lt _ hpn
  rw [i64_wrap_id (by omega) (by omega)]
  have h0 : 0 ≤ x % 18446744073709551616 := Int.emod_nonneg _ (by decide)
  rw [Int.natCast_emod, Int.toNat_of_nonneg h0]
  have hd : ((2 ^ j : Nat) : Int) ∣ 18446744073709551616 := by
    refine ⟨((2 ^ (64 - j) : Nat) : Int), ?_⟩
    rw [← Int.natCast_mul, ← Nat.pow_add]
    have : j + (64 - j) = 64 := by omega
    rw [this]
    rfl
  rw [Int.emod_emod_of_dvd _ hd]
  simp
theorem and_u64_mask (x : Int) (j : Nat) (hj : j ≤ 62) : Go.bits .and .u64 x (2 ^ j - 1) = x % 2 ^ j := by
  have hpn : 0 < 2 ^ j := Nat.two_pow_pos j
  have hle : 2 ^ j ≤ 2 ^ 62 := Nat.pow_le_pow_right (by decide) hj
  have hc : ((2 : Int) ^ j - 1) = ((2 ^ j - 1 : Nat) : Int) := by
    rw [Int.natCast_sub hpn]; simp
  have hm : (BitVec.ofInt 64 ((2 : Int) ^ j - 1)).toNat = 2 ^ j - 1 := by
    rw [hc, BitVec.ofInt_natCast, BitVec.toNat_ofNat]
    exact Nat.mod_eq_of_lt (by omega)
  show IntKind.u64.wrap ((BitVec.ofInt 64 x &&& BitVec.ofInt 64 (2 ^ j - 1)).toNat : Int) = _
  rw [BitVec.toNat_and, hm, Nat.and_two_pow_sub_one_eq_mod, ofInt64_mod]
  have hlt : (x % 18446744073709551616).toNat % 2 ^ j < 2 ^ j := Nat.mod_lt _ hpn
  rw [u64_wrap, Int.emod_eq_of_lt (by omega) (by omega)]
  have h0 : 0 ≤ x % 18446744073709551616 := Int.emod_nonneg _ (by decide)
  rw [Int.natCast_emod, Int.toNat_of_nonneg h0]
  have hd : ((2 ^ j : Nat) : Int) ∣ 18446744073709551616 := by
    refine ⟨((2 ^ (64 - j) : Nat) : Int), ?_⟩
    rw [← Int.natCast_mul, ← Nat.pow_add]
    have : j + (64 - j) = 64 := by omega
    rw [this]
    rfl
  rw [Int.emod_emod_of_dvd _ hd]
  simp
theorem and_7 (x : Int) : Go.bits .and .i64 x 7 = x % 8 := and_i64_mask x 3 (by decide)
theorem and_65535 (x : Int) : Go.bits .and .i64 x 65535 = x % 65536 := and_i64_mask x 16 (by decide)
theorem and_4294967295 (x : Int) : Go.bits .and .i64 x 4294967295 = x % 4294967296 := and_i64_mask x 32 (by decide)
theorem uand_7 (x : Int) : Go.bits .and .u64 x 7 = x % 8 := and_u64_mask x 3 (by decide)
theorem uand_255 (x : Int) : Go.bits .and .u64 x 255 = x % 256 := and_u64_mask x 8 (by decide)
theorem uand_65535 (x : Int) : Go.bits .and .u64 x 65535 = x % 65536 := and_u64_mask x 16 (by decide)
theorem wraps_i64 (n : Int) (h₀ : 0 ≤ n) (h₁ : n < 2 ^ 63) : IntKind.i64.wrap n = n := i64_wrap_id (by omega) (by omega)
/-- or of what lies apart is the sum. -/
theorem or_apart (i : Nat) (x y : Int) (hx0 : 0 ≤ x) (hx : x % 2 ^ i = 0) (hx1 : x < 9223372036854775808) (hy0 : 0 ≤ y) (hy : y < 2 ^ i) (hy1 : y < 9223372036854775808) : Go.bits .or .i64 x y = x + y :=
  Go.bits_join .i64 63 (by decide) wraps_i64 i x y hx0 hx hx1 hy0 hy hy1
theorem within_small {a n : Int} (hn : 0 < n) (hn1 : n ≤ 4611686018427387904) :
    ∃ r, (if n = 0 then none else if Int.tmod a n < 0 then some (wrap64 (Int.tmod a n + n)) else some (Int.tmod a n)) = some r ∧ 0 ≤ r ∧ r < n ∧ r = a % n := by
  rw [if_neg (by omega)]
  have h1 := Int.tmod_lt_of_pos a hn
  have h2 : -n < Int.tmod a n := by
    have := Int.tmod_lt_of_pos (-a) hn
    rw [Int.neg_tmod] at this
    omega
  have h3 : Int.tmod a n = a % n ∨ Int.tmod a n = a % n - n := by
    rw [Int.tmod_eq_emod]
    split
    · left; omega
    · right
      have : (n.natAbs : Int) = n := by omega
      omega
  have h4 := Int.emod_nonneg a (by omega : n ≠ 0)
  have h5 := Int.emod_lt_of_pos a hn
  by_cases h : Int.tmod a n < 0
  · rw [if_pos h, wrap64_id (by omega) (by omega)]
    exact ⟨_, rfl, by omega, by omega, by omega⟩
  · rw [if_neg h]
    exact ⟨_, rfl, by omega, by omega, by omega⟩
end Go.Proofs.Ytcjkekdmmjfgeaa.Lib
/- The chain of a hash, in plain numbers. -/
namespace Go.Proofs.Ytcjkekdmmjfgeaa.Pure
open Go.RowKit Go.Proofs.Ytcjkekdmmjfgeaa.X Go.Proofs.YtcjkekdmmjfgeaaW.PrintWords Go.Proofs.YtcjkekdmmjfgeaaW.PrintLast Go.Proofs.Ytcjkekdmmjfgeaa.Lib

theorem chain_l0 (xs : List Int) (hm : xs.length ≤ 9223372036854775807) (d : Nat) : ∀ (k : Nat) (h i : Int), 0 ≤ i → i ≤ xs.length → (xs.length : Int) - i = d → d < k →
    hash_Chain.l0 k h xs (xs.length : Int) i = some (chain h (xs.drop i.toNat)) := by
  induction d with
  | zero =>
    intro k h i h0 h1 hd hk
    obtain ⟨k, rfl⟩ : ∃ m, k = m + 1 := ⟨k - 1, by omega⟩
    simp only [hash_Chain.l0]
    rw [if_neg (by omega), List.drop_of_length_le (by omega)]
    rfl
  | succ d ih =>
    intro k h i h0 h1 hd hk
    obtain ⟨k, rfl⟩ : ∃ m, k = m + 1 := ⟨k - 1, by omega⟩
    have hlt : i < (xs.length : Int) := by omega
    simp only [hash_Chain.l0]
    rw [if_pos hlt, if_pos h0, if_pos hlt, wrap64_id (by omega) (by omega), drop_rd h0 hlt, ih k _ (i + 1) (by omega) (by omega) (by omega) (by omega)]
    rfl
theorem chain_f (xs : List Int) (hm : xs.length ≤ 9223372036854775807) (k : Nat) (hk : xs.length < k) (h : Int) : hash_Chain.f k h xs = some (chain h xs) := by
  unfold hash_Chain.f
  rw [chain_l0 xs hm xs.length k h 0 (by omega) (by omega) (by omega) hk]
  rfl
theorem chain_snoc (h : Int) (xs : List Int) (x : Int) : chain h (xs ++ [x]) = hstep (chain h xs) x := by
  rw [chain_append]
  rfl
end Go.Proofs.Ytcjkekdmmjfgeaa.Pure
/- What a password comes to, in plain numbers: the program's and the document's. -/
namespace Go.Proofs.Ytcjkekdmmjfgeaa.Pure
open Go.RowKit Go.Proofs.Ytcjkekdmmjfgeaa.X Go.Proofs.YtcjkekdmmjfgeaaW.PrintWords Go.Proofs.YtcjkekdmmjfgeaaW.PrintLast Go.Proofs.Ytcjkekdmmjfgeaa.Lib

/-- The first n of a salt's eight bytes, the highest first. -/
def saltB (a : Int) (n : Nat) : List Int := (List.range n).map fun i => a % 18446744073709551616 / 2 ^ (56 - 8 * i) % 256
theorem saltB_succ (a : Int) (n : Nat) : saltB a (n + 1) = saltB a n ++ [a % 18446744073709551616 / 2 ^ (56 - 8 * n) % 256] := by
  unfold saltB
  rw [List.range_succ, List.map_append]
  rfl
theorem saltB_length (a : Int) (n : Nat) : (saltB a n).length = n := by simp [saltB]
/-- What a password comes to. -/
def ofV (a : Int) (s : ByteArray) : Int := chain 14695981039346656037 (saltB a 8 ++ bytesOf s)
theorem shr_u64 (x : Int) (c : Int) (h1 : c ≤ 64) : shr .u64 x c = x / 2 ^ c.toNat := by
  unfold shr
  have : IntKind.u64.bits = 64 := rfl
  rw [this]
  congr 2
  omega
theorem of_l0 (a : Int) (s : ByteArray) (hs : s.size ≤ 140737488355000) (m : Nat) : ∀ (n k : Nat), n + m = 8 → m + 9 + s.size < k → hash_Of.l0 k a s (saltB a n) (n : Int) = some (ofV a s) := by
  induction m with
  | zero =>
    intro n k hn hk
    obtain ⟨k, rfl⟩ : ∃ m, k = m + 1 := ⟨k - 1, by omega⟩
    obtain rfl : n = 8 := by omega
    rw [hash_Of.l0]
    rw [if_neg (by decide), if_pos (by rw [saltB_length]; omega), chain_f _ (by rw [List.length_append, saltB_length, bytesOf_length]; omega) _ (by rw [List.length_append, saltB_length, bytesOf_length]; omega), Option.bind_some]
    rfl
  | succ m ih =>
    intro n k hn hk
    obtain ⟨k, rfl⟩ : ∃ m, k = m + 1 := ⟨k - 1, by omega⟩
    rw [hash_Of.l0]
    rw [if_pos (by omega), wrap64_id (n := 8 * (n : Int)) (by omega) (by omega), wrap64_id (n := 56 - 8 * (n : Int)) (by omega) (by omega), if_pos (by omega), if_pos (by rw [saltB_length]; omega), wrap64_id (n := (n : Int) + 1) (by omega) (by omega), shr_u64 _ _ (by omega), u64_wrap]
    have e : (56 - 8 * (n : Int)).toNat = 56 - 8 * n := by omega
    rw [e, ← saltB_succ]
    exact ih (n + 1) k (by omega) (by omega)
theorem of_f (a : Int) (s : ByteArray) (hs : s.size ≤ 140737488355000) (k : Nat) (hk : 17 + s.size < k) : hash_Of.f k a s = some (ofV a s) := by
  unfold hash_Of.f
  rw [wrap64_id (by omega) (by omega), if_pos (by omega), if_pos (by omega)]
  exact of_l0 a s hs 8 0 k (by omega) (by omega)
theorem ref_chain_l0 (xs : List Int) (hm : xs.length ≤ 9223372036854775807) (d : Nat) : ∀ (k : Nat) (h i : Int), 0 ≤ i → i ≤ xs.length → (xs.length : Int) - i = d → d < k →
    donjonref8_Chain.l0 k h xs i = some (chain h (xs.drop i.toNat)) := by
  induction d with
  | zero =>
    intro k h i h0 h1 hd hk
    obtain ⟨k, rfl⟩ : ∃ m, k = m + 1 := ⟨k - 1, by omega⟩
    rw [donjonref8_Chain.l0, if_neg (by omega), List.drop_of_length_le (by omega)]
    rfl
  | succ d ih =>
    intro k h i h0 h1 hd hk
    obtain ⟨k, rfl⟩ : ∃ m, k = m + 1 := ⟨k - 1, by omega⟩
    have hlt : i < (xs.length : Int) := by omega
    rw [donjonref8_Chain.l0]
    rw [if_pos hlt, if_pos h0, wrap64_id (by omega) (by omega), drop_rd h0 hlt, ih k _ (i + 1) (by omega) (by omega) (by omega) (by omega)]
    rfl
theorem ref_chain_f (xs : List Int) (hm : xs.length ≤ 9223372036854775807) (k : Nat) (hk : xs.length < k) (h : Int) : donjonref8_Chain.f k h xs = some (chain h xs) := by
  unfold donjonref8_Chain.f
  rw [ref_chain_l0 xs hm xs.length k h 0 (by omega) (by omega) (by omega) hk]
  rfl
theorem ref_of_l0 (a : Int) (s : ByteArray) (hs : s.size ≤ 140737488355000) (m : Nat) : ∀ (n k : Nat), n + m = 8 → m + 9 + s.size < k → donjonref8_Of.l0 k a s (saltB a n) (7 - (n : Int)) = some (ofV a s) := by
  induction m with
  | zero =>
    intro n k hn hk
    obtain ⟨k, rfl⟩ : ∃ m, k = m + 1 := ⟨k - 1, by omega⟩
    obtain rfl : n = 8 := by omega
    rw [donjonref8_Of.l0]
    rw [if_neg (by decide), ref_chain_f _ (by rw [saltB_length]; omega) _ (by rw [saltB_length]; omega), Option.bind_some, if_pos (by omega), ref_chain_f _ (by rw [bytesOf_length]; omega) _ (by rw [bytesOf_length]; omega), Option.bind_some]
    unfold ofV
    rw [chain_append]
  | succ m ih =>
    intro n k hn hk
    obtain ⟨k, rfl⟩ : ∃ m, k = m + 1 := ⟨k - 1, by omega⟩
    rw [donjonref8_Of.l0]
    rw [if_pos (by omega), wrap64_id (n := 8 * (7 - (n : Int))) (by omega) (by omega), if_pos (by omega), if_pos (by rw [saltB_length]; omega), wrap64_id (n := 7 - (n : Int) - 1) (by omega) (by omega), shr_u64 _ _ (by omega), u64_wrap]
    have e : (8 * (7 - (n : Int))).toNat = 56 - 8 * n := by omega
    have e2 : 7 - (n : Int) - 1 = 7 - ((n + 1 : Nat) : Int) := by omega
    rw [e, ← saltB_succ, e2]
    exact ih (n + 1) k (by omega) (by omega)
theorem ref_of_f (a : Int) (s : ByteArray) (hs : s.size ≤ 140737488355000) (k : Nat) (hk : 17 + s.size < k) : donjonref8_Of.f k a s = some (ofV a s) := by
  unfold donjonref8_Of.f
  exact ref_of_l0 a s hs 8 0 k (by omega) (by omega)
theorem ofV_range (a : Int) (s : ByteArray) : 0 ≤ ofV a s ∧ ofV a s < 18446744073709551616 := chain_range (by decide) (by decide) _
end Go.Proofs.Ytcjkekdmmjfgeaa.Pure
/- Plain lemmas on texts' order, and on places in rows that are sorted by texts. -/
namespace Go.Proofs.Ytcjkekdmmjfgeaa.Lib
open Go.RowKit Go.Proofs.YtcjkekdmmjfgeaaW.PrintWords

theorem blt_irrefl : ∀ x : List UInt8, Op.bytesLess x x = false
  | [] => rfl
  | a :: x => by simp [Op.bytesLess, blt_irrefl x]
theorem blt_trans : ∀ x y z : List UInt8, Op.bytesLess x y = true → Op.bytesLess y z = true → Op.bytesLess x z = true
  | _, [], _, h, _ => by simp [Op.bytesLess] at h
  | _, _ :: _, [], _, h => by simp [Op.bytesLess] at h
  | [], _ :: _, _ :: _, _, _ => rfl
  | a :: x, b :: y, c :: z, h1, h2 => by
    simp only [Op.bytesLess, Bool.or_eq_true, Bool.and_eq_true, decide_eq_true_eq, beq_iff_eq] at h1 h2 ⊢
    rcases h1 with h1 | ⟨rfl, h1⟩
    · rcases h2 with h2 | ⟨rfl, h2⟩
      · exact .inl (UInt8.lt_trans h1 h2)
      · exact .inl h1
    · rcases h2 with h2 | ⟨rfl, h2⟩
      · exact .inl h2
      · exact .inr ⟨rfl, blt_trans x y z h1 h2⟩
theorem blt_total : ∀ x y : List UInt8, Op.bytesLess x y = false → Op.bytesLess y x = false → x = y
  | [], [], _, _ => rfl
  | [], _ :: _, h, _ => by simp [Op.bytesLess] at h
  | _ :: _, [], _, h => by simp [Op.bytesLess] at h
  | a :: x, b :: y, h1, h2 => by
    simp only [Op.bytesLess, Bool.or_eq_false_iff, Bool.and_eq_false_iff, decide_eq_false_iff_not, beq_eq_false_iff_ne] at h1 h2
    have hab : a = b := by
      have h3 := h1.1
      have h4 := h2.1
      rw [UInt8.not_lt] at h3 h4
      exact UInt8.le_antisymm h4 h3
    subst hab
    have h5 : Op.bytesLess x y = false := by
      rcases h1.2 with h | h
      · exact absurd rfl h
      · exact h
    have h6 : Op.bytesLess y x = false := by
      rcases h2.2 with h | h
      · exact absurd rfl h
      · exact h
    rw [blt_total x y h5 h6]
theorem blt_asymm (x y : List UInt8) (h : Op.bytesLess x y = true) : Op.bytesLess y x = false := by
  cases h2 : Op.bytesLess y x with
  | false => rfl
  | true =>
    have := blt_trans x y x h h2
    rw [blt_irrefl] at this
    exact absurd this (by simp)

/-- The first m places are so, the others are not: m are so. -/
theorem count_prefix (p : Nat → Bool) (m : Nat) : ∀ n, m ≤ n → (∀ i, i < m → p i = true) → (∀ i, m ≤ i → i < n → p i = false) → (List.range n).countP p = m := by
  intro n
  induction n with
  | zero =>
    intro hm _ _
    have : m = 0 := by omega
    subst this
    rfl
  | succ n ih =>
    intro hm h1 h2
    rw [List.range_succ, List.countP_append]
    by_cases hmn : m ≤ n
    · rw [ih hmn h1 (fun i hi hn => h2 i hi (by omega))]
      have := h2 n hmn (by omega)
      simp [this]
    · have e : m = n + 1 := by omega
      subst e
      have h3 : (List.range n).countP p = n := by
        rw [List.countP_eq_length.2]
        · exact List.length_range
        · intro i hi
          exact h1 i (by have := List.mem_range.1 hi; omega)
      rw [h3]
      have := h1 n (by omega)
      simp [this]

/-- Keys that rise. -/
def Rising (K : Nat → List UInt8) (n : Nat) : Prop := ∀ i j, i < j → j < n → Op.bytesLess (K i) (K j) = true
theorem rising_of_steps (K : Nat → List UInt8) (n : Nat) (h : ∀ i, 0 < i → i < n → Op.bytesLess (K (i - 1)) (K i) = true) : Rising K n := by
  intro i j hij hj
  induction j with
  | zero => omega
  | succ j ih =>
    have h1 := h (j + 1) (by omega) hj
    have e : j + 1 - 1 = j := by omega
    rw [e] at h1
    by_cases hi : i = j
    · subst hi
      exact h1
    · exact blt_trans _ _ _ (ih (by omega) (by omega)) h1
section
variable {K : Nat → List UInt8} {n : Nat}
theorem rising_parted (h : Rising K n) (u : List UInt8) (i j : Nat) (hij : i ≤ j) (hj : j < n) (hi : Op.bytesLess (K i) u = false) : Op.bytesLess (K j) u = false := by
  by_cases e : i = j
  · subst e
    exact hi
  · cases h2 : Op.bytesLess (K j) u with
    | false => rfl
    | true =>
      have := blt_trans _ _ _ (h i j (by omega) hj) h2
      rw [this] at hi
      exact absurd hi (by simp)
theorem rising_inj (h : Rising K n) {i j : Nat} (hi : i < n) (hj : j < n) (e : K i = K j) : i = j := by
  rcases Nat.lt_trichotomy i j with h1 | h1 | h1
  · have := h i j h1 hj
    rw [e, blt_irrefl] at this
    exact absurd this (by simp)
  · exact h1
  · have := h j i h1 hi
    rw [e, blt_irrefl] at this
    exact absurd this (by simp)
/-- Where a key stands there are as many ahead of it. -/
theorem rising_place (h : Rising K n) {p : Nat} (hp : p < n) {u : List UInt8} (e : K p = u) : (List.range n).countP (fun i => Op.bytesLess (K i) u) = p := by
  subst e
  refine count_prefix _ p n (by omega) (fun i hi => h i p hi hp) (fun i hi hn => ?_)
  by_cases e : p = i
  · subst e
    exact blt_irrefl _
  · exact blt_asymm _ _ (h p i (by omega) hn)
/-- In any rising row there is a place up to which keys are less. -/
theorem rising_cut (h : Rising K n) (u : List UInt8) : ∃ m, m ≤ n ∧ (∀ i, i < m → Op.bytesLess (K i) u = true) ∧ (∀ i, m ≤ i → i < n → Op.bytesLess (K i) u = false) := by
  have key : ∀ m, m ≤ n → (∀ i, i < m → Op.bytesLess (K i) u = true) ∨ ∃ q, q ≤ m ∧ (∀ i, i < q → Op.bytesLess (K i) u = true) ∧ (∀ i, q ≤ i → i < n → Op.bytesLess (K i) u = false) := by
    intro m
    induction m with
    | zero => intro _; exact .inl (fun i hi => by omega)
    | succ m ih =>
      intro hm
      rcases ih (by omega) with h1 | ⟨q, hq, h2⟩
      · cases h3 : Op.bytesLess (K m) u with
        | true =>
          refine .inl (fun i hi => ?_)
          by_cases e : i = m
          · subst e; exact h3
          · exact h1 i (by omega)
        | false => exact .inr ⟨m, by omega, h1, fun i hi hn => rising_parted h u m i hi hn h3⟩
      · exact .inr ⟨q, by omega, h2⟩
  rcases key n (Nat.le_refl _) with h1 | ⟨q, hq, h2⟩
  · exact ⟨n, Nat.le_refl _, h1, fun i hi hn => by omega⟩
  · exact ⟨q, hq, h2⟩
end
theorem wf_bool_ne {a b : Bool} (h : a ≠ b) : a = !b := by cases a <;> cases b <;> simp_all
end Go.Proofs.Ytcjkekdmmjfgeaa.Lib
/- Labels in plain numbers: what may be known where. -/
namespace Go.Proofs.Ytcjkekdmmjfgeaa.Pure
open Go.RowKit Go.Proofs.Ytcjkekdmmjfgeaa.X Go.Proofs.YtcjkekdmmjfgeaaW.PrintWords Go.Proofs.YtcjkekdmmjfgeaaW.PrintLast Go.Proofs.Ytcjkekdmmjfgeaa.Lib Go.Proofs.YtcjkekdmmjfgeaaW.PrintMore

theorem good4_f (a b c d : Int) : donjonlaw4_Good.f a b c d = some (a % 4, b % 256, c % 4, d % 256) := by
  unfold donjonlaw4_Good.f donjonlaw4_within.f
  obtain ⟨r1, e1, _, _, h1⟩ := within_small (a := a) (n := 4) (by omega) (by omega)
  obtain ⟨r2, e2, _, _, h2⟩ := within_small (a := b) (n := 256) (by omega) (by omega)
  obtain ⟨r3, e3, _, _, h3⟩ := within_small (a := c) (n := 4) (by omega) (by omega)
  obtain ⟨r4, e4, _, _, h4⟩ := within_small (a := d) (n := 256) (by omega) (by omega)
  rw [e1, e2, e3, e4, h1, h2, h3, h4]
  rfl
/-- and, or of what is not below 0, in natural numbers. -/
theorem and_i64 {a b : Int} (ha0 : 0 ≤ a) (ha : a < 9223372036854775808) (hb0 : 0 ≤ b) (hb : b < 9223372036854775808) : Go.bits .and .i64 a b = ((a.toNat &&& b.toNat : Nat) : Int) := by
  have hx : a.toNat &&& b.toNat ≤ a.toNat := Nat.and_le_left
  show IntKind.i64.wrap ((BitVec.ofInt 64 a &&& BitVec.ofInt 64 b).toNat : Int) = _
  rw [BitVec.toNat_and, ofInt64_toNat ha0 (by omega), ofInt64_toNat hb0 (by omega), i64_wrap_id (by omega) (by omega)]
theorem or_i64 {a b : Int} (ha0 : 0 ≤ a) (ha : a < 9223372036854775808) (hb0 : 0 ≤ b) (hb : b < 9223372036854775808) : Go.bits .or .i64 a b = ((a.toNat ||| b.toNat : Nat) : Int) := by
  have hx : a.toNat ||| b.toNat < 2 ^ 63 := Nat.or_lt_two_pow (by omega) (by omega)
  show IntKind.i64.wrap ((BitVec.ofInt 64 a ||| BitVec.ofInt 64 b).toNat : Int) = _
  rw [BitVec.toNat_or, ofInt64_toNat ha0 (by omega), ofInt64_toNat hb0 (by omega), i64_wrap_id (by omega) (by omega)]
theorem nat_or_iff (a b : Nat) : a ||| b = a ↔ a &&& b = b := by
  constructor
  · intro h
    rw [← h]
    apply Nat.eq_of_testBit_eq
    intro i
    simp
    intro hb
    exact .inr hb
  · intro h
    apply Nat.eq_of_testBit_eq
    intro i
    have hi : (a &&& b).testBit i = b.testBit i := by rw [h]
    simp at hi ⊢
    exact hi
/-- A label such as may be. -/
structure Lab (s c i d : Int) : Prop where
  s0 : 0 ≤ s
  s1 : s < 4
  c0 : 0 ≤ c
  c1 : c < 256
  i0 : 0 ≤ i
  i1 : i < 4
  d0 : 0 ≤ d
  d1 : d < 256
theorem lab_good (a b c d : Int) : Lab (a % 4) (b % 256) (c % 4) (d % 256) := ⟨by omega, by omega, by omega, by omega, by omega, by omega, by omega, by omega⟩
/-- May what is known at the second come to the first? -/
def overV (s c i d s' c' i' d' : Int) : Bool := decide (s' ≤ s) && (decide (c.toNat &&& c'.toNat = c'.toNat) && (decide (i ≤ i') && decide (d.toNat &&& d'.toNat = d.toNat)))
theorem mx_eq (a b : Int) : (mx a b == a) = decide (b ≤ a) := by
  unfold mx
  by_cases h : a < b
  · rw [if_pos h, decide_eq_false (by omega)]
    simp; omega
  · rw [if_neg h, decide_eq_true (by omega)]
    simp
theorem mn_eq (a b : Int) : (mn a b == a) = decide (a ≤ b) := by
  unfold mn
  by_cases h : b < a
  · rw [if_pos h, decide_eq_false (by omega)]
    simp; omega
  · rw [if_neg h, decide_eq_true (by omega)]
    simp
theorem over_f {s c i d s' c' i' d' : Int} (h : Lab s c i d) (h' : Lab s' c' i' d') : label_Over.f s c i d s' c' i' d' = some (overV s c i d s' c' i' d') := by
  obtain ⟨a1, a2, a3, a4, a5, a6, a7, a8⟩ := h
  obtain ⟨b1, b2, b3, b4, b5, b6, b7, b8⟩ := h'
  unfold label_Over.f label_Join.f overV
  rw [Option.bind_some, mx_eq, mn_eq, or_i64 a3 (by omega) b3 (by omega), and_i64 a7 (by omega) b7 (by omega)]
  congr 3
  · rw [Bool.eq_iff_iff]
    simp only [beq_iff_eq, decide_eq_true_eq]
    rw [← nat_or_iff]
    omega
  · congr 1
    rw [Bool.eq_iff_iff]
    simp only [beq_iff_eq, decide_eq_true_eq]
    omega
end Go.Proofs.Ytcjkekdmmjfgeaa.Pure
/- Users in plain numbers and texts: some users, who is found, who may enter. -/
namespace Go.Proofs.Ytcjkekdmmjfgeaa.Pure
open Go.RowKit Go.Proofs.Ytcjkekdmmjfgeaa.X Go.Proofs.YtcjkekdmmjfgeaaW.PrintWords Go.Proofs.YtcjkekdmmjfgeaaW.PrintLast Go.Proofs.Ytcjkekdmmjfgeaa.Lib

def keyU (l : List S58) (i : Nat) : List UInt8 := (rd_T58 l (i : Int)).f0.toList
theorem rdU_get {l : List S58} {i : Nat} (h : i < l.length) : rd_T58 l (i : Int) = l[i] := by
  unfold rd_T58
  simp [List.getD_eq_getElem?_getD, h]
theorem parted_of {l : List S58} (hr : Rising (keyU l) l.length) (name : ByteArray) : partedU l name := by
  intro i hi j hj hij hlt
  exact rising_parted hr name.toList i j hij hj hlt
theorem find_is {l : List S58} (hl : l.length ≤ 1000000) (hr : Rising (keyU l) l.length) (name : ByteArray) (i : Nat) (hi : i < l.length) (e : keyU l i = name.toList) : user_Find.f l name = some (userParts (rd_T58 l (i : Int)) true) := by
  have hp : placeU l name = i := rising_place hr hi e
  unfold user_Find.f
  rw [if_pos hl, if_pos (parted_of hr name), hp, if_pos ⟨hi, e⟩]
theorem find_not {l : List S58} (hl : l.length ≤ 1000000) (hr : Rising (keyU l) l.length) (name : ByteArray) (h : ∀ i, i < l.length → keyU l i ≠ name.toList) : user_Find.f l name = some (userParts z58 false) := by
  unfold user_Find.f
  rw [if_pos hl, if_pos (parted_of hr name), if_neg (fun h2 => h _ h2.1 h2.2)]

/-- The names of some users. -/
def nmB (i : Nat) : ByteArray := strOfNums [(97 + (i : Int)) % 256]
def goodL (x : S54) : S54 := ⟨x.f0 % 4, x.f1 % 256, x.f2 % 4, x.f3 % 256⟩
def mkU (l : List S54) (i : Nat) : S58 := ⟨nmB i, (i : Int) * 7, ofV ((i : Int) * 7) (nmB i ++ nmB i), goodL (rd_T54 l (i : Int)), (Int.tmod (i : Int) 2 == 0)⟩
/-- Users a, b, .. whose words are theirs twice, of labels. -/
def usersV (l : List S54) : List S58 := (List.range (min l.length 8)).map (mkU l)
theorem usersV_length (l : List S54) : (usersV l).length = min l.length 8 := by simp [usersV]
theorem usersV_get (l : List S54) {i : Nat} (h : i < (usersV l).length) : rd_T58 (usersV l) (i : Int) = mkU l i := by
  rw [rdU_get h]
  simp [usersV]
theorem nmB_size (i : Nat) : (nmB i).size = 1 := rfl
theorem nmB2_size (i : Nat) : (nmB i ++ nmB i).size = 2 := by rw [ByteArray.size_append]; rfl
theorem some_l0 (l : List S54) (d : Nat) : ∀ (k i : Nat), i + d = min l.length 8 → 2 * d + 30 < k → donjonlaw9_Some.l0 k l ((List.range i).map (mkU l)) (i : Int) = some (usersV l) := by
  induction d with
  | zero =>
    intro k i hi hk
    obtain ⟨k, rfl⟩ : ∃ m, k = m + 2 := ⟨k - 2, by omega⟩
    have hend : donjonlaw9_Some.j1 (k + 1) l ((List.range i).map (mkU l)) (i : Int) false = some (usersV l) := by
      rw [donjonlaw9_Some.j1, if_neg (by simp)]
      have : i = min l.length 8 := by omega
      rw [this]
      rfl
    rw [donjonlaw9_Some.l0]
    by_cases h : (i : Int) < (l.length : Int)
    · rw [if_pos h, decide_eq_false (by omega)]
      exact hend
    · rw [if_neg h]
      exact hend
  | succ d ih =>
    intro k i hi hk
    obtain ⟨k, rfl⟩ : ∃ m, k = m + 2 := ⟨k - 2, by omega⟩
    have hi8 : i < 8 := by omega
    have hil : i < l.length := by omega
    have w1 : wrap64 (97 + (i : Int)) = 97 + (i : Int) := wrap64_id (by omega) (by omega)
    have w2 : wrap64 ((i : Int) * 7) = (i : Int) * 7 := wrap64_id (by omega) (by omega)
    have w3 : wrap64 ((i : Int) + 1) = ((i + 1 : Nat) : Int) := by rw [wrap64_id (by omega) (by omega)]; omega
    have hn : strOfNums [(97 + (i : Int)) % 256] = nmB i := rfl
    rw [donjonlaw9_Some.l0, if_pos (by omega), decide_eq_true (by omega), donjonlaw9_Some.j1, if_pos rfl, Option.bind_some, w1, w2, w3, hn, nmB_size, if_pos (by decide), ref_of_f _ _ (by rw [nmB2_size]; decide) k (by rw [nmB2_size]; omega), Option.bind_some, if_pos (by omega), if_pos (by omega), good4_f, Option.bind_some,
      if_pos (by rw [List.length_map, List.length_range]; omega)]
    have hnext := ih k (i + 1) (by omega) (by omega)
    rw [List.range_succ, List.map_append] at hnext
    exact hnext
theorem some_f (l : List S54) (k : Nat) (hk : 50 < k) : donjonlaw9_Some.f k l = some (usersV l) := by
  unfold donjonlaw9_Some.f
  exact some_l0 l (min l.length 8) k 0 (by omega) (by omega)
theorem nmB_rises : ∀ i j : Fin 8, i < j → Op.bytesLess (nmB i.val).toList (nmB j.val).toList = true := by decide +kernel
theorem users_rising (l : List S54) : Rising (keyU (usersV l)) (usersV l).length := by
  intro i j hij hj
  have hl := usersV_length l
  unfold keyU
  rw [usersV_get l (by omega), usersV_get l hj]
  exact nmB_rises ⟨i, by omega⟩ ⟨j, by omega⟩ hij
theorem users_le (l : List S54) : (usersV l).length ≤ 8 := by rw [usersV_length]; omega
/-- Whether a word is a user's, and a label is one that they are cleared for. -/
def enterV (u : S58) (word : ByteArray) (s c i d : Int) : Int := if ofV u.f1 word = u.f2 ∧ overV u.f3.f0 u.f3.f1 u.f3.f2 u.f3.f3 s c i d = true then 0 else 21
theorem enter_is {l : List S58} (hl : l.length ≤ 1000000) (hr : Rising (keyU l) l.length) (name word : ByteArray) (hw : word.size ≤ 140737488355000) (p : Nat) (hp : p < l.length) (e : keyU l p = name.toList) {s c i d : Int}
    (hu : Lab (rd_T58 l (p : Int)).f3.f0 (rd_T58 l (p : Int)).f3.f1 (rd_T58 l (p : Int)).f3.f2 (rd_T58 l (p : Int)).f3.f3) (ha : Lab s c i d) (k : Nat) (hk : 17 + word.size < k) :
    user_Enter.f k l name word s c i d = some (enterV (rd_T58 l (p : Int)) word s c i d) := by
  unfold user_Enter.f enterV
  rw [find_is hl hr name p hp e, Option.bind_some]
  refine (if_pos rfl).trans ?_
  show (hash_Of.f k (rd_T58 l (p : Int)).f1 word).bind _ = _
  rw [of_f _ _ hw k hk, Option.bind_some]
  by_cases h : ofV (rd_T58 l (p : Int)).f1 word = (rd_T58 l (p : Int)).f2
  · refine (if_pos h).trans ?_
    show (label_Over.f (rd_T58 l (p : Int)).f3.f0 (rd_T58 l (p : Int)).f3.f1 (rd_T58 l (p : Int)).f3.f2 (rd_T58 l (p : Int)).f3.f3 s c i d).bind _ = _
    rw [over_f hu ha, Option.bind_some]
    by_cases h2 : overV (rd_T58 l (p : Int)).f3.f0 (rd_T58 l (p : Int)).f3.f1 (rd_T58 l (p : Int)).f3.f2 (rd_T58 l (p : Int)).f3.f3 s c i d = true
    · rw [if_pos h2, if_pos ⟨h, h2⟩]
    · rw [if_neg h2, if_neg (fun h3 => h2 h3.2)]
  · refine (if_neg h).trans ?_
    rw [if_neg (fun h3 => h h3.1)]
theorem enter_not {l : List S58} (hl : l.length ≤ 1000000) (hr : Rising (keyU l) l.length) (name word : ByteArray) (h : ∀ i, i < l.length → keyU l i ≠ name.toList) (s c i d : Int) (k : Nat) : user_Enter.f k l name word s c i d = some 21 := by
  unfold user_Enter.f
  rw [find_not hl hr name h, Option.bind_some]
  exact if_neg Bool.false_ne_true
theorem known9 (k : Nat) : donjonlaw9_known.f k = some true := by
  unfold donjonlaw9_known.f
  rw [enter_not (l := []) (by simp) (fun i j _ hj => by simp at hj) _ _ (fun i hi => by simp at hi)]
  rfl
theorem mkU_lab (l : List S54) (i : Nat) : Lab (mkU l i).f3.f0 (mkU l i).f3.f1 (mkU l i).f3.f2 (mkU l i).f3.f3 := lab_good _ _ _ _
end Go.Proofs.Ytcjkekdmmjfgeaa.Pure
/- What a check of users says, in plain numbers and texts. -/
namespace Go.Proofs.Ytcjkekdmmjfgeaa.Pure
open Go.RowKit Go.Proofs.Ytcjkekdmmjfgeaa.X Go.Proofs.YtcjkekdmmjfgeaaW.PrintWords Go.Proofs.YtcjkekdmmjfgeaaW.PrintLast Go.Proofs.Ytcjkekdmmjfgeaa.Lib

def keyC (l : List S58) (i : Nat) : List UInt8 := (rd_T58 l (i : Int)).f0.toList
def labB (s c i d : Int) : Bool := decide (0 ≤ s) && (decide (s ≤ 3) && (decide (0 ≤ c) && (decide (c ≤ 255) && (decide (0 ≤ i) && (decide (i ≤ 3) && (decide (0 ≤ d) && decide (d ≤ 255)))))))
theorem lcheck_f (s c i d : Int) : label_Check.f s c i d = some (if labB s c i d = true then 0 else 1) := by
  unfold label_Check.f label_level.f label_cats.f labB
  by_cases h1 : s ≥ 0
  · rw [if_pos h1, Option.bind_some]
    by_cases h2 : s ≤ 3
    · rw [decide_eq_true h2, if_pos rfl]
      by_cases h3 : i ≥ 0
      · rw [if_pos h3, Option.bind_some]
        by_cases h4 : i ≤ 3
        · rw [decide_eq_true h4, if_pos rfl]
          by_cases h5 : c ≥ 0
          · rw [if_pos h5, Option.bind_some]
            by_cases h6 : c ≤ 255
            · rw [decide_eq_true h6, if_pos rfl]
              by_cases h7 : d ≥ 0
              · rw [if_pos h7, Option.bind_some]
                by_cases h8 : d ≤ 255
                · rw [decide_eq_true h8, if_pos rfl, if_pos (by simp; omega)]
                · rw [decide_eq_false h8, if_neg (by simp), if_neg (by simp)]
              · rw [if_neg h7, Option.bind_some, if_neg (by simp), if_neg (by simp; omega)]
            · rw [decide_eq_false h6, if_neg (by simp), if_neg (by simp)]
          · rw [if_neg h5, Option.bind_some, if_neg (by simp), if_neg (by simp; omega)]
        · rw [decide_eq_false h4, if_neg (by simp), if_neg (by simp)]
      · rw [if_neg h3, Option.bind_some, if_neg (by simp), if_neg (by simp; omega)]
    · rw [decide_eq_false h2, if_neg (by simp), if_neg (by simp)]
  · rw [if_neg h1, Option.bind_some, if_neg (by simp), if_neg (by simp; omega)]
/-- Is the user at a place such as may be? -/
def goodC (l : List S58) (i : Nat) : Bool :=
  okName (rd_T58 l (i : Int)).f0 && ((decide (i = 0) || Op.bytesLess (keyC l (i - 1)) (keyC l i)) && labB (rd_T58 l (i : Int)).f3.f0 (rd_T58 l (i : Int)).f3.f1 (rd_T58 l (i : Int)).f3.f2 (rd_T58 l (i : Int)).f3.f3)
/-- What is wrong with users. -/
def ucheckV (l : List S58) : Int := if l.length > 16 then 4 else if (List.range l.length).all (goodC l) = true then 0 else 1
theorem goodC_split {l : List S58} {i : Nat} : goodC l i = true ↔ okName (rd_T58 l (i : Int)).f0 = true ∧ (i = 0 ∨ Op.bytesLess (keyC l (i - 1)) (keyC l i) = true) ∧ labB (rd_T58 l (i : Int)).f3.f0 (rd_T58 l (i : Int)).f3.f1 (rd_T58 l (i : Int)).f3.f2 (rd_T58 l (i : Int)).f3.f3 = true := by
  unfold goodC
  simp only [Bool.and_eq_true, Bool.or_eq_true, decide_eq_true_eq]
open Classical in
theorem ucheck_l0 (l : List S58) (hl : l.length ≤ 16) (d : Nat) : ∀ (k i : Nat), i + d = l.length → 2 * d < k →
    user_Check.l0 k l l (l.length : Int) (i : Int) = some (if ∀ j, i ≤ j → j < l.length → goodC l j = true then 0 else 1) := by
  induction d with
  | zero =>
    intro k i hi hk
    obtain ⟨k, rfl⟩ : ∃ m, k = m + 1 := ⟨k - 1, by omega⟩
    rw [user_Check.l0, if_neg (by omega), if_pos (fun j h1 h2 => by omega)]
  | succ d ih =>
    intro k i hi hk
    obtain ⟨k, rfl⟩ : ∃ m, k = m + 2 := ⟨k - 2, by omega⟩
    have hnext := ih k (i + 1) (by omega) (by omega)
    have ecast : ((i + 1 : Nat) : Int) = (i : Int) + 1 := by omega
    have hw : wrap64 ((i : Int) + 1) = ((i + 1 : Nat) : Int) := by rw [ecast]; exact wrap64_id (by omega) (by omega)
    have hbad : ¬ goodC l i = true → (if ∀ j, i ≤ j → j < l.length → goodC l j = true then (0 : Int) else 1) = 1 := by
      intro hb
      exact if_neg (fun h => hb (h i (by omega) (by omega)))
    have hgood : goodC l i = true → (if ∀ j, i ≤ j → j < l.length → goodC l j = true then (0 : Int) else 1) = (if ∀ j, i + 1 ≤ j → j < l.length → goodC l j = true then (0 : Int) else 1) := by
      intro hg
      by_cases h : ∀ j, i + 1 ≤ j → j < l.length → goodC l j = true
      · rw [if_pos h, if_pos (fun j h1 h2 => ?_)]
        by_cases e : i = j
        · subst e; exact hg
        · exact h j (by omega) h2
      · rw [if_neg h, if_neg (fun h2 => h (fun j h3 h4 => h2 j (by omega) h4))]
    have hj : ∀ b : Bool, (b = true → ¬ goodC l i = true) → (b = false → goodC l i = labB (rd_T58 l (i : Int)).f3.f0 (rd_T58 l (i : Int)).f3.f1 (rd_T58 l (i : Int)).f3.f2 (rd_T58 l (i : Int)).f3.f3) → user_Check.j1 (k + 1) l l (l.length : Int) (i : Int) b ((rd_T58 l (i : Int)).f0) ((rd_T58 l (i : Int)).f1) ((rd_T58 l (i : Int)).f2) ((rd_T58 l (i : Int)).f3.f0) ((rd_T58 l (i : Int)).f3.f1) ((rd_T58 l (i : Int)).f3.f2) ((rd_T58 l (i : Int)).f3.f3) ((rd_T58 l (i : Int)).f4) = some (if ∀ j, i ≤ j → j < l.length → goodC l j = true then 0 else 1) := by
      intro b h1 h2
      rw [user_Check.j1]
      cases b with
      | true => rw [if_pos rfl, hbad (h1 rfl)]
      | false =>
        have h3 := h2 rfl
        rw [if_neg (by simp), lcheck_f, Option.bind_some, hw, hnext]
        by_cases c : labB (rd_T58 l (i : Int)).f3.f0 (rd_T58 l (i : Int)).f3.f1 (rd_T58 l (i : Int)).f3.f2 (rd_T58 l (i : Int)).f3.f3 = true
        · rw [if_pos c, if_pos rfl, hgood (by rw [h3]; exact c)]
        · rw [if_neg c, if_neg (by decide), hbad (by rw [h3]; exact c)]
    rw [user_Check.l0, if_pos (by omega), if_pos (by omega), if_pos (by omega)]
    unfold path_Name.f
    rw [Option.bind_some]
    by_cases c1 : okName (rd_T58 l (i : Int)).f0 = true
    · rw [if_pos c1]
      by_cases c2 : (i : Int) > 0
      · have hp : wrap64 ((i : Int) - 1) = ((i - 1 : Nat) : Int) := by rw [wrap64_id (by omega) (by omega)]; omega
        rw [if_pos c2, hp, if_pos (by omega), if_pos (by omega)]
        refine hj _ (fun h h2 => ?_) (fun h => ?_)
        · have h3 := (goodC_split.1 h2).2.1
          unfold keyC at h3
          rcases h3 with h3 | h3
          · omega
          · rw [h3] at h
            exact absurd h (by simp)
        · have h3 : Op.bytesLess (keyC l (i - 1)) (keyC l i) = true := by unfold keyC; simpa using h
          unfold goodC
          rw [c1, h3, Bool.or_true, Bool.true_and, Bool.true_and]
      · rw [if_neg c2]
        refine hj false (fun h => absurd h (by simp)) (fun _ => ?_)
        unfold goodC
        rw [c1, decide_eq_true (by omega : i = 0), Bool.true_or, Bool.true_and, Bool.true_and]
    · rw [if_neg c1]
      refine hj true (fun _ h2 => c1 (goodC_split.1 h2).1) (fun h => absurd h (by simp))
open Classical in
theorem ucheckV_of (l : List S58) (hl : l.length ≤ 16) : ucheckV l = (if ∀ j, 0 ≤ j → j < l.length → goodC l j = true then 0 else 1) := by
  unfold ucheckV
  rw [if_neg (by omega)]
  by_cases h : ∀ j, 0 ≤ j → j < l.length → goodC l j = true
  · rw [if_pos h, if_pos (List.all_eq_true.2 (fun j hj => h j (by omega) (List.mem_range.1 hj)))]
  · rw [if_neg h, if_neg (fun h2 => h (fun j _ h3 => List.all_eq_true.1 h2 j (List.mem_range.2 h3)))]
open Classical in
theorem ucheck_f (l : List S58) (k : Nat) (hk : 40 < k) : user_Check.f k l = some (ucheckV l) := by
  unfold user_Check.f
  by_cases h : (l.length : Int) > 16
  · rw [if_pos h]
    unfold ucheckV
    rw [if_pos (by omega)]
  · rw [if_neg h, ucheckV_of l (by omega)]
    exact ucheck_l0 l (by omega) l.length k 0 (by omega) (by omega)
theorem ucheck_good {l : List S58} (h1 : l.length ≤ 16) (h2 : ∀ i, i < l.length → goodC l i = true) : ucheckV l = 0 := by
  unfold ucheckV
  rw [if_neg (by omega), if_pos (List.all_eq_true.2 (fun i hi => h2 i (List.mem_range.1 hi)))]
theorem ucheck_bad {l : List S58} (h1 : l.length ≤ 16) (i : Nat) (hi : i < l.length) (h2 : ¬ goodC l i = true) : ucheckV l = 1 := by
  unfold ucheckV
  rw [if_neg (by omega), if_neg (fun h => h2 (List.all_eq_true.1 h i (List.mem_range.2 hi)))]
theorem ucheck_many {l : List S58} (h1 : 16 < l.length) : ucheckV l = 4 := by
  unfold ucheckV
  rw [if_pos h1]
end Go.Proofs.Ytcjkekdmmjfgeaa.Pure
/- UserOrder, over numbers and lists: users stand by their names. For every input. -/
namespace Go.Proofs.Ytcjkekdmmjfgeaa.Pure
open Go.RowKit Go.Proofs.Ytcjkekdmmjfgeaa.X Go.Proofs.YtcjkekdmmjfgeaaW.PrintWords Go.Proofs.YtcjkekdmmjfgeaaW.PrintLast Go.Proofs.Ytcjkekdmmjfgeaa.Lib Go.Proofs.YtcjkekdmmjfgeaaW.PrintMore

/-- More users: xa, xb, .. -/
def xB (i : Nat) : ByteArray := (⟨#[120]⟩ : ByteArray) ++ strOfNums [(97 + (i : Int)) % 256]
def xU (i : Nat) : S58 := ⟨xB i, 0, 0, ⟨0, 0, 0, 0⟩, false⟩
def moreV (l : List S54) (n : Nat) : List S58 := usersV l ++ (List.range n).map xU
theorem more_len (l : List S54) (n : Nat) : (moreV l n).length = (usersV l).length + n := by simp [moreV]
theorem nm_ok : ∀ i : Fin 8, okName (nmB i.val) = true := by decide +kernel
theorem x_ok : ∀ i : Fin 20, okName (xB i.val) = true := by decide +kernel
theorem x_rises : ∀ i j : Fin 20, i < j → Op.bytesLess (xB i.val).toList (xB j.val).toList = true := by decide +kernel
theorem nm_x : ∀ i : Fin 8, ∀ j : Fin 20, Op.bytesLess (nmB i.val).toList (xB j.val).toList = true := by decide +kernel
theorem more_get1 (l : List S54) (n : Nat) {i : Nat} (h : i < (usersV l).length) : rd_T58 (moreV l n) (i : Int) = mkU l i := by
  have h1 := usersV_get l h
  rw [rdU_get h] at h1
  rw [rdU_get (by rw [more_len]; omega)]
  unfold moreV
  rw [List.getElem_append_left h, h1]
theorem more_get2 (l : List S54) (n : Nat) {i : Nat} (h : i < (moreV l n).length) (h2 : (usersV l).length ≤ i) : rd_T58 (moreV l n) (i : Int) = xU (i - (usersV l).length) := by
  rw [rdU_get h]
  exact (List.getElem_append_right h2).trans (by simp)
theorem more_ok (l : List S54) (n : Nat) (hn : n ≤ 20) {i : Nat} (h : i < (moreV l n).length) : okName (rd_T58 (moreV l n) (i : Int)).f0 = true := by
  have hl := users_le l
  have hm := more_len l n
  by_cases h1 : i < (usersV l).length
  · rw [more_get1 l n h1]
    exact nm_ok ⟨i, by omega⟩
  · rw [more_get2 l n h (by omega)]
    exact x_ok ⟨i - (usersV l).length, by omega⟩
theorem more_lab (l : List S54) (n : Nat) {i : Nat} (h : i < (moreV l n).length) : labB (rd_T58 (moreV l n) (i : Int)).f3.f0 (rd_T58 (moreV l n) (i : Int)).f3.f1 (rd_T58 (moreV l n) (i : Int)).f3.f2 (rd_T58 (moreV l n) (i : Int)).f3.f3 = true := by
  by_cases h1 : i < (usersV l).length
  · rw [more_get1 l n h1]
    obtain ⟨a1, a2, a3, a4, a5, a6, a7, a8⟩ := mkU_lab l i
    unfold labB
    simp only [Bool.and_eq_true, decide_eq_true_eq]
    omega
  · rw [more_get2 l n h (by omega)]
    rfl
theorem more_rising (l : List S54) (n : Nat) (hn : n ≤ 20) : Rising (keyC (moreV l n)) (moreV l n).length := by
  intro i j hij hj
  have hl := users_le l
  have hm := more_len l n
  unfold keyC
  by_cases h2 : j < (usersV l).length
  · rw [more_get1 l n h2, more_get1 l n (by omega : i < (usersV l).length)]
    exact nmB_rises ⟨i, by omega⟩ ⟨j, by omega⟩ hij
  · rw [more_get2 l n hj (by omega)]
    by_cases h1 : i < (usersV l).length
    · rw [more_get1 l n h1]
      exact nm_x ⟨i, by omega⟩ ⟨j - (usersV l).length, by omega⟩
    · rw [more_get2 l n (by omega) (by omega)]
      exact x_rises ⟨i - (usersV l).length, by omega⟩ ⟨j - (usersV l).length, by omega⟩ (by show i - (usersV l).length < j - (usersV l).length; omega)
theorem more_check (l : List S54) (n : Nat) (hn : n ≤ 20) : ucheckV (moreV l n) = if (moreV l n).length ≤ 16 then 0 else 4 := by
  by_cases h : (moreV l n).length ≤ 16
  · rw [if_pos h]
    refine ucheck_good h (fun i hi => goodC_split.2 ⟨more_ok l n hn hi, ?_, more_lab l n hi⟩)
    by_cases h0 : i = 0
    · exact .inl h0
    · exact .inr (more_rising l n hn (i - 1) i (by omega) hi)
  · rw [if_neg h]
    exact ucheck_many (by omega)
theorem rdU_set {l : List S58} {i j : Nat} {x : S58} (hi : i < l.length) : rd_T58 (l.set j x) (i : Int) = if j = i then x else rd_T58 l (i : Int) := by
  rw [rdU_get (by rw [List.length_set]; exact hi), rdU_get hi, List.getElem_set]
/-- Two that stand side by side, of which the second is not behind the first. -/
theorem bad_pair {l : List S58} (h16 : l.length ≤ 16) (p : Nat) (hp : p + 1 < l.length) (h : Op.bytesLess (keyC l p) (keyC l (p + 1)) = false) : ucheckV l = 1 := by
  refine ucheck_bad h16 (p + 1) hp (fun h2 => ?_)
  rcases (goodC_split.1 h2).2.1 with h3 | h3
  · omega
  · rw [show p + 1 - 1 = p from by omega, h] at h3
    exact absurd h3 (by simp)
theorem within9 (a n : Int) (hn : 0 < n) (hn1 : n ≤ 4611686018427387904) : ∃ r, donjonlaw9_within.f a n = some r ∧ 0 ≤ r ∧ r < n := by
  unfold donjonlaw9_within.f
  obtain ⟨r, e, h0, h1, _⟩ := within_small (a := a) hn hn1
  exact ⟨r, e, h0, h1⟩

theorem order_j1 (l : List S54) (n : Nat) (hn : n ≤ 20) (h2 : 2 ≤ (moreV l n).length) (h16 : (moreV l n).length ≤ 16) (at_ : Int) (k : Nat) (hk : 50 < k) : donjonlaw9_UserOrder.j1 (k + 1) at_ (moreV l n) false = some true := by
  rw [donjonlaw9_UserOrder.j1, if_neg (by simp)]
  obtain ⟨X, hX⟩ : ∃ X, X = moreV l n := ⟨_, rfl⟩
  have hr := more_rising l n hn
  rw [← hX] at hr h2 h16 ⊢
  have hwl : wrap64 ((X.length : Int) - 1) = (X.length : Int) - 1 := wrap64_id (by omega) (by omega)
  obtain ⟨r, e, h0, h1⟩ := within9 at_ ((X.length : Int) - 1) (by omega) (by omega)
  obtain ⟨p, rfl⟩ : ∃ p : Nat, r = (p : Int) := ⟨r.toNat, by omega⟩
  have hw : wrap64 ((p : Int) + 1) = ((p + 1 : Nat) : Int) := by rw [wrap64_id (by omega) (by omega)]; omega
  rw [hwl, e, Option.bind_some, Option.bind_some, if_pos (by show 0 + X.length < _; omega), Option.bind_some, hw, List.nil_append, if_pos (by omega), if_pos (by omega), if_pos (by omega), if_pos (by omega), Option.bind_some, if_pos (by show 0 + X.length < _; omega), Option.bind_some, List.nil_append, if_pos (by omega), if_pos (by omega), Int.toNat_natCast, Int.toNat_natCast, ucheck_f _ k (by omega), Option.bind_some]
  have hlt := hr p (p + 1) (by omega) (by omega)
  have hge := blt_asymm _ _ hlt
  unfold keyC at hlt hge
  have hx : ucheckV ((X.set p (⟨(rd_T58 X ((p + 1 : Nat) : Int)).f0, (rd_T58 X ((p + 1 : Nat) : Int)).f1, (rd_T58 X ((p + 1 : Nat) : Int)).f2, ⟨(rd_T58 X ((p + 1 : Nat) : Int)).f3.f0, (rd_T58 X ((p + 1 : Nat) : Int)).f3.f1, (rd_T58 X ((p + 1 : Nat) : Int)).f3.f2, (rd_T58 X ((p + 1 : Nat) : Int)).f3.f3⟩, (rd_T58 X ((p + 1 : Nat) : Int)).f4⟩ : S58)).set (p + 1) (⟨(rd_T58 X (p : Int)).f0, (rd_T58 X (p : Int)).f1, (rd_T58 X (p : Int)).f2, ⟨(rd_T58 X (p : Int)).f3.f0, (rd_T58 X (p : Int)).f3.f1, (rd_T58 X (p : Int)).f3.f2, (rd_T58 X (p : Int)).f3.f3⟩, (rd_T58 X (p : Int)).f4⟩ : S58)) = 1 := by
    refine bad_pair (by simp; omega) p (by simp; omega) ?_
    unfold keyC
    rw [rdU_set (by simp; omega), if_neg (by omega), rdU_set (by omega), if_pos rfl, rdU_set (by simp; omega), if_pos rfl]
    exact hge
  rw [hx, if_pos rfl, ucheck_f _ k (by omega), Option.bind_some]
  have hy : ucheckV (X.set (p + 1) (⟨(rd_T58 X (p : Int)).f0, (rd_T58 X ((p + 1 : Nat) : Int)).f1, (rd_T58 X ((p + 1 : Nat) : Int)).f2, ⟨(rd_T58 X ((p + 1 : Nat) : Int)).f3.f0, (rd_T58 X ((p + 1 : Nat) : Int)).f3.f1, (rd_T58 X ((p + 1 : Nat) : Int)).f3.f2, (rd_T58 X ((p + 1 : Nat) : Int)).f3.f3⟩, (rd_T58 X ((p + 1 : Nat) : Int)).f4⟩ : S58)) = 1 := by
    refine bad_pair (by simp; omega) p (by simp; omega) ?_
    unfold keyC
    rw [rdU_set (by omega), if_neg (by omega), rdU_set (by omega), if_pos rfl]
    exact blt_irrefl _
  rw [hy]
  rfl

theorem order_l0 (l : List S54) (n : Nat) (hn : n ≤ 20) (at_ : Int) (d : Nat) : ∀ (k i : Nat), i + d = n → d + 60 < k → donjonlaw9_UserOrder.l0 k at_ (n : Int) (moreV l i) (i : Int) = some true := by
  induction d with
  | zero =>
    intro k i hi hk
    obtain ⟨k, rfl⟩ : ∃ m, k = m + 2 := ⟨k - 2, by omega⟩
    have : i = n := by omega
    subst this
    rw [donjonlaw9_UserOrder.l0, if_neg (by omega), ucheck_f _ (k + 1) (by omega), Option.bind_some, more_check l i hn]
    by_cases h : (moreV l i).length ≤ 16
    · rw [if_pos h, decide_eq_true (by omega : ((moreV l i).length : Int) ≤ 16), if_neg (by decide)]
      by_cases h2 : ((moreV l i).length : Int) < 2
      · rw [if_pos h2, donjonlaw9_UserOrder.j1, if_pos rfl]
      · rw [if_neg h2, decide_eq_false (by omega)]
        exact order_j1 l i hn (by omega) h at_ k (by omega)
    · rw [if_neg h, decide_eq_false (by omega : ¬ ((moreV l i).length : Int) ≤ 16), if_neg (by decide), if_neg (by omega), decide_eq_true (by omega), donjonlaw9_UserOrder.j1, if_pos rfl]
  | succ d ih =>
    intro k i hi hk
    obtain ⟨k, rfl⟩ : ∃ m, k = m + 1 := ⟨k - 1, by omega⟩
    have hlen := more_len l i
    have hul := users_le l
    have w1 : wrap64 (97 + (i : Int)) = 97 + (i : Int) := wrap64_id (by omega) (by omega)
    have w3 : wrap64 ((i : Int) + 1) = ((i + 1 : Nat) : Int) := by rw [wrap64_id (by omega) (by omega)]; omega
    have hs : 1 + (strOfNums [(97 + (i : Int)) % 256]).size ≤ 9223372036854775807 := by
      have : (strOfNums [(97 + (i : Int)) % 256]).size = 1 := rfl
      rw [this]; decide
    rw [donjonlaw9_UserOrder.l0, if_pos (by omega), w1, w3, Option.bind_some, if_pos hs, good4_f, Option.bind_some, if_pos (by omega)]
    have hnext := ih k (i + 1) (by omega) (by omega)
    unfold moreV at hnext ⊢
    rw [List.range_succ, List.map_append, ← List.append_assoc] at hnext
    exact hnext

theorem UserOrder : ∀ (l0 : List (S54)) (a1 : Int) (a2 : Int), (l0.length ≤ maxLen ∧ l0.length * 32 ≤ 140737488351232 ∧ ∀ x ∈ l0, g_T54 x) → (Lit.int .i64 a1).wf = true → (Lit.int .i64 a2).wf = true → ∃ k, donjonlaw9_UserOrder.f k l0 a1 a2 = some true := by
  intro l a b _ _ _
  obtain ⟨K, hK⟩ : ∃ K : Nat, 1000 < K := ⟨1001, by omega⟩
  refine ⟨K, ?_⟩
  unfold donjonlaw9_UserOrder.f
  have h0 : moreV l 0 = usersV l := by simp [moreV]
  have hul := users_le l
  have hc : ucheckV (usersV l) = 0 := by
    have := more_check l 0 (by omega)
    rw [h0, if_pos (by omega)] at this
    exact this
  rw [known9, Option.bind_some, if_pos rfl, some_f l K (by omega), Option.bind_some, ucheck_f _ K (by omega), Option.bind_some, hc, if_pos rfl]
  obtain ⟨r, e, hr0, hr1⟩ := within9 b 20 (by omega) (by omega)
  obtain ⟨n, rfl⟩ : ∃ n : Nat, r = (n : Int) := ⟨r.toNat, by omega⟩
  rw [e, Option.bind_some, ← h0]
  exact order_l0 l n (by omega) a n K 0 (by omega) (by omega)
end Go.Proofs.Ytcjkekdmmjfgeaa.Pure
