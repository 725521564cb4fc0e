import Derived.Test.YtnepinkookbanaaDoorF11
import Derived.Test.YtnepinkookbanaaDoorF35
import Derived.Test.YtnepinkookbanaaDoorF39
import Derived.Test.YtnepinkookbanaaDoorF50
import Derived.Test.YtnepinkookbanaaDoorF33
import Derived.Test.YtnepinkookbanaaDoorF32
import Derived.Test.YtnepinkookbanaaDoorLib
import Derived.Laws.BitsLemmas
import Derived.Test.YtnepinkookbanaaDoorF24
import Derived.Test.YtnepinkookbanaaDoorF16
import Derived.Test.YtnepinkookbanaaDoorF15
import Derived.Lib.AtoiTie
import Derived.Test.YtnepinkookbanaaDoorHO
/- Plain lemmas on the bits of whole numbers. -/
namespace Go.Proofs.YtnepinkookbanaaDoor.Lib
open Go.RowKit Go.Proofs.YtnepinkookbanaaDoorW.PrintWords

theorem i64_wrap_id {n : Int} (h0 : -9223372036854775808 ≤ n) (h1 : n ≤ 9223372036854775807) : IntKind.i64.wrap n = n := by
  rw [Go.IntKind.wrap_i64]
  omega
theorem ofInt64_mod (x : Int) : (BitVec.ofInt 64 x).toNat = (x % 18446744073709551616).toNat := by
  rw [BitVec.toNat_ofInt]
  rfl
/-- Masking an int by 2^j - 1. -/
theorem and_i64_mask (x : Int) (j : Nat) (hj : j ≤ 62) : Go.bits .and .i64 x (2 ^ j - 1) = x % 2 ^ j := by
  have hp : (0 : Int) < 2 ^ j := Int.pow_pos (by decide)
  have hpn : 0 < 2 ^ j := Nat.two_pow_pos j
  have hle : 2 ^ j ≤ 2 ^ 62 := Nat.pow_le_pow_right (by decide) hj
  have hc : ((2 : Int) ^ j - 1) = ((2 ^ j - 1 : Nat) : Int) := by
    rw [Int.natCast_sub hpn]; simp
  have hm : (BitVec.ofInt 64 ((2 : Int) ^ j - 1)).toNat = 2 ^ j - 1 := by
    rw [hc, BitVec.ofInt_natCast, BitVec.toNat_ofNat]
    exact Nat.mod_eq_of_lt (by omega)
  show IntKind.i64.wrap ((BitVec.ofInt 64 x &&& BitVec.ofInt 64 (2 ^ j - 1)).toNat : Int) = _
  rw [BitVec.toNat_and, hm, Nat.and_two_pow_sub_one_eq_mod, ofInt64_mod]
  have hlt : (x % 18446744073709551616).toNat % 2 ^ j < 2 ^ j := Nat.mod_lt _ hpn
  rw [i64_wrap_id (by omega) (by omega)]
  have h0 : 0 ≤ x % 18446744073709551616 := Int.emod_nonneg _ (by decide)
  rw [Int.natCast_emod, Int.toNat_of_nonneg h0]
  have hd : ((2 ^ j : Nat) : Int) ∣ 18446744073709551616 := by
    refine ⟨((2 ^ (64 - j) : Nat) : Int), ?_⟩
    rw [← Int.natCast_mul, ← Nat.pow_add]
    have : j + (64 - j) = 64 := by omega
    rw [this]
    rfl
  rw [Int.emod_emod_of_dvd _ hd]
  simp
theorem and_u64_mask (x : Int) (j : Nat) (hj : j ≤ 62) : Go.bits .and .u64 x (2 ^ j - 1) = x % 2 ^ j := by
  have hpn : 0 < 2 ^ j := Nat.two_pow_pos j
  have hle : 2 ^ j ≤ 2 ^ 62 := Nat.pow_le_pow_right (by decide) hj
  have hc : ((2 : Int) ^ j - 1) = ((2 ^ j - 1 : Nat) : Int) := by
    rw [Int.natCast_sub hpn]; simp
  have hm : (BitVec.ofInt 64 ((2 : Int) ^ j - 1)).toNat = 2 ^ j - 1 := by
    rw [hc, BitVec.ofInt_natCast, BitVec.toNat_ofNat]
    exact Nat.mod_eq_of_lt (by omega)
  show IntKind.u64.wrap ((BitVec.ofInt 64 x &&& BitVec.ofInt 64 (2 ^ j - 1)).toNat : Int) = _
  rw [BitVec.toNat_and, hm, Nat.and_two_pow_sub_one_eq_mod, ofInt64_mod]
  have hlt : (x % 18446744073709551616).toNat % 2 ^ j < 2 ^ j := Nat.mod_lt _ hpn
  rw [u64_wrap, Int.emod_eq_of_lt (by omega) (by omega)]
  have h0 : 0 ≤ x % 18446744073709551616 := Int.emod_nonneg _ (by decide)
  rw [Int.natCast_emod, Int.toNat_of_nonneg h0]
  have hd : ((2 ^ j : Nat) : Int) ∣ 18446744073709551616 := by
    refine ⟨((2 ^ (64 - j) : Nat) : Int), ?_⟩
    rw [← Int.natCast_mul, ← Nat.pow_add]
    have : j + (64 - j) = 64 := by omega
    rw [this]
    rfl
  rw [Int.emod_emod_of_dvd _ hd]
  simp
theorem and_7 (x : Int) : Go.bits .and .i64 x 7 = x % 8 := and_i64_mask x 3 (by decide)
theorem and_65535 (x : Int) : Go.bits .and .i64 x 65535 = x % 65536 := and_i64_mask x 16 (by decide)
theorem and_4294967295 (x : Int) : Go.bits .and .i64 x 4294967295 = x % 4294967296 := and_i64_mask x 32 (by decide)
theorem uand_7 (x : Int) : Go.bits .and .u64 x 7 = x % 8 := and_u64_mask x 3 (by decide)
theorem uand_255 (x : Int) : Go.bits .and .u64 x 255 = x % 256 := and_u64_mask x 8 (by decide)
theorem uand_65535 (x : Int) : Go.bits .and .u64 x 65535 = x % 65536 := and_u64_mask x 16 (by decide)
theorem wraps_i64 (n : Int) (h₀ : 0 ≤ n) (h₁ : n < 2 ^ 63) : IntKind.i64.wrap n = n := i64_wrap_id (by omega) (by omega)
/-- or of what lies apart is the sum. -/
theorem or_apart (i : Nat) (x y : Int) (hx0 : 0 ≤ x) (hx : x % 2 ^ i = 0) (hx1 : x < 9223372036854775808) (hy0 : 0 ≤ y) (hy : y < 2 ^ i) (hy1 : y < 9223372036854775808) : Go.bits .or .i64 x y = x + y :=
  Go.bits_join .i64 63 (by decide) wraps_i64 i x y hx0 hx hx1 hy0 hy hy1
theorem within_small {a n : Int} (hn : 0 < n) (hn1 : n ≤ 4611686018427387904) :
    ∃ r, (if n = 0 then none else if Int.tmod a n < 0 then some (wrap64 (Int.tmod a n + n)) else some (Int.tmod a n)) = some r ∧ 0 ≤ r ∧ r < n ∧ r = a % n := by
  rw [if_neg (by omega)]
  have h1 := Int.tmod_lt_of_pos a hn
  have h2 : -n < Int.tmod a n := by
    have := Int.tmod_lt_of_pos (-a) hn
    rw [Int.neg_tmod] at this
    omega
  have h3 : Int.tmod a n = a % n ∨ Int.tmod a n = a % n - n := by
    rw [Int.tmod_eq_emod]
    split
    · left; omega
    · right
      have : (n.natAbs : Int) = n := by omega
      omega
  have h4 := Int.emod_nonneg a (by omega : n ≠ 0)
  have h5 := Int.emod_lt_of_pos a hn
  by_cases h : Int.tmod a n < 0
  · rw [if_pos h, wrap64_id (by omega) (by omega)]
    exact ⟨_, rfl, by omega, by omega, by omega⟩
  · rw [if_neg h]
    exact ⟨_, rfl, by omega, by omega, by omega⟩
end Go.Proofs.YtnepinkookbanaaDoor.Lib
/- The instructions' numbers, as they may be. -/
namespace Go.Proofs.YtnepinkookbanaaDoor.Pure
open Go.RowKit Go.Proofs.YtnepinkookbanaaDoor.X Go.Proofs.YtnepinkookbanaaDoorW.PrintWords Go.Proofs.YtnepinkookbanaaDoorW.PrintLast Go.Proofs.YtnepinkookbanaaDoor.Lib

/-- May an instruction be written? -/
def fits (o p n : Int) : Prop := 0 ≤ o ∧ o < 23 ∧ 0 ≤ p ∧ p < 4 ∧ -2147483648 ≤ n ∧ n ≤ 2147483647
def encV (o p n : Int) : Int := o * 72057594037927936 + p * 281474976710656 + n % 4294967296
def enc (o p n : Int) : Int × Int := if o < 0 ∨ 23 ≤ o then (0, 3) else if p < 0 ∨ 4 ≤ p ∨ n < -2147483648 ∨ 2147483647 < n then (0, 1) else (encV o p n, 0)
theorem word_of {o p n : Int} (h : fits o p n) : Go.bits .or .i64 (Go.bits .or .i64 (wrap64 (o * 72057594037927936)) (wrap64 (p * 281474976710656))) (n % 4294967296) = encV o p n := by
  obtain ⟨h1, h2, h3, h4, h5, h6⟩ := h
  unfold encV
  rw [wrap64_id (by omega) (by omega), wrap64_id (by omega) (by omega)]
  rw [or_apart 56 (o * 72057594037927936) (p * 281474976710656) (by omega) (by omega) (by omega) (by omega) (by omega) (by omega)]
  rw [or_apart 48 (o * 72057594037927936 + p * 281474976710656) (n % 4294967296) (by omega) (by omega) (by omega) (by omega) (by omega) (by omega)]
theorem encode_f (k : Nat) (o p n : Int) : isa_Encode.f (k + 1) o p n = some (enc o p n) := by
  unfold isa_Encode.f enc
  by_cases h1 : o < 0
  · rw [if_pos h1, if_pos (.inl h1)]
    simp [isa_Encode.j0]
  rw [if_neg h1]
  by_cases h2 : 23 ≤ o
  · rw [if_pos (.inr h2)]
    have : decide (o ≥ 23) = true := decide_eq_true h2
    rw [this]
    simp [isa_Encode.j0]
  have h2' : decide (o ≥ 23) = false := decide_eq_false (by omega)
  rw [if_neg (by omega), h2']
  simp only [isa_Encode.j0]
  rw [if_neg (by simp)]
  by_cases h3 : p < 0
  · rw [if_pos h3, if_pos (by omega)]
  rw [if_neg h3]
  by_cases h4 : 4 ≤ p
  · rw [if_pos h4, if_pos (by omega)]
  rw [if_neg (by omega)]
  unfold isa_short.f
  by_cases h5 : n ≥ -2147483648
  · rw [if_pos h5]
    simp only [Option.bind_some]
    by_cases h6 : n ≤ 2147483647
    · rw [decide_eq_true h6, if_pos rfl, if_neg (by omega), word_of ⟨by omega, by omega, by omega, by omega, by omega, by omega⟩]
    · rw [decide_eq_false h6, if_neg (by simp), if_pos (by omega)]
  · rw [if_neg h5]
    simp only [Option.bind_some]
    rw [if_neg (by simp), if_pos (by omega)]
theorem ref_encode_f (k : Nat) (o p n : Int) : donjonref15_Encode.f (k + 1) o p n = some (enc o p n) := by
  unfold donjonref15_Encode.f enc
  by_cases h1 : o < 0
  · rw [if_pos h1, if_pos (.inl h1)]
    simp [donjonref15_Encode.j0]
  rw [if_neg h1]
  by_cases h2 : 23 ≤ o
  · rw [if_pos (.inr h2)]
    have : decide (o > 22) = true := decide_eq_true (by omega)
    rw [this]
    simp [donjonref15_Encode.j0]
  have h2' : decide (o > 22) = false := decide_eq_false (by omega)
  rw [if_neg (by omega), h2']
  simp only [donjonref15_Encode.j0]
  rw [if_neg (by simp)]
  by_cases h3 : p < 0
  · rw [if_pos h3, if_pos (by omega)]
  rw [if_neg h3]
  by_cases h4 : 4 ≤ p
  · rw [if_pos (by omega), if_pos (by omega)]
  rw [if_neg (by omega)]
  by_cases h5 : n < -2147483648
  · rw [if_pos h5, if_pos (by omega)]
  rw [if_neg h5]
  by_cases h6 : n > 2147483647
  · rw [if_pos h6, if_pos (by omega)]
  rw [if_neg h6, if_neg (by omega), word_of ⟨by omega, by omega, by omega, by omega, by omega, by omega⟩]
theorem enc_ok {o p n : Int} (h : fits o p n) : enc o p n = (encV o p n, 0) := by
  obtain ⟨h1, h2, h3, h4, h5, h6⟩ := h
  unfold enc
  rw [if_neg (by omega), if_neg (by omega)]
theorem enc_fits {o p n : Int} (h : (enc o p n).2 = 0) : fits o p n := by
  unfold enc at h
  split at h
  · exact absurd h (by decide)
  · split at h
    · exact absurd h (by decide)
    · exact ⟨by omega, by omega, by omega, by omega, by omega, by omega⟩

theorem good_f (a b c : Int) : ∃ o p n, donjonlaw15_Good.f a b c = some (o, p, n) ∧ fits o p n := by
  unfold donjonlaw15_Good.f donjonlaw15_within.f
  obtain ⟨r1, e1, h1, h2, _⟩ := within_small (a := a) (n := 23) (by omega) (by omega)
  obtain ⟨r2, e2, h3, h4, _⟩ := within_small (a := b) (n := 4) (by omega) (by omega)
  obtain ⟨r3, e3, h5, h6, _⟩ := within_small (a := c) (n := 4294967296) (by omega) (by omega)
  rw [e1, e2, e3]
  simp only [Option.bind_some]
  rw [wrap64_id (by omega) (by omega)]
  exact ⟨_, _, _, rfl, by omega, by omega, by omega, by omega, by omega, by omega⟩
theorem known15 (k : Nat) : donjonlaw15_known.f (k + 1) = some true := by
  unfold donjonlaw15_known.f
  rw [encode_f]
  decide
end Go.Proofs.YtnepinkookbanaaDoor.Pure
/- Plain lemmas on texts' order, and on places in rows that are sorted by texts. -/
namespace Go.Proofs.YtnepinkookbanaaDoor.Lib
open Go.RowKit Go.Proofs.YtnepinkookbanaaDoorW.PrintWords

theorem blt_irrefl : ∀ x : List UInt8, Op.bytesLess x x = false
  | [] => rfl
  | a :: x => by simp [Op.bytesLess, blt_irrefl x]
theorem blt_trans : ∀ x y z : List UInt8, Op.bytesLess x y = true → Op.bytesLess y z = true → Op.bytesLess x z = true
  | _, [], _, h, _ => by simp [Op.bytesLess] at h
  | _, _ :: _, [], _, h => by simp [Op.bytesLess] at h
  | [], _ :: _, _ :: _, _, _ => rfl
  | a :: x, b :: y, c :: z, h1, h2 => by
    simp only [Op.bytesLess, Bool.or_eq_true, Bool.and_eq_true, decide_eq_true_eq, beq_iff_eq] at h1 h2 ⊢
    rcases h1 with h1 | ⟨rfl, h1⟩
    · rcases h2 with h2 | ⟨rfl, h2⟩
      · exact .inl (UInt8.lt_trans h1 h2)
      · exact .inl h1
    · rcases h2 with h2 | ⟨rfl, h2⟩
      · exact .inl h2
      · exact .inr ⟨rfl, blt_trans x y z h1 h2⟩
theorem blt_total : ∀ x y : List UInt8, Op.bytesLess x y = false → Op.bytesLess y x = false → x = y
  | [], [], _, _ => rfl
  | [], _ :: _, h, _ => by simp [Op.bytesLess] at h
  | _ :: _, [], _, h => by simp [Op.bytesLess] at h
  | a :: x, b :: y, h1, h2 => by
    simp only [Op.bytesLess, Bool.or_eq_false_iff, Bool.and_eq_false_iff, decide_eq_false_iff_not, beq_eq_false_iff_ne] at h1 h2
    have hab : a = b := by
      have h3 := h1.1
      have h4 := h2.1
      rw [UInt8.not_lt] at h3 h4
      exact UInt8.le_antisymm h4 h3
    subst hab
    have h5 : Op.bytesLess x y = false := by
      rcases h1.2 with h | h
      · exact absurd rfl h
      · exact h
    have h6 : Op.bytesLess y x = false := by
      rcases h2.2 with h | h
      · exact absurd rfl h
      · exact h
    rw [blt_total x y h5 h6]
theorem blt_asymm (x y : List UInt8) (h : Op.bytesLess x y = true) : Op.bytesLess y x = false := by
  cases h2 : Op.bytesLess y x with
  | false => rfl
  | true =>
    have := blt_trans x y x h h2
    rw [blt_irrefl] at this
    exact absurd this (by simp)

/-- The first m places are so, the others are not: m are so. -/
theorem count_prefix (p : Nat → Bool) (m : Nat) : ∀ n, m ≤ n → (∀ i, i < m → p i = true) → (∀ i, m ≤ i → i < n → p i = false) → (List.range n).countP p = m := by
  intro n
  induction n with
  | zero =>
    intro hm _ _
    have : m = 0 := by omega
    subst this
    rfl
  | succ n ih =>
    intro hm h1 h2
    rw [List.range_succ, List.countP_append]
    by_cases hmn : m ≤ n
    · rw [ih hmn h1 (fun i hi hn => h2 i hi (by omega))]
      have := h2 n hmn (by omega)
      simp [this]
    · have e : m = n + 1 := by omega
      subst e
      have h3 : (List.range n).countP p = n := by
        rw [List.countP_eq_length.2]
        · exact List.length_range
        · intro i hi
          exact h1 i (by have := List.mem_range.1 hi; omega)
      rw [h3]
      have := h1 n (by omega)
      simp [this]

/-- Keys that rise. -/
def Rising (K : Nat → List UInt8) (n : Nat) : Prop := ∀ i j, i < j → j < n → Op.bytesLess (K i) (K j) = true
theorem rising_of_steps (K : Nat → List UInt8) (n : Nat) (h : ∀ i, 0 < i → i < n → Op.bytesLess (K (i - 1)) (K i) = true) : Rising K n := by
  intro i j hij hj
  induction j with
  | zero => omega
  | succ j ih =>
    have h1 := h (j + 1) (by omega) hj
    have e : j + 1 - 1 = j := by omega
    rw [e] at h1
    by_cases hi : i = j
    · subst hi
      exact h1
    · exact blt_trans _ _ _ (ih (by omega) (by omega)) h1
section
variable {K : Nat → List UInt8} {n : Nat}
theorem rising_parted (h : Rising K n) (u : List UInt8) (i j : Nat) (hij : i ≤ j) (hj : j < n) (hi : Op.bytesLess (K i) u = false) : Op.bytesLess (K j) u = false := by
  by_cases e : i = j
  · subst e
    exact hi
  · cases h2 : Op.bytesLess (K j) u with
    | false => rfl
    | true =>
      have := blt_trans _ _ _ (h i j (by omega) hj) h2
      rw [this] at hi
      exact absurd hi (by simp)
theorem rising_inj (h : Rising K n) {i j : Nat} (hi : i < n) (hj : j < n) (e : K i = K j) : i = j := by
  rcases Nat.lt_trichotomy i j with h1 | h1 | h1
  · have := h i j h1 hj
    rw [e, blt_irrefl] at this
    exact absurd this (by simp)
  · exact h1
  · have := h j i h1 hi
    rw [e, blt_irrefl] at this
    exact absurd this (by simp)
/-- Where a key stands there are as many ahead of it. -/
theorem rising_place (h : Rising K n) {p : Nat} (hp : p < n) {u : List UInt8} (e : K p = u) : (List.range n).countP (fun i => Op.bytesLess (K i) u) = p := by
  subst e
  refine count_prefix _ p n (by omega) (fun i hi => h i p hi hp) (fun i hi hn => ?_)
  by_cases e : p = i
  · subst e
    exact blt_irrefl _
  · exact blt_asymm _ _ (h p i (by omega) hn)
/-- In any rising row there is a place up to which keys are less. -/
theorem rising_cut (h : Rising K n) (u : List UInt8) : ∃ m, m ≤ n ∧ (∀ i, i < m → Op.bytesLess (K i) u = true) ∧ (∀ i, m ≤ i → i < n → Op.bytesLess (K i) u = false) := by
  have key : ∀ m, m ≤ n → (∀ i, i < m → Op.bytesLess (K i) u = true) ∨ ∃ q, q ≤ m ∧ (∀ i, i < q → Op.bytesLess (K i) u = true) ∧ (∀ i, q ≤ i → i < n → Op.bytesLess (K i) u = false) := by
    intro m
    induction m with
    | zero => intro _; exact .inl (fun i hi => by omega)
    | succ m ih =>
      intro hm
      rcases ih (by omega) with h1 | ⟨q, hq, h2⟩
      · cases h3 : Op.bytesLess (K m) u with
        | true =>
          refine .inl (fun i hi => ?_)
          by_cases e : i = m
          · subst e; exact h3
          · exact h1 i (by omega)
        | false => exact .inr ⟨m, by omega, h1, fun i hi hn => rising_parted h u m i hi hn h3⟩
      · exact .inr ⟨q, by omega, h2⟩
  rcases key n (Nat.le_refl _) with h1 | ⟨q, hq, h2⟩
  · exact ⟨n, Nat.le_refl _, h1, fun i hi hn => by omega⟩
  · exact ⟨q, hq, h2⟩
end
theorem wf_bool_ne {a b : Bool} (h : a ≠ b) : a = !b := by cases a <;> cases b <;> simp_all
end Go.Proofs.YtnepinkookbanaaDoor.Lib
/- Labels in plain numbers: what may be known where. -/
namespace Go.Proofs.YtnepinkookbanaaDoor.Pure
open Go.RowKit Go.Proofs.YtnepinkookbanaaDoor.X Go.Proofs.YtnepinkookbanaaDoorW.PrintWords Go.Proofs.YtnepinkookbanaaDoorW.PrintLast Go.Proofs.YtnepinkookbanaaDoor.Lib Go.Proofs.YtnepinkookbanaaDoorW.PrintMore

theorem good4_f (a b c d : Int) : donjonlaw4_Good.f a b c d = some (a % 4, b % 256, c % 4, d % 256) := by
  unfold donjonlaw4_Good.f donjonlaw4_within.f
  obtain ⟨r1, e1, _, _, h1⟩ := within_small (a := a) (n := 4) (by omega) (by omega)
  obtain ⟨r2, e2, _, _, h2⟩ := within_small (a := b) (n := 256) (by omega) (by omega)
  obtain ⟨r3, e3, _, _, h3⟩ := within_small (a := c) (n := 4) (by omega) (by omega)
  obtain ⟨r4, e4, _, _, h4⟩ := within_small (a := d) (n := 256) (by omega) (by omega)
  rw [e1, e2, e3, e4, h1, h2, h3, h4]
  rfl
/-- and, or of what is not below 0, in natural numbers. -/
theorem and_i64 {a b : Int} (ha0 : 0 ≤ a) (ha : a < 9223372036854775808) (hb0 : 0 ≤ b) (hb : b < 9223372036854775808) : Go.bits .and .i64 a b = ((a.toNat &&& b.toNat : Nat) : Int) := by
  have hx : a.toNat &&& b.toNat ≤ a.toNat := Nat.and_le_left
  show IntKind.i64.wrap ((BitVec.ofInt 64 a &&& BitVec.ofInt 64 b).toNat : Int) = _
  rw [BitVec.toNat_and, ofInt64_toNat ha0 (by omega), ofInt64_toNat hb0 (by omega), i64_wrap_id (by omega) (by omega)]
theorem or_i64 {a b : Int} (ha0 : 0 ≤ a) (ha : a < 9223372036854775808) (hb0 : 0 ≤ b) (hb : b < 9223372036854775808) : Go.bits .or .i64 a b = ((a.toNat ||| b.toNat : Nat) : Int) := by
  have hx : a.toNat ||| b.toNat < 2 ^ 63 := Nat.or_lt_two_pow (by omega) (by omega)
  show IntKind.i64.wrap ((BitVec.ofInt 64 a ||| BitVec.ofInt 64 b).toNat : Int) = _
  rw [BitVec.toNat_or, ofInt64_toNat ha0 (by omega), ofInt64_toNat hb0 (by omega), i64_wrap_id (by omega) (by omega)]
theorem nat_or_iff (a b : Nat) : a ||| b = a ↔ a &&& b = b := by
  constructor
  · intro h
    rw [← h]
    apply Nat.eq_of_testBit_eq
    intro i
    simp
    intro hb
    exact .inr hb
  · intro h
    apply Nat.eq_of_testBit_eq
    intro i
    have hi : (a &&& b).testBit i = b.testBit i := by rw [h]
    simp at hi ⊢
    exact hi
/-- A label such as may be. -/
structure Lab (s c i d : Int) : Prop where
  s0 : 0 ≤ s
  s1 : s < 4
  c0 : 0 ≤ c
  c1 : c < 256
  i0 : 0 ≤ i
  i1 : i < 4
  d0 : 0 ≤ d
  d1 : d < 256
theorem lab_good (a b c d : Int) : Lab (a % 4) (b % 256) (c % 4) (d % 256) := ⟨by omega, by omega, by omega, by omega, by omega, by omega, by omega, by omega⟩
/-- May what is known at the second come to the first? -/
def overV (s c i d s' c' i' d' : Int) : Bool := decide (s' ≤ s) && (decide (c.toNat &&& c'.toNat = c'.toNat) && (decide (i ≤ i') && decide (d.toNat &&& d'.toNat = d.toNat)))
theorem mx_eq (a b : Int) : (mx a b == a) = decide (b ≤ a) := by
  unfold mx
  by_cases h : a < b
  · rw [if_pos h, decide_eq_false (by omega)]
    simp; omega
  · rw [if_neg h, decide_eq_true (by omega)]
    simp
theorem mn_eq (a b : Int) : (mn a b == a) = decide (a ≤ b) := by
  unfold mn
  by_cases h : b < a
  · rw [if_pos h, decide_eq_false (by omega)]
    simp; omega
  · rw [if_neg h, decide_eq_true (by omega)]
    simp
theorem over_f {s c i d s' c' i' d' : Int} (h : Lab s c i d) (h' : Lab s' c' i' d') : label_Over.f s c i d s' c' i' d' = some (overV s c i d s' c' i' d') := by
  obtain ⟨a1, a2, a3, a4, a5, a6, a7, a8⟩ := h
  obtain ⟨b1, b2, b3, b4, b5, b6, b7, b8⟩ := h'
  unfold label_Over.f label_Join.f overV
  rw [Option.bind_some, mx_eq, mn_eq, or_i64 a3 (by omega) b3 (by omega), and_i64 a7 (by omega) b7 (by omega)]
  congr 3
  · rw [Bool.eq_iff_iff]
    simp only [beq_iff_eq, decide_eq_true_eq]
    rw [← nat_or_iff]
    omega
  · congr 1
    rw [Bool.eq_iff_iff]
    simp only [beq_iff_eq, decide_eq_true_eq]
    omega
end Go.Proofs.YtnepinkookbanaaDoor.Pure
/- What label.Parse tells of a label's text. -/
namespace Go.Proofs.YtnepinkookbanaaDoor.Pure
open Go.RowKit Go.Proofs.YtnepinkookbanaaDoor.X Go.Proofs.YtnepinkookbanaaDoorW.PrintWords Go.Proofs.YtnepinkookbanaaDoorW.PrintLast Go.Proofs.YtnepinkookbanaaDoor.Lib Go.Proofs.YtnepinkookbanaaDoorW.PrintMore

theorem index_sign (x y : List UInt8) (c : UInt8) (h : c ∉ x) : Lib.index (x ++ c :: y) [c] = (x.length : Int) := by
  induction x with
  | nil => simp [Lib.index]
  | cons b x ih =>
    rw [List.mem_cons, not_or] at h
    have h2 := ih h.2
    show (if [c].isPrefixOf (b :: (x ++ c :: y)) = true then (0 : Int) else if (Lib.index (x ++ c :: y) [c] == -1) = true then -1 else Lib.index (x ++ c :: y) [c] + 1) = _
    rw [if_neg (by simp [List.isPrefixOf, h.1]), h2, if_neg (by first | (simp; done) | (simp; omega))]
    simp
theorem index_none (x : List UInt8) (c : UInt8) (h : c ∉ x) : Lib.index x [c] = -1 := by
  induction x with
  | nil => simp [Lib.index]
  | cons b x ih =>
    rw [List.mem_cons, not_or] at h
    have h2 := ih h.2
    show (if [c].isPrefixOf (b :: x) = true then (0 : Int) else if (Lib.index x [c] == -1) = true then -1 else Lib.index x [c] + 1) = _
    rw [if_neg (by simp [List.isPrefixOf, h.1]), h2, if_pos (by decide)]
theorem split_sign (x y : List UInt8) (c : UInt8) (k : Nat) (h : c ∉ x) : Lib.splitK [c] 0 (k + 1) (x ++ c :: y) = x :: Lib.splitK [c] 0 k y := by
  rw [Lib.splitK, index_sign x y c h, if_neg (by first | (simp; done) | (simp; omega)), Int.toNat_natCast, Nat.add_zero, List.take_left, List.length_singleton]
  congr 2
  rw [show x ++ c :: y = (x ++ [c]) ++ y by simp, List.drop_left' (by simp)]
theorem itoa_small : ∀ n : Fin 256, 46 ∉ Lib.itoa (n.val : Int) ∧ atoiV (Lib.itoa (n.val : Int)) = (n.val : Int) := by decide +kernel
theorem numeral_part {n : Int} (h0 : 0 ≤ n) (h1 : n < 256) : 46 ∉ Lib.itoa n ∧ atoiV (Lib.itoa n) = n := by
  have h := itoa_small ⟨n.toNat, by omega⟩
  have e : ((n.toNat : Nat) : Int) = n := by omega
  simp only [e] at h
  exact h
theorem textV_list (a b c d : Int) : (textV a b c d).data.toList = Lib.itoa a ++ 46 :: (Lib.itoa b ++ 46 :: (Lib.itoa c ++ 46 :: Lib.itoa d)) := by
  have e : (textV a b c d).data.toList = Lib.itoa a ++ ([46] ++ (Lib.itoa b ++ ([46] ++ (Lib.itoa c ++ ([46] ++ (Lib.itoa d ++ [])))))) := rfl
  rw [e]
  simp
theorem part_list (s : ByteArray) (i : Nat) : ((piecesV s 46).getD i ByteArray.empty).data.toList = (Lib.splitK [46] 0 (Lib.count s.data.toList [46]) s.data.toList).getD i [] := by
  have e : (piecesV s 46).map (·.data.toList) = Lib.splitK [46] 0 (Lib.count s.data.toList [46]) s.data.toList := Lib.splitB_data ⟨#[46]⟩ 0 _ s
  rw [← e, List.getD_eq_getElem?_getD, List.getD_eq_getElem?_getD, List.getElem?_map]
  cases (piecesV s 46)[i]? <;> rfl
/-- A label's text is read as that label. -/
theorem parse_text {a b c d : Int} (h : Lab a b c d) : parseV (textV a b c d) = (a, b, c, d, 0) := by
  obtain ⟨a0, a1, b0, b1, c0, c1, d0, d1⟩ := h
  obtain ⟨na, ea⟩ := numeral_part a0 (by omega : a < 256)
  obtain ⟨nb, eb⟩ := numeral_part b0 b1
  obtain ⟨nc, ec⟩ := numeral_part c0 (by omega : c < 256)
  obtain ⟨nd, ed⟩ := numeral_part d0 d1
  have hl := textV_list a b c d
  have hc : Lib.count (textV a b c d).data.toList [46] = 3 := by
    rw [Lib.count_one, hl]
    simp [List.count_append, List.count_eq_zero.2 na, List.count_eq_zero.2 nb, List.count_eq_zero.2 nc, List.count_eq_zero.2 nd]
  have hs : Lib.splitK [46] 0 3 (textV a b c d).data.toList = [Lib.itoa a, Lib.itoa b, Lib.itoa c, Lib.itoa d] := by
    rw [hl, split_sign _ _ _ _ na, split_sign _ _ _ _ nb, split_sign _ _ _ _ nc]
    rfl
  have p : ∀ i, partV (textV a b c d) i = atoiV ([Lib.itoa a, Lib.itoa b, Lib.itoa c, Lib.itoa d].getD i []) := fun i => by
    unfold partV
    rw [part_list, hc, hs]
  have p0 : partV (textV a b c d) 0 = a := (p 0).trans ea
  have p1 : partV (textV a b c d) 1 = b := (p 1).trans eb
  have p2 : partV (textV a b c d) 2 = c := (p 2).trans ec
  have p3 : partV (textV a b c d) 3 = d := (p 3).trans ed
  have ok : labOk a b c d = true := by
    unfold labOk
    simp only [Bool.and_eq_true, decide_eq_true_eq]
    omega
  unfold parseV
  rw [p0, p1, p2, p3, if_pos ⟨hc, ok, rfl⟩]
/-- What is read is a label, and the text is its own; else nothing is told. -/
theorem parse_ways (s : ByteArray) : parseV s = (0, 0, 0, 0, 1) ∨ ∃ a b c d, parseV s = (a, b, c, d, 0) ∧ Lab a b c d ∧ (textV a b c d).toList = s.toList := by
  unfold parseV
  by_cases h : Lib.countB s ⟨#[46]⟩ = 3 ∧ labOk (partV s 0) (partV s 1) (partV s 2) (partV s 3) = true ∧ (textV (partV s 0) (partV s 1) (partV s 2) (partV s 3)).toList = s.toList
  · rw [if_pos h]
    have ok := h.2.1
    unfold labOk at ok
    simp only [Bool.and_eq_true, decide_eq_true_eq] at ok
    exact .inr ⟨_, _, _, _, rfl, ⟨by omega, by omega, by omega, by omega, by omega, by omega, by omega, by omega⟩, h.2.2⟩
  · rw [if_neg h]
    exact .inl rfl
theorem bytes_eq {x y : ByteArray} (h : x.toList = y.toList) : x = y := by
  rw [Lib.toList_data, Lib.toList_data] at h
  obtain ⟨⟨a⟩⟩ := x
  obtain ⟨⟨b⟩⟩ := y
  have e : a = b := h
  subst e
  rfl
end Go.Proofs.YtnepinkookbanaaDoor.Pure
/- The instructions' texts: what is written is read again; what is read is written so. -/
namespace Go.Proofs.YtnepinkookbanaaDoor.Pure
open Go.RowKit Go.Proofs.YtnepinkookbanaaDoor.X Go.Proofs.YtnepinkookbanaaDoorW.PrintWords Go.Proofs.YtnepinkookbanaaDoorW.PrintLast Go.Proofs.YtnepinkookbanaaDoor.Lib

theorem byte_small {n : Nat} (h : n < 256) : (UInt8.ofNat n).toNat = n := by
  rw [UInt8.toNat_ofNat']
  omega
theorem dec_all (u : Nat) : ∀ b ∈ Lib.decDigits u, 48 ≤ b.toNat ∧ b.toNat ≤ 57 := by
  induction u using Nat.strongRecOn with
  | _ u ih =>
    intro b hb
    rw [Lib.decDigits] at hb
    split at hb
    · rw [List.mem_singleton] at hb
      rw [hb, byte_small (by omega)]
      omega
    · rw [List.mem_append, List.mem_singleton] at hb
      rcases hb with hb | hb
      · exact ih (u / 10) (by omega) b hb
      · rw [hb, byte_small (by omega)]
        omega
theorem decFrom_app (ys : List UInt8) : ∀ (xs : List UInt8) (acc n : Nat), Lib.decFrom acc xs = some n → Lib.decFrom acc (xs ++ ys) = Lib.decFrom n ys
  | [], acc, n, h => by
    obtain rfl := Option.some.inj h
    rfl
  | b :: r, acc, n, h => by
    have e1 : ∀ l : List UInt8, Lib.decFrom acc (b :: l) = (Lib.digitVal b).bind fun d => Lib.decFrom (acc * 10 + d) l := fun l => by
      show (match Lib.digitVal b with | some d => Lib.decFrom (acc * 10 + d) l | none => none) = _
      cases Lib.digitVal b <;> rfl
    rw [List.cons_append, e1]
    rw [e1] at h
    cases hd : Lib.digitVal b with
    | none => rw [hd] at h; exact absurd h (by simp)
    | some d =>
      rw [hd, Option.bind_some] at h
      rw [Option.bind_some]
      exact decFrom_app ys r _ n h
theorem digit_byte {d : Nat} (h : d < 10) : Lib.digitVal (UInt8.ofNat (48 + d)) = some d := by
  unfold Lib.digitVal
  rw [byte_small (by omega), if_pos (by omega)]
  congr 1
  omega
theorem dec_val (u : Nat) : Lib.decFrom 0 (Lib.decDigits u) = some u := by
  induction u using Nat.strongRecOn with
  | _ u ih =>
    rw [Lib.decDigits]
    split
    · rename_i h
      unfold Lib.decFrom
      rw [digit_byte h]
      show some (0 * 10 + u) = some u
      congr 1
      omega
    · rw [decFrom_app _ _ 0 (u / 10) (ih (u / 10) (by omega))]
      unfold Lib.decFrom
      rw [digit_byte (by omega)]
      show some (u / 10 * 10 + u % 10) = some u
      congr 1
      omega
theorem dec_len : ∀ (d u : Nat), u < 10 ^ (d + 1) → 1 ≤ (Lib.decDigits u).length ∧ (Lib.decDigits u).length ≤ d + 1
  | 0, u, h => by
    rw [Lib.decDigits, dif_pos (by simpa using h)]
    simp
  | d + 1, u, h => by
    rw [Lib.decDigits]
    split
    · simp
    · have h2 : u / 10 < 10 ^ (d + 1) := by
        rw [Nat.pow_succ] at h
        omega
      have := dec_len d (u / 10) h2
      rw [List.length_append, List.length_singleton]
      omega
/-- A numeral's signs. -/
theorem itoa_signs (n : Int) : ∀ b ∈ Lib.itoa n, b.toNat = 45 ∨ (48 ≤ b.toNat ∧ b.toNat ≤ 57) := by
  intro b hb
  unfold Lib.itoa at hb
  split at hb
  · rcases List.mem_cons.1 hb with rfl | hb
    · exact .inl rfl
    · exact .inr (dec_all _ b hb)
  · exact .inr (dec_all _ b hb)
theorem itoa_blank (n : Int) : 32 ∉ Lib.itoa n := by
  intro h
  have := itoa_signs n 32 h
  have e : (32 : UInt8).toNat = 32 := rfl
  omega
theorem itoa_len {n : Int} (h0 : -4294967296 ≤ n) (h1 : n ≤ 4294967296) : 1 ≤ (Lib.itoa n).length ∧ (Lib.itoa n).length ≤ 11 := by
  unfold Lib.itoa
  split
  · have := dec_len 9 n.natAbs (by omega)
    rw [List.length_cons]
    omega
  · have := dec_len 9 n.toNat (by omega)
    omega
theorem atoi_itoa (n : Int) : Lib.atoi (Lib.itoa n) = some n := by
  unfold Lib.itoa
  split
  · rename_i h
    have hv := dec_val n.natAbs
    have hl : (Lib.decDigits n.natAbs).isEmpty = false := by
      cases hd : Lib.decDigits n.natAbs with
      | nil => rw [hd] at hv; simp [Lib.decFrom] at hv; omega
      | cons a l => rfl
    have e : Lib.atoi (45 :: Lib.decDigits n.natAbs) = (Lib.decNat (Lib.decDigits n.natAbs)).map fun (m : Nat) => -(m : Int) := rfl
    rw [e]
    unfold Lib.decNat
    rw [hl, if_neg (by decide), hv, Option.map_some]
    congr 1
    omega
  · rename_i h
    have hv := dec_val n.toNat
    have ha := dec_all n.toNat
    cases hd : Lib.decDigits n.toNat with
    | nil =>
      have := congrArg List.length hd
      rw [Lib.decDigits] at this
      split at this <;> simp at this
    | cons a l =>
      rw [hd] at hv ha
      have h3 := ha a List.mem_cons_self
      have e45 : (a == 45) = false := by
        rw [beq_eq_false_iff_ne]
        intro e
        subst e
        have : (45 : UInt8).toNat = 45 := rfl
        omega
      have e43 : (a == 43) = false := by
        rw [beq_eq_false_iff_ne]
        intro e
        subst e
        have : (43 : UInt8).toNat = 43 := rfl
        omega
      unfold Lib.atoi Lib.decNat
      simp only [e45, e43, Bool.false_eq_true, if_false, List.isEmpty_cons, hv, Option.map_some]
      congr 1
      omega
theorem atoiV_itoa {n : Int} (h0 : -4294967296 ≤ n) (h1 : n ≤ 4294967296) : atoiV (Lib.itoa n) = n := by
  have hl := itoa_len h0 h1
  unfold atoiV
  rw [Lib.atoiAll_short _ (by omega), atoi_itoa]
  rfl
/-! ### The text -/
theorem op_blank : ∀ n : Fin 23, (32 : UInt8) ∉ (opName n.val).data.toList ∧ (opName n.val).data.toList.length ≤ 5 := by decide +kernel
theorem op_apart : ∀ i j : Fin 23, (opName i.val).data.toList = (opName j.val).data.toList → i = j := by decide +kernel
theorem itext_list (o p n : Int) : (itextV o p n).data.toList = (opName o.toNat).data.toList ++ 32 :: (Lib.itoa p ++ 32 :: Lib.itoa n) := by
  have e : (itextV o p n).data.toList = (opName o.toNat).data.toList ++ ([32] ++ (Lib.itoa p ++ ([32] ++ (Lib.itoa n ++ [])))) := rfl
  rw [e]
  simp
theorem part_list32 (s : ByteArray) (i : Nat) : (ipartV s i).data.toList = (Lib.splitK [32] 0 (Lib.count s.data.toList [32]) s.data.toList).getD i [] := by
  have e : (piecesV s 32).map (·.data.toList) = Lib.splitK [32] 0 (Lib.count s.data.toList [32]) s.data.toList := Lib.splitB_data ⟨#[32]⟩ 0 _ s
  unfold ipartV
  rw [← e, List.getD_eq_getElem?_getD, List.getD_eq_getElem?_getD, List.getElem?_map]
  cases (piecesV s 32)[i]? <;> rfl
theorem iloop_text {o p n : Int} (h : fits o p n) (l0 : ByteArray) (hl : l0.data.toList = (opName o.toNat).data.toList) : ∀ m : Nat, m ≤ 23 → 23 - m ≤ o.toNat → iloop (itextV o p n) l0 p n m = (o, p, n, 0)
  | 0, _, h2 => by
    have := h.2.1
    have := h.1
    omega
  | m + 1, hm, h2 => by
    obtain ⟨h0, h1, h3, h4, h5, h6⟩ := h
    rw [iloop]
    by_cases e : 22 - m = o.toNat
    · have eo : ((22 - m : Nat) : Int) = o := by omega
      rw [if_pos (by rw [Lib.toList_data, Lib.toList_data, hl, e]), eo, if_pos, if_pos rfl]
      unfold ipOk
      simp only [Bool.and_eq_true, decide_eq_true_eq]
      omega
    · rw [if_neg]
      · exact iloop_text ⟨h0, h1, h3, h4, h5, h6⟩ l0 hl m (by omega) (by omega)
      · intro hx
        rw [Lib.toList_data, Lib.toList_data, hl] at hx
        have := op_apart ⟨22 - m, by omega⟩ ⟨o.toNat, by omega⟩ hx
        rw [Fin.mk.injEq] at this
        exact e this
theorem iparse_text {o p n : Int} (h : fits o p n) : iparseV (itextV o p n) = (o, p, n, 0) := by
  have hf := h
  obtain ⟨h0, h1, h3, h4, h5, h6⟩ := h
  have nb := (op_blank ⟨o.toNat, by omega⟩).1
  have hl := itext_list o p n
  have hc : Lib.count (itextV o p n).data.toList [32] = 2 := by
    rw [Lib.count_one, hl]
    simp [List.count_append, List.count_eq_zero.2 nb, List.count_eq_zero.2 (itoa_blank p), List.count_eq_zero.2 (itoa_blank n)]
  have hs : Lib.splitK [32] 0 2 (itextV o p n).data.toList = [(opName o.toNat).data.toList, Lib.itoa p, Lib.itoa n] := by
    rw [hl, split_sign _ _ _ _ nb, split_sign _ _ _ _ (itoa_blank p)]
    rfl
  have p0 : (ipartV (itextV o p n) 0).data.toList = (opName o.toNat).data.toList := by rw [part_list32, hc, hs]; rfl
  have p1 : (ipartV (itextV o p n) 1).data.toList = Lib.itoa p := by rw [part_list32, hc, hs]; rfl
  have p2 : (ipartV (itextV o p n) 2).data.toList = Lib.itoa n := by rw [part_list32, hc, hs]; rfl
  unfold iparseV
  rw [if_pos hc, p1, p2, atoiV_itoa (by omega) (by omega), atoiV_itoa (by omega) (by omega)]
  exact iloop_text hf _ p0 23 (Nat.le_refl _) (by omega)
theorem iloop_ways (s l0 : ByteArray) (p n : Int) : ∀ m : Nat, m ≤ 23 → iloop s l0 p n m = (0, 0, 0, 6) ∨ ∃ o : Int, iloop s l0 p n m = (o, p, n, 0) ∧ fits o p n ∧ itextV o p n = s
  | 0, _ => .inl rfl
  | m + 1, hm => by
    rw [iloop]
    by_cases h1 : (opName (22 - m)).toList = l0.toList
    · rw [if_pos h1]
      by_cases h2 : ipOk p n = true
      · rw [if_pos h2]
        by_cases h3 : (itextV ((22 - m : Nat) : Int) p n).toList = s.toList
        · rw [if_pos h3]
          unfold ipOk at h2
          simp only [Bool.and_eq_true, decide_eq_true_eq] at h2
          exact .inr ⟨_, rfl, ⟨by omega, by omega, by omega, by omega, by omega, by omega⟩, bytes_eq h3⟩
        · rw [if_neg h3]
          exact iloop_ways s l0 p n m (by omega)
      · rw [if_neg h2]
        exact iloop_ways s l0 p n m (by omega)
    · rw [if_neg h1]
      exact iloop_ways s l0 p n m (by omega)
/-- What is read is an instruction such as may be, and the text is its own; else nothing is told. -/
theorem iparse_ways (s : ByteArray) : iparseV s = (0, 0, 0, 6) ∨ ∃ o p n, iparseV s = (o, p, n, 0) ∧ fits o p n ∧ itextV o p n = s := by
  unfold iparseV
  split
  · rcases iloop_ways s (ipartV s 0) (atoiV (ipartV s 1).data.toList) (atoiV (ipartV s 2).data.toList) 23 (Nat.le_refl _) with e | ⟨o, e, hf, ht⟩
    · exact .inl e
    · exact .inr ⟨o, _, _, e, hf, ht⟩
  · exact .inl rfl
end Go.Proofs.YtnepinkookbanaaDoor.Pure
/- IsaTexts, over numbers and lists: instructions are written as the document says, and read again; any text is read, or refused, as it says. For every input. -/
namespace Go.Proofs.YtnepinkookbanaaDoor.Pure
open Go.RowKit Go.Proofs.YtnepinkookbanaaDoor.X Go.Proofs.YtnepinkookbanaaDoorW.PrintWords Go.Proofs.YtnepinkookbanaaDoorW.PrintLast Go.Proofs.YtnepinkookbanaaDoor.Lib

theorem mk_app (x y : List UInt8) : (⟨x.toArray⟩ : ByteArray) ++ (⟨y.toArray⟩ : ByteArray) = ⟨(x ++ y).toArray⟩ := by
  apply bytes_eq
  rw [Lib.toList_data, Lib.toList_data]
  simp [ByteArray.data_append]
theorem mk_size (x : List UInt8) : (⟨x.toArray⟩ : ByteArray).size = x.length := by
  show x.toArray.size = _
  simp
theorem size_list (s : ByteArray) : s.size = s.data.toList.length := by simp
theorem dig_one : ∀ n : Fin 10, strOfNums [(wrap64 (48 + (n.val : Int))) % 256] = (⟨#[UInt8.ofNat (48 + n.val)]⟩ : ByteArray) := by decide +kernel
theorem ref_dec_nat : ∀ (d u : Nat), u < 10 ^ (d + 1) → u ≤ 4611686018427387904 → d ≤ 100 → ∀ k, d < k → donjonref15_decimal.f k (u : Int) = some ⟨(Lib.decDigits u).toArray⟩ := by
  intro d
  induction d with
  | zero =>
    intro u h _ _ k hk
    obtain ⟨k, rfl⟩ : ∃ q, k = q + 1 := ⟨k - 1, by omega⟩
    have h10 : u < 10 := by simpa using h
    rw [donjonref15_decimal.f, if_neg (by omega), if_neg (by omega), Lib.decDigits, dif_pos h10, dig_one ⟨u, h10⟩]
  | succ d ih =>
    intro u h hu hd k hk
    obtain ⟨k, rfl⟩ : ∃ q, k = q + 1 := ⟨k - 1, by omega⟩
    by_cases h10 : u < 10
    · rw [donjonref15_decimal.f, if_neg (by omega), if_neg (by omega), Lib.decDigits, dif_pos h10, dig_one ⟨u, h10⟩]
    · have e1 : wrap64 (Int.tdiv (u : Int) 10) = ((u / 10 : Nat) : Int) := by
        rw [Int.tdiv_eq_ediv_of_nonneg (by omega), wrap64_id (by omega) (by omega)]
        omega
      have e2 : Int.tmod (u : Int) 10 = ((u % 10 : Nat) : Int) := by
        rw [Int.tmod_eq_emod_of_nonneg (by omega)]
        omega
      have h2 : u / 10 < 10 ^ (d + 1) := by
        rw [Nat.pow_succ] at h
        omega
      have h3 : u % 10 < 10 ^ (d + 1) := by
        have : 10 ^ 1 ≤ 10 ^ (d + 1) := Nat.pow_le_pow_right (by omega) (by omega)
        omega
      have l1 := (dec_len d (u / 10) h2).2
      have l2 := (dec_len d (u % 10) h3).2
      rw [donjonref15_decimal.f, if_neg (by omega), if_pos (by omega), e1, e2, ih (u / 10) h2 (by omega) (by omega) k (by omega), Option.bind_some, ih (u % 10) h3 (by omega) (by omega) k (by omega), Option.bind_some, if_pos (by rw [mk_size, mk_size]; omega), mk_app]
      congr 3
      rw [Lib.decDigits_one (show u % 10 < 10 by omega)]
      conv => rhs; rw [Lib.decDigits, dif_neg h10]
theorem ref_dec {n : Int} (h0 : -4294967296 ≤ n) (h1 : n ≤ 4294967296) (k : Nat) (hk : 14 ≤ k) : donjonref15_decimal.f k n = some (numeralB n) := by
  by_cases hn : n < 0
  · obtain ⟨k, rfl⟩ : ∃ q, k = q + 1 := ⟨k - 1, by omega⟩
    have e : wrap64 (-n) = ((n.natAbs : Nat) : Int) := by
      rw [wrap64_id (by omega) (by omega)]
      omega
    have l := (dec_len 9 n.natAbs (by omega)).2
    have ei : Lib.itoa n = 45 :: Lib.decDigits n.natAbs := by
      unfold Lib.itoa
      rw [if_pos hn]
    rw [donjonref15_decimal.f, if_pos hn, e, ref_dec_nat 9 n.natAbs (by omega) (by omega) (by omega) k (by omega), Option.bind_some, if_pos (by rw [mk_size]; omega)]
    unfold numeralB
    rw [ei]
    exact congrArg some (mk_app [45] (Lib.decDigits n.natAbs))
  · have e : n = ((n.toNat : Nat) : Int) := by omega
    have ei : Lib.itoa n = Lib.decDigits n.toNat := by
      unfold Lib.itoa
      rw [if_neg hn]
    unfold numeralB
    rw [ei]
    conv => lhs; rw [e]
    exact ref_dec_nat 9 n.toNat (by omega) (by omega) (by omega) k (by omega)
theorem ref_name15 : ∀ o : Fin 23, donjonref15_name.f (o.val : Int) = some (opName o.val) := by decide +kernel
theorem ref_text15 {o p n : Int} (h : fits o p n) (k : Nat) (hk : 14 ≤ k) : donjonref15_Text.f k o p n = some (itextV o p n) := by
  obtain ⟨h0, h1, h3, h4, h5, h6⟩ := h
  have en : donjonref15_name.f o = some (opName o.toNat) := by
    have := ref_name15 ⟨o.toNat, by omega⟩
    have e : ((o.toNat : Nat) : Int) = o := by omega
    simp only [e] at this
    exact this
  have z0 : (opName o.toNat).size ≤ 5 := by rw [size_list]; exact (op_blank ⟨o.toNat, by omega⟩).2
  have z1 : (numeralB p).size ≤ 11 := by unfold numeralB; rw [mk_size]; exact (itoa_len (by omega) (by omega)).2
  have z2 : (numeralB n).size ≤ 11 := by unfold numeralB; rw [mk_size]; exact (itoa_len (by omega) (by omega)).2
  have z : (⟨#[32]⟩ : ByteArray).size = 1 := rfl
  unfold donjonref15_Text.f
  rw [en, Option.bind_some, if_pos (by omega), ref_dec (by omega) (by omega) k hk, Option.bind_some, if_pos (by simp only [ByteArray.size_append, z]; omega), if_pos (by simp only [ByteArray.size_append, z]; omega), ref_dec (by omega) (by omega) k hk, Option.bind_some, if_pos (by simp only [ByteArray.size_append, z]; omega)]
  congr 1
  apply bytes_eq
  rw [Lib.toList_data, Lib.toList_data, itext_list]
  simp only [ByteArray.data_append, Array.toList_append, List.append_assoc]
  rfl
/-! ### Numbers read -/
theorem bt_list (s : ByteArray) (i : Nat) (h : i < s.data.toList.length) : bt s (i : Int) = ((s.data.toList[i]).toNat : Int) := by
  have h2 : i < s.size := by rw [size_list]; exact h
  unfold bt
  rw [dif_pos (by rw [Int.toNat_natCast]; exact h2)]
  rfl
theorem num_any_l0 (s : ByteArray) (neg : Bool) (hs : s.size ≤ 1000) : ∀ (m i : Nat), i + m = s.size → ∀ k, m + 1 < k → ∀ acc : Int, ∃ v b, donjonref15_number.l0 k s neg acc (i : Int) = some (v, b) := by
  intro m
  induction m with
  | zero =>
    intro i hi k hk acc
    obtain ⟨k, rfl⟩ : ∃ q, k = q + 2 := ⟨k - 2, by omega⟩
    rw [donjonref15_number.l0, if_neg (by omega)]
    by_cases h1 : (s.size : Int) < 1
    · rw [if_pos h1, donjonref15_number.j3, if_pos rfl]
      exact ⟨_, _, rfl⟩
    · rw [if_neg h1, donjonref15_number.j3]
      split
      · exact ⟨_, _, rfl⟩
      · split <;> exact ⟨_, _, rfl⟩
  | succ m ih =>
    intro i hi k hk acc
    obtain ⟨k, rfl⟩ : ∃ q, k = q + 1 := ⟨k - 1, by omega⟩
    have hw : wrap64 ((i : Int) + 1) = ((i + 1 : Nat) : Int) := by rw [wrap64_id (by omega) (by omega)]; omega
    rw [donjonref15_number.l0, if_pos (by omega), if_pos (by omega), hw]
    split
    · exact ⟨_, _, rfl⟩
    · split
      · exact ⟨_, _, rfl⟩
      · exact ih (i + 1) (by omega) k (by omega) _
theorem num_any (s : ByteArray) (hs : s.size ≤ 30) (k : Nat) (hk : 60 ≤ k) : ∃ v b, donjonref15_number.f k s = some (v, b) := by
  obtain ⟨k, rfl⟩ : ∃ q, k = q + 2 := ⟨k - 2, by omega⟩
  have hz : (s.extract 1 s.size).size ≤ 30 := by rw [ByteArray.size_extract]; omega
  have hj : ∀ neg, (neg = true → 1 ≤ s.size) → ∃ v b, donjonref15_number.j0 (k + 2) s neg = some (v, b) := by
    intro neg hneg
    rw [donjonref15_number.j0]
    by_cases hn : neg = true
    · rw [if_pos hn, if_pos (by have := hneg hn; omega), donjonref15_number.j1]
      exact num_any_l0 _ neg (by omega) (s.extract 1 s.size).size 0 (by omega) k (by omega) 0
    · rw [if_neg hn, donjonref15_number.j1]
      exact num_any_l0 s neg (by omega) s.size 0 (by omega) k (by omega) 0
  unfold donjonref15_number.f
  by_cases h1 : (s.size : Int) > 0
  · rw [if_pos h1, if_pos h1]
    exact hj _ (fun _ => by omega)
  · rw [if_neg h1]
    exact hj _ (fun h => absurd h (by decide))
theorem decFrom_ge : ∀ (l : List UInt8) (acc v : Nat), Lib.decFrom acc l = some v → acc ≤ v
  | [], acc, v, h => by
    obtain rfl := Option.some.inj h
    exact Nat.le_refl _
  | b :: r, acc, v, h => by
    have e1 : Lib.decFrom acc (b :: r) = (Lib.digitVal b).bind fun d => Lib.decFrom (acc * 10 + d) r := by
      show (match Lib.digitVal b with | some d => Lib.decFrom (acc * 10 + d) r | none => none) = _
      cases Lib.digitVal b <;> rfl
    rw [e1] at h
    cases hd : Lib.digitVal b with
    | none => rw [hd] at h; exact absurd h (by simp)
    | some d =>
      rw [hd, Option.bind_some] at h
      have := decFrom_ge r _ v h
      omega
theorem num_digits_l0 (s : ByteArray) (neg : Bool) (hs : s.size ≤ 10) (h1 : 1 ≤ s.size) (v : Nat) (hv : v ≤ 4294967296) : ∀ (m i : Nat), i + m = s.size → ∀ k, m + 1 < k → ∀ acc : Nat, Lib.decFrom acc (s.data.toList.drop i) = some v →
    donjonref15_number.l0 k s neg (acc : Int) (i : Int) = some (if neg = true then -(v : Int) else (v : Int), true) := by
  intro m
  induction m with
  | zero =>
    intro i hi k hk acc h
    obtain ⟨k, rfl⟩ : ∃ q, k = q + 2 := ⟨k - 2, by omega⟩
    rw [List.drop_of_length_le (by rw [← size_list]; omega)] at h
    obtain rfl := Option.some.inj h
    rw [donjonref15_number.l0, if_neg (by omega), if_neg (by omega), donjonref15_number.j3, decide_eq_false (by omega), if_neg (by decide)]
    by_cases hn : neg = true
    · rw [if_pos hn, if_pos hn, wrap64_id (by omega) (by omega)]
    · rw [if_neg hn, if_neg hn]
  | succ m ih =>
    intro i hi k hk acc h
    obtain ⟨k, rfl⟩ : ∃ q, k = q + 1 := ⟨k - 1, by omega⟩
    have hlt : i < s.data.toList.length := by rw [← size_list]; omega
    have hw : wrap64 ((i : Int) + 1) = ((i + 1 : Nat) : Int) := by rw [wrap64_id (by omega) (by omega)]; omega
    rw [List.drop_eq_getElem_cons hlt] at h
    have e1 : ∀ (b : UInt8) (r : List UInt8), Lib.decFrom acc (b :: r) = (Lib.digitVal b).bind fun d => Lib.decFrom (acc * 10 + d) r := fun b r => by
      show (match Lib.digitVal b with | some d => Lib.decFrom (acc * 10 + d) r | none => none) = _
      cases Lib.digitVal b <;> rfl
    rw [e1] at h
    have hb := bt_list s i hlt
    generalize s.data.toList[i] = b at h hb
    unfold Lib.digitVal at h
    by_cases hd : 48 ≤ b.toNat ∧ b.toNat ≤ 57
    · rw [if_pos hd, Option.bind_some] at h
      have hge := decFrom_ge _ _ v h
      rw [donjonref15_number.l0, if_pos (by omega), if_pos (by omega), hw, hb, if_neg (by omega), if_neg (by omega)]
      have ea : wrap64 (wrap64 (10 * (acc : Int)) + (((b.toNat : Int) - 48) % 256)) = ((acc * 10 + (b.toNat - 48) : Nat) : Int) := by
        rw [wrap64_id (n := 10 * (acc : Int)) (by omega) (by omega), wrap64_id (by omega) (by omega)]
        omega
      rw [ea]
      exact ih (i + 1) (by omega) k (by omega) _ h
    · rw [if_neg hd] at h
      exact absurd h (by simp)
theorem num_itoa {n : Int} (h0 : -4294967296 ≤ n) (h1 : n ≤ 4294967296) (s : ByteArray) (hs : s.data.toList = Lib.itoa n) (k : Nat) (hk : 60 ≤ k) : donjonref15_number.f k s = some (n, true) := by
  obtain ⟨k, rfl⟩ : ∃ q, k = q + 2 := ⟨k - 2, by omega⟩
  have hl := itoa_len h0 h1
  have hz : s.size = (Lib.itoa n).length := by rw [size_list, hs]
  have hfirst := bt_list s 0 (by rw [hs]; omega)
  unfold donjonref15_number.f
  rw [if_pos (by omega), if_pos (by omega)]
  by_cases hn : n < 0
  · have ei : Lib.itoa n = 45 :: Lib.decDigits n.natAbs := by
      unfold Lib.itoa
      rw [if_pos hn]
    have hb : (bt s 0 == 45) = true := by
      have e0 : bt s 0 = bt s ((0 : Nat) : Int) := rfl
      rw [e0, hfirst]
      simp only [hs, ei]
      rfl
    have hd : (s.extract 1 s.size).data.toList = Lib.decDigits n.natAbs := by
      have : (s.extract 1 s.size).data.toList = (s.data.toList.drop 1).take (s.size - 1) := by simp [List.extract_eq_take_drop]
      rw [this, hs, ei, List.drop_succ_cons, List.drop_zero, List.take_of_length_le (by rw [hz, ei, List.length_cons]; omega)]
    have hdl := dec_len 9 n.natAbs (by omega)
    have hzx : (s.extract 1 s.size).size = (Lib.decDigits n.natAbs).length := by rw [size_list, hd]
    rw [hb, donjonref15_number.j0, if_pos rfl, if_pos (by omega), donjonref15_number.j1]
    have h := num_digits_l0 (s.extract 1 s.size) true (by omega) (by omega) n.natAbs (by omega) (s.extract 1 s.size).size 0 (by omega) k (by omega) 0 (by rw [hd, List.drop_zero]; exact dec_val _)
    rw [if_pos rfl] at h
    refine h.trans ?_
    congr 2
    omega
  · have ei : Lib.itoa n = Lib.decDigits n.toNat := by
      unfold Lib.itoa
      rw [if_neg hn]
    have hb : (bt s 0 == 45) = false := by
      have e0 : bt s 0 = bt s ((0 : Nat) : Int) := rfl
      rw [beq_eq_false_iff_ne, e0, hfirst]
      have hm0 : ∀ x, x ∈ s.data.toList → x ∈ Lib.decDigits n.toNat := fun x hx => by
        rw [hs, ei] at hx
        exact hx
      have hm := hm0 _ (List.getElem_mem (show 0 < s.data.toList.length by rw [hs]; omega))
      have := dec_all _ _ hm
      omega
    have hdl := dec_len 9 n.toNat (by omega)
    rw [ei] at hz
    rw [hb, donjonref15_number.j0, if_neg (by decide), donjonref15_number.j1]
    have h := num_digits_l0 s false (by omega) (by omega) n.toNat (by omega) s.size 0 (by omega) k (by omega) 0 (by rw [hs, ei, List.drop_zero]; exact dec_val _)
    rw [if_neg (by decide)] at h
    refine h.trans ?_
    congr 2
    omega
/-! ### Where the blanks stand -/
def blanks : List UInt8 → Nat → List Int
  | [], _ => []
  | b :: r, i => if b = 32 then (i : Int) :: blanks r (i + 1) else blanks r (i + 1)
theorem blanks_none : ∀ (l : List UInt8) (i : Nat), 32 ∉ l → blanks l i = []
  | [], _, _ => rfl
  | b :: r, i, h => by
    rw [List.mem_cons, not_or] at h
    rw [blanks, if_neg (fun e => h.1 e.symm)]
    exact blanks_none r (i + 1) h.2
theorem blanks_first : ∀ (x : List UInt8) (y : List UInt8) (i : Nat), 32 ∉ x → blanks (x ++ 32 :: y) i = ((i + x.length : Nat) : Int) :: blanks y (i + x.length + 1)
  | [], y, i, _ => by
    rw [List.nil_append, blanks, if_pos rfl]
    rfl
  | b :: r, y, i, h => by
    rw [List.mem_cons, not_or] at h
    rw [List.cons_append, blanks, if_neg (fun e => h.1 e.symm), blanks_first r y (i + 1) h.2, List.length_cons, show i + 1 + r.length = i + (r.length + 1) by omega]
theorem blanks_head : ∀ (l : List UInt8) (i : Nat) (a : Int) (rest : List Int), blanks l i = a :: rest → ∃ x y, l = x ++ 32 :: y ∧ 32 ∉ x ∧ a = ((i + x.length : Nat) : Int) ∧ rest = blanks y (i + x.length + 1)
  | [], i, a, rest, h => by rw [blanks] at h; exact absurd h (by simp)
  | b :: r, i, a, rest, h => by
    rw [blanks] at h
    by_cases e : b = 32
    · rw [if_pos e, List.cons.injEq] at h
      refine ⟨[], r, by rw [e]; rfl, by simp, h.1.symm, h.2.symm⟩
    · rw [if_neg e] at h
      obtain ⟨x, y, h1, h2, h3, h4⟩ := blanks_head r (i + 1) a rest h
      refine ⟨b :: x, y, by rw [h1]; rfl, ?_, ?_, ?_⟩
      · rw [List.mem_cons, not_or]
        exact ⟨fun e2 => e e2.symm, h2⟩
      · rw [h3, List.length_cons]
        omega
      · rw [h4, List.length_cons, show i + 1 + x.length = i + (x.length + 1) by omega]
theorem blanks_len : ∀ (l : List UInt8) (i : Nat), (blanks l i).length ≤ l.length
  | [], _ => Nat.le_refl _
  | b :: r, i => by
    have := blanks_len r (i + 1)
    rw [blanks]
    split
    · rw [List.length_cons, List.length_cons]
      omega
    · rw [List.length_cons]
      omega
theorem find_blanks (s : ByteArray) (hs : s.size ≤ 30) (q : Nat) : ∀ (m i : Nat), i + m = s.size → ∀ at_ : List Int, at_.length ≤ i → donjonref15_Parse.l0 (m + q) s at_ (i : Int) = donjonref15_Parse.l0 q s (at_ ++ blanks (s.data.toList.drop i) i) (s.size : Int) := by
  intro m
  induction m with
  | zero =>
    intro i hi at_ _
    rw [List.drop_of_length_le (by rw [← size_list]; omega), blanks, List.append_nil, Nat.zero_add, show i = s.size by omega]
  | succ m ih =>
    intro i hi at_ ha
    have hlt : i < s.data.toList.length := by rw [← size_list]; omega
    have hw : wrap64 ((i : Int) + 1) = ((i + 1 : Nat) : Int) := by rw [wrap64_id (by omega) (by omega)]; omega
    have hb := bt_list s i hlt
    rw [show m + 1 + q = (m + q) + 1 by omega, donjonref15_Parse.l0, if_pos (by omega), if_pos (by omega), hw, hb, List.drop_eq_getElem_cons hlt, blanks]
    generalize s.data.toList[i] = b at hb ⊢
    by_cases e : b = 32
    · have e2 : ((b.toNat : Nat) : Int) = 32 := by rw [e]; rfl
      rw [if_pos e2, if_pos e, if_pos (by omega), ih (i + 1) (by omega) _ (by rw [List.length_append, List.length_singleton]; omega), List.append_assoc]
      rfl
    · have e2 : ¬ ((b.toNat : Nat) : Int) = 32 := by
        intro h
        apply e
        apply UInt8.toNat_inj.1
        have : (32 : UInt8).toNat = 32 := rfl
        omega
      rw [if_neg e2, if_neg e, ih (i + 1) (by omega) at_ (by omega)]
/-! ### The document's reading -/
theorem encode15 (k : Nat) (o p n : Int) (hk : 1 ≤ k) : donjonref15_Encode.f k o p n = some (enc o p n) := by
  obtain ⟨k, rfl⟩ : ∃ q, k = q + 1 := ⟨k - 1, by omega⟩
  exact ref_encode_f k o p n
theorem ref_l1_ways (s : ByteArray) (p : Int) (is : Bool) (n : Int) (was : Bool) : ∀ (m i : Nat), i + m = 23 → ∀ k, 2 * m + 20 ≤ k →
    donjonref15_Parse.l1 k s p is n was (i : Int) = some (0, 0, 0, 6) ∨ ∃ o : Int, donjonref15_Parse.l1 k s p is n was (i : Int) = some (o, p, n, 0) ∧ fits o p n ∧ itextV o p n = s := by
  intro m
  induction m with
  | zero =>
    intro i hi k hk
    obtain ⟨k, rfl⟩ : ∃ q, k = q + 2 := ⟨k - 2, by omega⟩
    rw [donjonref15_Parse.l1, if_neg (by omega), donjonref15_Parse.j2, if_neg (by decide)]
    exact .inl rfl
  | succ m ih =>
    intro i hi k hk
    obtain ⟨k, rfl⟩ : ∃ q, k = q + 2 := ⟨k - 2, by omega⟩
    have hw : wrap64 ((i : Int) + 1) = ((i + 1 : Nat) : Int) := by rw [wrap64_id (by omega) (by omega)]; omega
    rw [donjonref15_Parse.l1, if_pos (by omega)]
    by_cases hb : is = true ∧ was = true
    · obtain ⟨rfl, rfl⟩ := hb
      rw [if_pos rfl, donjonref15_Parse.j2, if_pos rfl, encode15 k _ _ _ (by omega), Option.bind_some, hw]
      by_cases he : (enc (i : Int) p n).2 = 0
      · have hf := enc_fits he
        rw [if_pos he, ref_text15 hf k (by omega), Option.bind_some]
        by_cases ht : (itextV (i : Int) p n).toList = s.toList
        · rw [if_pos ht]
          exact .inr ⟨_, rfl, hf, bytes_eq ht⟩
        · rw [if_neg ht]
          exact ih (i + 1) (by omega) k (by omega)
      · rw [if_neg he]
        exact ih (i + 1) (by omega) k (by omega)
    · have hj : donjonref15_Parse.j2 (k + 1) s p is n was (i : Int) false = some (0, 0, 0, 6) := by
        rw [donjonref15_Parse.j2, if_neg (by decide)]
      by_cases h1 : is = true
      · have h2 : was = false := by
          cases was with
          | false => rfl
          | true => exact absurd ⟨h1, rfl⟩ hb
        rw [if_pos h1, h2]
        rw [h2] at hj
        exact .inl hj
      · rw [if_neg h1]
        exact .inl hj
theorem ref_l1_text {o p n : Int} (h : fits o p n) : ∀ (m i : Nat), i + m = 23 → i ≤ o.toNat → ∀ k, 2 * m + 20 ≤ k → donjonref15_Parse.l1 k (itextV o p n) p true n true (i : Int) = some (o, p, n, 0) := by
  intro m
  induction m with
  | zero =>
    intro i hi ho k hk
    have := h.2.1
    have := h.1
    omega
  | succ m ih =>
    intro i hi ho k hk
    obtain ⟨k, rfl⟩ : ∃ q, k = q + 2 := ⟨k - 2, by omega⟩
    have hw : wrap64 ((i : Int) + 1) = ((i + 1 : Nat) : Int) := by rw [wrap64_id (by omega) (by omega)]; omega
    have hf : fits (i : Int) p n := by
      obtain ⟨h0, h1, h3, h4, h5, h6⟩ := h
      exact ⟨by omega, by omega, h3, h4, h5, h6⟩
    rw [donjonref15_Parse.l1, if_pos (by omega), if_pos rfl, donjonref15_Parse.j2, if_pos rfl, encode15 k _ _ _ (by omega), Option.bind_some, hw, enc_ok hf, if_pos rfl, ref_text15 hf k (by omega), Option.bind_some]
    by_cases e : (i : Int) = o
    · rw [e, if_pos rfl]
    · rw [if_neg]
      · exact ih (i + 1) (by omega) (by have := h.1; omega) k (by omega)
      · intro ht
        have h2 := iparse_text hf
        rw [bytes_eq ht, iparse_text h] at h2
        simp only [Prod.mk.injEq] at h2
        omega
theorem cut_list (s : ByteArray) (a b : Nat) : (s.extract a b).data.toList = (s.data.toList.drop a).take (b - a) := by
  simp [List.extract_eq_take_drop]
theorem ref_l0_end (s : ByteArray) (hs : s.size ≤ 30) (k : Nat) (x y z : List UInt8) (hl : s.data.toList = x ++ 32 :: (y ++ 32 :: z)) : donjonref15_Parse.l0 (k + 1) s [((x.length : Nat) : Int), ((x.length + 1 + y.length : Nat) : Int)] (s.size : Int) =
    (donjonref15_number.f k (s.extract (x.length + 1) (x.length + 1 + y.length))).bind fun t => (donjonref15_number.f k (s.extract (x.length + 1 + y.length + 1) s.size)).bind fun u => donjonref15_Parse.l1 k s t.1 t.2 u.1 u.2 0 := by
  have hz : s.size = x.length + 1 + y.length + 1 + z.length := by
    rw [size_list, hl]
    simp only [List.length_append, List.length_cons]
    omega
  have r0 : rd [((x.length : Nat) : Int), ((x.length + 1 + y.length : Nat) : Int)] 0 = ((x.length : Nat) : Int) := rfl
  have r1 : rd [((x.length : Nat) : Int), ((x.length + 1 + y.length : Nat) : Int)] 1 = ((x.length + 1 + y.length : Nat) : Int) := rfl
  have ll : (([((x.length : Nat) : Int), ((x.length + 1 + y.length : Nat) : Int)] : List Int).length : Int) = 2 := rfl
  have w1 : wrap64 (((x.length : Nat) : Int) + 1) = ((x.length + 1 : Nat) : Int) := by rw [wrap64_id (by omega) (by omega)]; omega
  have w2 : wrap64 (((x.length + 1 + y.length : Nat) : Int) + 1) = ((x.length + 1 + y.length + 1 : Nat) : Int) := by rw [wrap64_id (by omega) (by omega)]; omega
  rw [donjonref15_Parse.l0, if_neg (by omega), ll, if_pos rfl, if_pos (by decide), if_pos (by decide), r0, r1, w1, w2, if_pos (by omega), if_pos (by omega), if_pos (by omega), Int.toNat_natCast, Int.toNat_natCast, Int.toNat_natCast]
  congr 1
  funext t
  rw [if_pos (by omega), if_pos (by omega)]
theorem ref_ways (s : ByteArray) : donjonref15_Parse.f 200 s = some (0, 0, 0, 6) ∨ ∃ o p n, donjonref15_Parse.f 200 s = some (o, p, n, 0) ∧ fits o p n ∧ itextV o p n = s := by
  unfold donjonref15_Parse.f
  by_cases hs : (s.size : Int) > 30
  · rw [if_pos hs]
    exact .inl rfl
  · have e := find_blanks s (by omega) (200 - s.size) s.size 0 (by omega) [] (Nat.le_refl _)
    rw [show s.size + (200 - s.size) = 200 by omega, List.nil_append, List.drop_zero] at e
    rw [if_neg hs, show (0 : Int) = ((0 : Nat) : Int) from rfl, e]
    obtain ⟨k, hk⟩ : ∃ q, 200 - s.size = q + 1 := ⟨199 - s.size, by omega⟩
    rw [hk]
    by_cases h2 : (blanks s.data.toList 0).length = 2
    · obtain ⟨a, b, hab⟩ : ∃ a b, blanks s.data.toList 0 = [a, b] := by
        match hb : blanks s.data.toList 0, h2 with
        | [a, b], _ => exact ⟨a, b, rfl⟩
      obtain ⟨x, l2, hx, _, ha, hr⟩ := blanks_head _ _ _ _ hab
      obtain ⟨y, z, hy, _, hb, _⟩ := blanks_head _ _ _ _ hr.symm
      rw [hy] at hx
      have ea : a = ((x.length : Nat) : Int) := by rw [ha]; omega
      have eb : b = ((x.length + 1 + y.length : Nat) : Int) := by rw [hb]; omega
      obtain ⟨v1, b1, n1⟩ := num_any (s.extract (x.length + 1) (x.length + 1 + y.length)) (by rw [ByteArray.size_extract]; omega) k (by omega)
      obtain ⟨v2, b2, n2⟩ := num_any (s.extract (x.length + 1 + y.length + 1) s.size) (by rw [ByteArray.size_extract]; omega) k (by omega)
      rw [hab, ea, eb, ref_l0_end s (by omega) k x y z hx, n1, Option.bind_some, n2, Option.bind_some]
      rcases ref_l1_ways s v1 b1 v2 b2 23 0 (by omega) k (by omega) with h | ⟨o, h, hf, ht⟩
      · exact .inl h
      · exact .inr ⟨o, v1, v2, h, hf, ht⟩
    · rw [donjonref15_Parse.l0, if_neg (by omega), if_neg (by omega)]
      exact .inl rfl
theorem ref_parse_text {o p n : Int} (h : fits o p n) : donjonref15_Parse.f 200 (itextV o p n) = some (o, p, n, 0) := by
  obtain ⟨h0, h1, h3, h4, h5, h6⟩ := id h
  have hob := op_blank ⟨o.toNat, by omega⟩
  have lp := itoa_len (n := p) (by omega) (by omega)
  have ln := itoa_len (n := n) (by omega) (by omega)
  have hl := itext_list o p n
  obtain ⟨s, hse⟩ : ∃ s, itextV o p n = s := ⟨_, rfl⟩
  rw [hse] at hl ⊢
  obtain ⟨x, hx⟩ : ∃ x, (opName o.toNat).data.toList = x := ⟨_, rfl⟩
  rw [hx] at hl
  simp only [hx] at hob
  have hz : s.size = x.length + 1 + (Lib.itoa p).length + 1 + (Lib.itoa n).length := by
    rw [size_list, hl]
    simp only [List.length_append, List.length_cons]
    omega
  have hs : s.size ≤ 30 := by omega
  have e := find_blanks s hs (200 - s.size) s.size 0 (by omega) [] (Nat.le_refl _)
  rw [show s.size + (200 - s.size) = 200 by omega, List.nil_append, List.drop_zero, hl, blanks_first x _ 0 hob.1, blanks_first (Lib.itoa p) _ _ (itoa_blank p), blanks_none _ _ (itoa_blank n)] at e
  obtain ⟨k, hk⟩ : ∃ q, 200 - s.size = q + 1 := ⟨199 - s.size, by omega⟩
  unfold donjonref15_Parse.f
  rw [if_neg (by omega), show (0 : Int) = ((0 : Nat) : Int) from rfl, e, hk, show 0 + x.length = x.length by omega, ref_l0_end s hs k x (Lib.itoa p) (Lib.itoa n) hl]
  have d1 : (s.extract (x.length + 1) (x.length + 1 + (Lib.itoa p).length)).data.toList = Lib.itoa p := by
    rw [cut_list, hl, show x ++ 32 :: (Lib.itoa p ++ 32 :: Lib.itoa n) = (x ++ [32]) ++ (Lib.itoa p ++ 32 :: Lib.itoa n) by simp, List.drop_left' (by simp), show x.length + 1 + (Lib.itoa p).length - (x.length + 1) = (Lib.itoa p).length by omega, List.take_left]
  have d2 : (s.extract (x.length + 1 + (Lib.itoa p).length + 1) s.size).data.toList = Lib.itoa n := by
    rw [cut_list, hl, show x ++ 32 :: (Lib.itoa p ++ 32 :: Lib.itoa n) = (x ++ 32 :: (Lib.itoa p ++ [32])) ++ Lib.itoa n by simp, List.drop_left' (by simp only [List.length_append, List.length_cons, List.length_nil]; omega), List.take_of_length_le (by omega)]
  rw [num_itoa (by omega) (by omega) _ d1 k (by omega), Option.bind_some, num_itoa (by omega) (by omega) _ d2 k (by omega), Option.bind_some, ← hse]
  exact ref_l1_text h 23 0 (by omega) (by omega) k (by omega)
theorem ref_parse15 (s : ByteArray) : donjonref15_Parse.f 200 s = some (iparseV s) := by
  rcases iparse_ways s with e | ⟨o, p, n, e, hf, ht⟩
  · rw [e]
    rcases ref_ways s with h | ⟨o, p, n, h, hf, ht⟩
    · exact h
    · have h2 := iparse_text hf
      rw [ht, e] at h2
      simp only [Prod.mk.injEq] at h2
      omega
  · rw [e, ← ht]
    exact ref_parse_text hf
theorem isa_text_f {o p n : Int} (h : fits o p n) : isa_Text.f o p n = some (itextV o p n) := by
  obtain ⟨h0, h1, h3, h4, h5, h6⟩ := h
  unfold isa_Text.f fits64
  rw [if_pos (by omega), if_neg (by omega)]
theorem itext_size {o p n : Int} (h : fits o p n) : (itextV o p n).size ≤ 30 := by
  obtain ⟨h0, h1, h3, h4, h5, h6⟩ := h
  have hob := op_blank ⟨o.toNat, by omega⟩
  have lp := itoa_len (n := p) (by omega) (by omega)
  have ln := itoa_len (n := n) (by omega) (by omega)
  have h7 := hob.2
  rw [size_list, itext_list]
  simp only [List.length_append, List.length_cons]
  simp only at h7
  omega
theorem isa_parse_f (s : ByteArray) (h : s.size < 4294967281) : isa_Parse.f s = some (iparseV s) := by
  unfold isa_Parse.f
  rw [if_pos h]
theorem IsaTexts : ∀ (a0_0 : Int) (a0_1 : Int) (a0_2 : Int) (a1 : ByteArray), (Lit.int .i64 a0_0).wf = true → (Lit.int .i64 a0_1).wf = true → (Lit.int .i64 a0_2).wf = true → a1.size ≤ 140737488351232 → ∃ k, donjonlaw15_IsaTexts.f k a0_0 a0_1 a0_2 a1 = some true := by
  intro a b c s _ _ _ _
  refine ⟨200, ?_⟩
  unfold donjonlaw15_IsaTexts.f
  have hk : donjonlaw15_known.f 200 = some true := known15 199
  rw [hk, Option.bind_some, if_pos rfl]
  by_cases hs : (s.size : Int) > 200
  · rw [if_pos hs]
  · obtain ⟨o, p, n, hg, hf⟩ := good_f a b c
    rw [if_neg hs, hg, Option.bind_some]
    dsimp only
    rw [isa_text_f hf, Option.bind_some, isa_parse_f _ (by have := itext_size hf; omega), iparse_text hf, Option.bind_some, isa_parse_f s (by omega), Option.bind_some, ref_parse15 s, Option.bind_some, ref_text15 hf 200 (by omega), Option.bind_some, if_pos rfl, if_pos rfl, if_pos (by simp), if_pos (by simp), if_pos rfl]
    rcases iparse_ways s with e | ⟨o2, p2, n2, e, hf2, ht⟩
    · rw [e, if_neg (by decide)]
    · rw [e, if_pos rfl, isa_text_f hf2, Option.bind_some, ht]
      simp
end Go.Proofs.YtnepinkookbanaaDoor.Pure
