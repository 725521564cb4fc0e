import Derived.Test.YtnepinkookbanaaDoorF12
import Derived.Test.YtnepinkookbanaaDoorF39
import Derived.Test.YtnepinkookbanaaDoorF50
import Derived.Test.YtnepinkookbanaaDoorF33
import Derived.Test.YtnepinkookbanaaDoorF32
import Derived.Test.YtnepinkookbanaaDoorLib
import Derived.Laws.BitsLemmas
import Derived.Test.YtnepinkookbanaaDoorHO
/- Plain lemmas on the bits of whole numbers. -/
namespace Go.Proofs.YtnepinkookbanaaDoor.Lib
open Go.RowKit Go.Proofs.YtnepinkookbanaaDoorW.PrintWords

theorem i64_wrap_id {n : Int} (h0 : -9223372036854775808 ≤ n) (h1 : n ≤ 9223372036854775807) : IntKind.i64.wrap n = n := by
  rw [Go.IntKind.wrap_i64]
  omega
theorem ofInt64_mod (x : Int) : (BitVec.ofInt 64 x).toNat = (x % 18446744073709551616).toNat := by
  rw [BitVec.toNat_ofInt]
  rfl
/-- Masking an int by 2^j - 1. -/
theorem and_i64_mask (x : Int) (j : Nat) (hj : j ≤ 62) : Go.bits .and .i64 x (2 ^ j - 1) = x % 2 ^ j := by
  have hp : (0 : Int) < 2 ^ j := Int.pow_pos (by decide)
  have hpn : 0 < 2 ^ j := Nat.two_pow_pos j
  have hle : 2 ^ j ≤ 2 ^ 62 := Nat.pow_le_pow_right (by decide) hj
  have hc : ((2 : Int) ^ j - 1) = ((2 ^ j - 1 : Nat) : Int) := by
    rw [Int.natCast_sub hpn]; simp
  have hm : (BitVec.ofInt 64 ((2 : Int) ^ j - 1)).toNat = 2 ^ j - 1 := by
    rw [hc, BitVec.ofInt_natCast, BitVec.toNat_ofNat]
    exact Nat.mod_eq_of_lt (by omega)
  show IntKind.i64.wrap ((BitVec.ofInt 64 x &&& BitVec.ofInt 64 (2 ^ j - 1)).toNat : Int) = _
  rw [BitVec.toNat_and, hm, Nat.and_two_pow_sub_one_eq_mod, ofInt64_mod]
  have hlt : (x % 18446744073709551616).toNat % 2 ^ j < 2 ^ j := Nat.mod_lt _ hpn
  rw [i64_wrap_id (by omega) (by omega)]
  have h0 : 0 ≤ x % 18446744073709551616 := Int.emod_nonneg _ (by decide)
  rw [Int.natCast_emod, Int.toNat_of_nonneg h0]
  have hd : ((2 ^ j : Nat) : Int) ∣ 18446744073709551616 := by
    refine ⟨((2 ^ (64 - j) : Nat) : Int), ?_⟩
    rw [← Int.natCast_mul, ← Nat.pow_add]
    have : j + (64 - j) = 64 := by omega
    rw [this]
    rfl
  rw [Int.emod_emod_of_dvd _ hd]
  simp
theorem and_u64_mask (x : Int) (j : Nat) (hj : j ≤ 62) : Go.bits .and .u64 x (2 ^ j - 1) = x % 2 ^ j := by
  have hpn : 0 < 2 ^ j := Nat.two_pow_pos j
  have hle : 2 ^ j ≤ 2 ^ 62 := Nat.pow_le_pow_right (by decide) hj
  have hc : ((2 : Int) ^ j - 1) = ((2 ^ j - 1 : Nat) : Int) := by
    rw [Int.natCast_sub hpn]; simp
  have hm : (BitVec.ofInt 64 ((2 : Int) ^ j - 1)).toNat = 2 ^ j - 1 := by
    rw [hc, BitVec.ofInt_natCast, BitVec.toNat_ofNat]
    exact Nat.mod_eq_of_lt (by omega)
  show IntKind.u64.wrap ((BitVec.ofInt 64 x &&& BitVec.ofInt 64 (2 ^ j - 1)).toNat : Int) = _
  rw [BitVec.toNat_and, hm, Nat.and_two_pow_sub_one_eq_mod, ofInt64_mod]
  have hlt : (x % 18446744073709551616).toNat % 2 ^ j < 2 ^ j := Nat.mod_lt _ hpn
  rw [u64_wrap, Int.emod_eq_of_lt (by omega) (by omega)]
  have h0 : 0 ≤ x % 18446744073709551616 := Int.emod_nonneg _ (by decide)
  rw [Int.natCast_emod, Int.toNat_of_nonneg h0]
  have hd : ((2 ^ j : Nat) : Int) ∣ 18446744073709551616 := by
    refine ⟨((2 ^ (64 - j) : Nat) : Int), ?_⟩
    rw [← Int.natCast_mul, ← Nat.pow_add]
    have : j + (64 - j) = 64 := by omega
    rw [this]
    rfl
  rw [Int.emod_emod_of_dvd _ hd]
  simp
theorem and_7 (x : Int) : Go.bits .and .i64 x 7 = x % 8 := and_i64_mask x 3 (by decide)
theorem and_65535 (x : Int) : Go.bits .and .i64 x 65535 = x % 65536 := and_i64_mask x 16 (by decide)
theorem and_4294967295 (x : Int) : Go.bits .and .i64 x 4294967295 = x % 4294967296 := and_i64_mask x 32 (by decide)
theorem uand_7 (x : Int) : Go.bits .and .u64 x 7 = x % 8 := and_u64_mask x 3 (by decide)
theorem uand_255 (x : Int) : Go.bits .and .u64 x 255 = x % 256 := and_u64_mask x 8 (by decide)
theorem uand_65535 (x : Int) : Go.bits .and .u64 x 65535 = x % 65536 := and_u64_mask x 16 (by decide)
theorem wraps_i64 (n : Int) (h₀ : 0 ≤ n) (h₁ : n < 2 ^ 63) : IntKind.i64.wrap n = n := i64_wrap_id (by omega) (by omega)
/-- or of what lies apart is the sum. -/
theorem or_apart (i : Nat) (x y : Int) (hx0 : 0 ≤ x) (hx : x % 2 ^ i = 0) (hx1 : x < 9223372036854775808) (hy0 : 0 ≤ y) (hy : y < 2 ^ i) (hy1 : y < 9223372036854775808) : Go.bits .or .i64 x y = x + y :=
  Go.bits_join .i64 63 (by decide) wraps_i64 i x y hx0 hx hx1 hy0 hy hy1
theorem within_small {a n : Int} (hn : 0 < n) (hn1 : n ≤ 4611686018427387904) :
    ∃ r, (if n = 0 then none else if Int.tmod a n < 0 then some (wrap64 (Int.tmod a n + n)) else some (Int.tmod a n)) = some r ∧ 0 ≤ r ∧ r < n ∧ r = a % n := by
  rw [if_neg (by omega)]
  have h1 := Int.tmod_lt_of_pos a hn
  have h2 : -n < Int.tmod a n := by
    have := Int.tmod_lt_of_pos (-a) hn
    rw [Int.neg_tmod] at this
    omega
  have h3 : Int.tmod a n = a % n ∨ Int.tmod a n = a % n - n := by
    rw [Int.tmod_eq_emod]
    split
    · left; omega
    · right
      have : (n.natAbs : Int) = n := by omega
      omega
  have h4 := Int.emod_nonneg a (by omega : n ≠ 0)
  have h5 := Int.emod_lt_of_pos a hn
  by_cases h : Int.tmod a n < 0
  · rw [if_pos h, wrap64_id (by omega) (by omega)]
    exact ⟨_, rfl, by omega, by omega, by omega⟩
  · rw [if_neg h]
    exact ⟨_, rfl, by omega, by omega, by omega⟩
end Go.Proofs.YtnepinkookbanaaDoor.Lib
/- The instructions' numbers, as they may be. -/
namespace Go.Proofs.YtnepinkookbanaaDoor.Pure
open Go.RowKit Go.Proofs.YtnepinkookbanaaDoor.X Go.Proofs.YtnepinkookbanaaDoorW.PrintWords Go.Proofs.YtnepinkookbanaaDoorW.PrintLast Go.Proofs.YtnepinkookbanaaDoor.Lib

/-- May an instruction be written? -/
def fits (o p n : Int) : Prop := 0 ≤ o ∧ o < 23 ∧ 0 ≤ p ∧ p < 4 ∧ -2147483648 ≤ n ∧ n ≤ 2147483647
def encV (o p n : Int) : Int := o * 72057594037927936 + p * 281474976710656 + n % 4294967296
def enc (o p n : Int) : Int × Int := if o < 0 ∨ 23 ≤ o then (0, 3) else if p < 0 ∨ 4 ≤ p ∨ n < -2147483648 ∨ 2147483647 < n then (0, 1) else (encV o p n, 0)
theorem word_of {o p n : Int} (h : fits o p n) : Go.bits .or .i64 (Go.bits .or .i64 (wrap64 (o * 72057594037927936)) (wrap64 (p * 281474976710656))) (n % 4294967296) = encV o p n := by
  obtain ⟨h1, h2, h3, h4, h5, h6⟩ := h
  unfold encV
  rw [wrap64_id (by omega) (by omega), wrap64_id (by omega) (by omega)]
  rw [or_apart 56 (o * 72057594037927936) (p * 281474976710656) (by omega) (by omega) (by omega) (by omega) (by omega) (by omega)]
  rw [or_apart 48 (o * 72057594037927936 + p * 281474976710656) (n % 4294967296) (by omega) (by omega) (by omega) (by omega) (by omega) (by omega)]
theorem encode_f (k : Nat) (o p n : Int) : isa_Encode.f (k + 1) o p n = some (enc o p n) := by
  unfold isa_Encode.f enc
  by_cases h1 : o < 0
  · rw [if_pos h1, if_pos (.inl h1)]
    simp [isa_Encode.j0]
  rw [if_neg h1]
  by_cases h2 : 23 ≤ o
  · rw [if_pos (.inr h2)]
    have : decide (o ≥ 23) = true := decide_eq_true h2
    rw [this]
    simp [isa_Encode.j0]
  have h2' : decide (o ≥ 23) = false := decide_eq_false (by omega)
  rw [if_neg (by omega), h2']
  simp only [isa_Encode.j0]
  rw [if_neg (by simp)]
  by_cases h3 : p < 0
  · rw [if_pos h3, if_pos (by omega)]
  rw [if_neg h3]
  by_cases h4 : 4 ≤ p
  · rw [if_pos h4, if_pos (by omega)]
  rw [if_neg (by omega)]
  unfold isa_short.f
  by_cases h5 : n ≥ -2147483648
  · rw [if_pos h5]
    simp only [Option.bind_some]
    by_cases h6 : n ≤ 2147483647
    · rw [decide_eq_true h6, if_pos rfl, if_neg (by omega), word_of ⟨by omega, by omega, by omega, by omega, by omega, by omega⟩]
    · rw [decide_eq_false h6, if_neg (by simp), if_pos (by omega)]
  · rw [if_neg h5]
    simp only [Option.bind_some]
    rw [if_neg (by simp), if_pos (by omega)]
theorem ref_encode_f (k : Nat) (o p n : Int) : donjonref15_Encode.f (k + 1) o p n = some (enc o p n) := by
  unfold donjonref15_Encode.f enc
  by_cases h1 : o < 0
  · rw [if_pos h1, if_pos (.inl h1)]
    simp [donjonref15_Encode.j0]
  rw [if_neg h1]
  by_cases h2 : 23 ≤ o
  · rw [if_pos (.inr h2)]
    have : decide (o > 22) = true := decide_eq_true (by omega)
    rw [this]
    simp [donjonref15_Encode.j0]
  have h2' : decide (o > 22) = false := decide_eq_false (by omega)
  rw [if_neg (by omega), h2']
  simp only [donjonref15_Encode.j0]
  rw [if_neg (by simp)]
  by_cases h3 : p < 0
  · rw [if_pos h3, if_pos (by omega)]
  rw [if_neg h3]
  by_cases h4 : 4 ≤ p
  · rw [if_pos (by omega), if_pos (by omega)]
  rw [if_neg (by omega)]
  by_cases h5 : n < -2147483648
  · rw [if_pos h5, if_pos (by omega)]
  rw [if_neg h5]
  by_cases h6 : n > 2147483647
  · rw [if_pos h6, if_pos (by omega)]
  rw [if_neg h6, if_neg (by omega), word_of ⟨by omega, by omega, by omega, by omega, by omega, by omega⟩]
theorem enc_ok {o p n : Int} (h : fits o p n) : enc o p n = (encV o p n, 0) := by
  obtain ⟨h1, h2, h3, h4, h5, h6⟩ := h
  unfold enc
  rw [if_neg (by omega), if_neg (by omega)]
theorem enc_fits {o p n : Int} (h : (enc o p n).2 = 0) : fits o p n := by
  unfold enc at h
  split at h
  · exact absurd h (by decide)
  · split at h
    · exact absurd h (by decide)
    · exact ⟨by omega, by omega, by omega, by omega, by omega, by omega⟩

theorem good_f (a b c : Int) : ∃ o p n, donjonlaw15_Good.f a b c = some (o, p, n) ∧ fits o p n := by
  unfold donjonlaw15_Good.f donjonlaw15_within.f
  obtain ⟨r1, e1, h1, h2, _⟩ := within_small (a := a) (n := 23) (by omega) (by omega)
  obtain ⟨r2, e2, h3, h4, _⟩ := within_small (a := b) (n := 4) (by omega) (by omega)
  obtain ⟨r3, e3, h5, h6, _⟩ := within_small (a := c) (n := 4294967296) (by omega) (by omega)
  rw [e1, e2, e3]
  simp only [Option.bind_some]
  rw [wrap64_id (by omega) (by omega)]
  exact ⟨_, _, _, rfl, by omega, by omega, by omega, by omega, by omega, by omega⟩
theorem known15 (k : Nat) : donjonlaw15_known.f (k + 1) = some true := by
  unfold donjonlaw15_known.f
  rw [encode_f]
  decide
end Go.Proofs.YtnepinkookbanaaDoor.Pure
/- Plain lemmas on texts' order, and on places in rows that are sorted by texts. -/
namespace Go.Proofs.YtnepinkookbanaaDoor.Lib
open Go.RowKit Go.Proofs.YtnepinkookbanaaDoorW.PrintWords

theorem blt_irrefl : ∀ x : List UInt8, Op.bytesLess x x = false
  | [] => rfl
  | a :: x => by simp [Op.bytesLess, blt_irrefl x]
theorem blt_trans : ∀ x y z : List UInt8, Op.bytesLess x y = true → Op.bytesLess y z = true → Op.bytesLess x z = true
  | _, [], _, h, _ => by simp [Op.bytesLess] at h
  | _, _ :: _, [], _, h => by simp [Op.bytesLess] at h
  | [], _ :: _, _ :: _, _, _ => rfl
  | a :: x, b :: y, c :: z, h1, h2 => by
    simp only [Op.bytesLess, Bool.or_eq_true, Bool.and_eq_true, decide_eq_true_eq, beq_iff_eq] at h1 h2 ⊢
    rcases h1 with h1 | ⟨rfl, h1⟩
    · rcases h2 with h2 | ⟨rfl, h2⟩
      · exact .inl (UInt8.lt_trans h1 h2)
      · exact .inl h1
    · rcases h2 with h2 | ⟨rfl, h2⟩
      · exact .inl h2
      · exact .inr ⟨rfl, blt_trans x y z h1 h2⟩
theorem blt_total : ∀ x y : List UInt8, Op.bytesLess x y = false → Op.bytesLess y x = false → x = y
  | [], [], _, _ => rfl
  | [], _ :: _, h, _ => by simp [Op.bytesLess] at h
  | _ :: _, [], _, h => by simp [Op.bytesLess] at h
  | a :: x, b :: y, h1, h2 => by
    simp only [Op.bytesLess, Bool.or_eq_false_iff, Bool.and_eq_false_iff, decide_eq_false_iff_not, beq_eq_false_iff_ne] at h1 h2
    have hab : a = b := by
      have h3 := h1.1
      have h4 := h2.1
      rw [UInt8.not_lt] at h3 h4
      exact UInt8.le_antisymm h4 h3
    subst hab
    have h5 : Op.bytesLess x y = false := by
      rcases h1.2 with h | h
      · exact absurd rfl h
      · exact h
    have h6 : Op.bytesLess y x = false := by
      rcases h2.2 with h | h
      · exact absurd rfl h
      · exact h
    rw [blt_total x y h5 h6]
theorem blt_asymm (x y : List UInt8) (h : Op.bytesLess x y = true) : Op.bytesLess y x = false := by
  cases h2 : Op.bytesLess y x with
  | false => rfl
  | true =>
    have := blt_trans x y x h h2
    rw [blt_irrefl] at this
    exact absurd this (by simp)

/-- The first m places are so, the others are not: m are so. -/
theorem count_prefix (p : Nat → Bool) (m : Nat) : ∀ n, m ≤ n → (∀ i, i < m → p i = true) → (∀ i, m ≤ i → i < n → p i = false) → (List.range n).countP p = m := by
  intro n
  induction n with
  | zero =>
    intro hm _ _
    have : m = 0 := by omega
    subst this
    rfl
  | succ n ih =>
    intro hm h1 h2
    rw [List.range_succ, List.countP_append]
    by_cases hmn : m ≤ n
    · rw [ih hmn h1 (fun i hi hn => h2 i hi (by omega))]
      have := h2 n hmn (by omega)
      simp [this]
    · have e : m = n + 1 := by omega
      subst e
      have h3 : (List.range n).countP p = n := by
        rw [List.countP_eq_length.2]
        · exact List.length_range
        · intro i hi
          exact h1 i (by have := List.mem_range.1 hi; omega)
      rw [h3]
      have := h1 n (by omega)
      simp [this]

/-- Keys that rise. -/
def Rising (K : Nat → List UInt8) (n : Nat) : Prop := ∀ i j, i < j → j < n → Op.bytesLess (K i) (K j) = true
theorem rising_of_steps (K : Nat → List UInt8) (n : Nat) (h : ∀ i, 0 < i → i < n → Op.bytesLess (K (i - 1)) (K i) = true) : Rising K n := by
  intro i j hij hj
  induction j with
  | zero => omega
  | succ j ih =>
    have h1 := h (j + 1) (by omega) hj
    have e : j + 1 - 1 = j := by omega
    rw [e] at h1
    by_cases hi : i = j
    · subst hi
      exact h1
    · exact blt_trans _ _ _ (ih (by omega) (by omega)) h1
section
variable {K : Nat → List UInt8} {n : Nat}
theorem rising_parted (h : Rising K n) (u : List UInt8) (i j : Nat) (hij : i ≤ j) (hj : j < n) (hi : Op.bytesLess (K i) u = false) : Op.bytesLess (K j) u = false := by
  by_cases e : i = j
  · subst e
    exact hi
  · cases h2 : Op.bytesLess (K j) u with
    | false => rfl
    | true =>
      have := blt_trans _ _ _ (h i j (by omega) hj) h2
      rw [this] at hi
      exact absurd hi (by simp)
theorem rising_inj (h : Rising K n) {i j : Nat} (hi : i < n) (hj : j < n) (e : K i = K j) : i = j := by
  rcases Nat.lt_trichotomy i j with h1 | h1 | h1
  · have := h i j h1 hj
    rw [e, blt_irrefl] at this
    exact absurd this (by simp)
  · exact h1
  · have := h j i h1 hi
    rw [e, blt_irrefl] at this
    exact absurd this (by simp)
/-- Where a key stands there are as many ahead of it. -/
theorem rising_place (h : Rising K n) {p : Nat} (hp : p < n) {u : List UInt8} (e : K p = u) : (List.range n).countP (fun i => Op.bytesLess (K i) u) = p := by
  subst e
  refine count_prefix _ p n (by omega) (fun i hi => h i p hi hp) (fun i hi hn => ?_)
  by_cases e : p = i
  · subst e
    exact blt_irrefl _
  · exact blt_asymm _ _ (h p i (by omega) hn)
/-- In any rising row there is a place up to which keys are less. -/
theorem rising_cut (h : Rising K n) (u : List UInt8) : ∃ m, m ≤ n ∧ (∀ i, i < m → Op.bytesLess (K i) u = true) ∧ (∀ i, m ≤ i → i < n → Op.bytesLess (K i) u = false) := by
  have key : ∀ m, m ≤ n → (∀ i, i < m → Op.bytesLess (K i) u = true) ∨ ∃ q, q ≤ m ∧ (∀ i, i < q → Op.bytesLess (K i) u = true) ∧ (∀ i, q ≤ i → i < n → Op.bytesLess (K i) u = false) := by
    intro m
    induction m with
    | zero => intro _; exact .inl (fun i hi => by omega)
    | succ m ih =>
      intro hm
      rcases ih (by omega) with h1 | ⟨q, hq, h2⟩
      · cases h3 : Op.bytesLess (K m) u with
        | true =>
          refine .inl (fun i hi => ?_)
          by_cases e : i = m
          · subst e; exact h3
          · exact h1 i (by omega)
        | false => exact .inr ⟨m, by omega, h1, fun i hi hn => rising_parted h u m i hi hn h3⟩
      · exact .inr ⟨q, by omega, h2⟩
  rcases key n (Nat.le_refl _) with h1 | ⟨q, hq, h2⟩
  · exact ⟨n, Nat.le_refl _, h1, fun i hi hn => by omega⟩
  · exact ⟨q, hq, h2⟩
end
theorem wf_bool_ne {a b : Bool} (h : a ≠ b) : a = !b := by cases a <;> cases b <;> simp_all
end Go.Proofs.YtnepinkookbanaaDoor.Lib
/- IsaBounds, over numbers and lists: operations, pointers and numbers beyond their bounds are refused. For every input. -/
namespace Go.Proofs.YtnepinkookbanaaDoor.Pure
open Go.RowKit Go.Proofs.YtnepinkookbanaaDoor.X Go.Proofs.YtnepinkookbanaaDoorW.PrintWords Go.Proofs.YtnepinkookbanaaDoorW.PrintLast Go.Proofs.YtnepinkookbanaaDoor.Lib

theorem bounds_p1 : isa_Parse.f (⟨#[108, 100, 97, 32, 48, 32, 50, 49, 52, 55, 52, 56, 51, 54, 52, 56]⟩ : ByteArray) = some (0, 0, 0, 6) := by decide +kernel
theorem bounds_p2 : isa_Parse.f (⟨#[108, 100, 97, 32, 52, 32, 48]⟩ : ByteArray) = some (0, 0, 0, 6) := by decide +kernel
theorem enc_kind {o p n : Int} (h : o < 0 ∨ 23 ≤ o) : enc o p n = (0, 3) := by
  unfold enc
  rw [if_pos h]
theorem enc_arg {o p n : Int} (h0 : 0 ≤ o) (h1 : o < 23) (h : p < 0 ∨ 4 ≤ p ∨ n < -2147483648 ∨ 2147483647 < n) : enc o p n = (0, 1) := by
  unfold enc
  rw [if_neg (by omega), if_pos h]
theorem IsaBounds : ∀ (a0 : Int) (a1 : Int), (Lit.int .i64 a0).wf = true → (Lit.int .i64 a1).wf = true → ∃ k, donjonlaw15_IsaBounds.f k a0 a1 = some true := by
  intro a b _ _
  refine ⟨8, ?_⟩
  obtain ⟨t, et, t0, t1, _⟩ := within_small (a := b) (n := 1000) (by omega) (by omega)
  have ew : donjonlaw15_within.f b 1000 = some t := et
  obtain ⟨s, es, s0, s1, _⟩ := within_small (a := a) (n := 6) (by omega) (by omega)
  have ew2 : donjonlaw15_within.f a 6 = some s := es
  have w1 : wrap64 (1 + t) = 1 + t := wrap64_id (by omega) (by omega)
  have e0 : enc 22 3 2147483647 = (encV 22 3 2147483647, 0) := enc_ok ⟨by omega, by omega, by omega, by omega, by omega, by omega⟩
  clear et es
  unfold donjonlaw15_IsaBounds.f
  have hk : donjonlaw15_known.f 8 = some true := known15 7
  rw [hk, Option.bind_some, if_pos rfl, ew, Option.bind_some, encode_f 7, Option.bind_some, ew2, Option.bind_some, e0, bounds_p1, bounds_p2, w1]
  dsimp only [Option.bind_some]
  have hs : s = 0 ∨ s = 1 ∨ s = 2 ∨ s = 3 ∨ s = 4 ∨ s = 5 := by omega
  rcases hs with rfl | rfl | rfl | rfl | rfl | rfl
  · rw [if_pos rfl, wrap64_id (by omega) (by omega), encode_f 7, enc_kind (.inr (by omega))]
    rfl
  · rw [if_neg (by omega), if_pos rfl, wrap64_id (by omega) (by omega), encode_f 7, enc_kind (.inl (by omega))]
    rfl
  · rw [if_neg (by omega), if_neg (by omega), if_pos rfl, wrap64_id (by omega) (by omega), encode_f 7, enc_arg (by omega) (by omega) (by omega)]
    rfl
  · rw [if_neg (by omega), if_neg (by omega), if_neg (by omega), if_pos rfl, wrap64_id (by omega) (by omega), encode_f 7, enc_arg (by omega) (by omega) (by omega)]
    rfl
  · rw [if_neg (by omega), if_neg (by omega), if_neg (by omega), if_neg (by omega), if_pos rfl, wrap64_id (by omega) (by omega), encode_f 7, enc_arg (by omega) (by omega) (by omega)]
    rfl
  · rw [if_neg (by omega), if_neg (by omega), if_neg (by omega), if_neg (by omega), if_neg (by omega), if_pos rfl, wrap64_id (by omega) (by omega), encode_f 7, enc_arg (by omega) (by omega) (by omega)]
    rfl
end Go.Proofs.YtnepinkookbanaaDoor.Pure
