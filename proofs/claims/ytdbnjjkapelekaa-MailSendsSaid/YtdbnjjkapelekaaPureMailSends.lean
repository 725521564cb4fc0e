import Derived.Test.YtdbnjjkapelekaaF5
import Derived.Test.YtdbnjjkapelekaaF21
import Derived.Test.YtdbnjjkapelekaaF11
import Derived.Test.YtdbnjjkapelekaaF23
import Derived.Test.YtdbnjjkapelekaaF28
import Derived.Test.YtdbnjjkapelekaaF25
import Derived.Test.YtdbnjjkapelekaaLib
import Derived.Laws.BitsLemmas
import Derived.Test.YtdbnjjkapelekaaF9
import Derived.Test.YtdbnjjkapelekaaF17
import Derived.Test.YtdbnjjkapelekaaF12
import Derived.Test.YtdbnjjkapelekaaHO
/- Plain lemmas on the bits of whole numbers. -/
namespace Go.Proofs.Ytdbnjjkapelekaa.Lib
open Go.RowKit Go.Proofs.YtdbnjjkapelekaaW.PrintWords

theorem i64_wrap_id {n : Int} (h0 : -9223372036854775808 ≤ n) (h1 : n ≤ 9223372036854775807) : IntKind.i64.wrap n = n := by
  rw [Go.IntKind.wrap_i64]
  omega
theorem ofInt64_mod (x : Int) : (BitVec.ofInt 64 x).toNat = (x % 18446744073709551616).toNat := by
  rw [BitVec.toNat_ofInt]
  rfl
/-- Masking an int by 2^j - 1. -/
theorem and_i64_mask (x : Int) (j : Nat) (hj : j ≤ 62) : Go.bits .and .i64 x (2 ^ j - 1) = x % 2 ^ j := by
  have hp : (0 : Int) < 2 ^ j := Int.pow_pos (by decide)
  have hpn : 0 < 2 ^ j := Nat.two_pow_pos j
  have hle : 2 ^ j ≤ 2 ^ 62 := Nat.pow_le_pow_right (by decide) hj
  have hc : ((2 : Int) ^ j - 1) = ((2 ^ j - 1 : Nat) : Int) := by
    rw [Int.natCast_sub hpn]; simp
  have hm : (BitVec.ofInt 64 ((2 : Int) ^ j - 1)).toNat = 2 ^ j - 1 := by
    rw [hc, BitVec.ofInt_natCast, BitVec.toNat_ofNat]
    exact Nat.mod_eq_of_lt (by omega)
  show IntKind.i64.wrap ((BitVec.ofInt 64 x &&& BitVec.ofInt 64 (2 ^ j - 1)).toNat : Int) = _
  rw [BitVec.toNat_and, hm, Nat.and_two_pow_sub_one_eq_mod, ofInt64_mod]
  have hlt : (x % 18446744073709551616).toNat % 2 ^ j < 2 ^ j := Nat.mod_lt _ hpn
  rw [i64_wrap_id (by omega) (by omega)]
  have h0 : 0 ≤ x % 18446744073709551616 := Int.emod_nonneg _ (by decide)
  rw [Int.natCast_emod, Int.toNat_of_nonneg h0]
  have hd : ((2 ^ j : Nat) : Int) ∣ 18446744073709551616 := by
    refine ⟨((2 ^ (64 - j) : Nat) : Int), ?_⟩
    rw [← Int.natCast_mul, ← Nat.pow_add]
    have : j + (64 - j) = 64 := by omega
    rw [this]
    rfl
  rw [Int.emod_emod_of_dvd _ hd]
  simp
theorem and_u64_mask (x : Int) (j : Nat) (hj : j ≤ 62) : Go.bits .and .u64 x (2 ^ j - 1) = x % 2 ^ j := by
  have hpn : 0 < 2 ^ j := Nat.two_pow_pos j
  have hle : 2 ^ j ≤ 2 ^ 62 := Nat.pow_le_pow_right (by decide) hj
  have hc : ((2 : Int) ^ j - 1) = ((2 ^ j - 1 : Nat) : Int) := by
    rw [Int.natCast_sub hpn]; simp
  have hm : (BitVec.ofInt 64 ((2 : Int) ^ j - 1)).toNat = 2 ^ j - 1 := by
    rw [hc, BitVec.ofInt_natCast, BitVec.toNat_ofNat]
    exact Nat.mod_eq_of_lt (by omega)
  show IntKind.u64.wrap ((BitVec.ofInt 64 x &&& BitVec.ofInt 64 (2 ^ j - 1)).toNat : Int) = _
  rw [BitVec.toNat_and, hm, Nat.and_two_pow_sub_one_eq_mod, ofInt64_mod]
  have hlt : (x % 18446744073709551616).toNat % 2 ^ j < 2 ^ j := Nat.mod_lt _ hpn
  rw [u64_wrap, Int.emod_eq_of_lt (by omega) (by omega)]
  have h0 : 0 ≤ x % 18446744073709551616 := Int.emod_nonneg _ (by decide)
  rw [Int.natCast_emod, Int.toNat_of_nonneg h0]
  have hd : ((2 ^ j : Nat) : Int) ∣ 18446744073709551616 := by
    refine ⟨((2 ^ (64 - j) : Nat) : Int), ?_⟩
    rw [← Int.natCast_mul, ← Nat.pow_add]
    have : j + (64 - j) = 64 := by omega
    rw [this]
    rfl
  rw [Int.emod_emod_of_dvd _ hd]
  simp
theorem and_7 (x : Int) : Go.bits .and .i64 x 7 = x % 8 := and_i64_mask x 3 (by decide)
theorem and_65535 (x : Int) : Go.bits .and .i64 x 65535 = x % 65536 := and_i64_mask x 16 (by decide)
theorem and_4294967295 (x : Int) : Go.bits .and .i64 x 4294967295 = x % 4294967296 := and_i64_mask x 32 (by decide)
theorem uand_7 (x : Int) : Go.bits .and .u64 x 7 = x % 8 := and_u64_mask x 3 (by decide)
theorem uand_255 (x : Int) : Go.bits .and .u64 x 255 = x % 256 := and_u64_mask x 8 (by decide)
theorem uand_65535 (x : Int) : Go.bits .and .u64 x 65535 = x % 65536 := and_u64_mask x 16 (by decide)
theorem wraps_i64 (n : Int) (h₀ : 0 ≤ n) (h₁ : n < 2 ^ 63) : IntKind.i64.wrap n = n := i64_wrap_id (by omega) (by omega)
/-- or of what lies apart is the sum. -/
theorem or_apart (i : Nat) (x y : Int) (hx0 : 0 ≤ x) (hx : x % 2 ^ i = 0) (hx1 : x < 9223372036854775808) (hy0 : 0 ≤ y) (hy : y < 2 ^ i) (hy1 : y < 9223372036854775808) : Go.bits .or .i64 x y = x + y :=
  Go.bits_join .i64 63 (by decide) wraps_i64 i x y hx0 hx hx1 hy0 hy hy1
theorem within_small {a n : Int} (hn : 0 < n) (hn1 : n ≤ 4611686018427387904) :
    ∃ r, (if n = 0 then none else if Int.tmod a n < 0 then some (wrap64 (Int.tmod a n + n)) else some (Int.tmod a n)) = some r ∧ 0 ≤ r ∧ r < n ∧ r = a % n := by
  rw [if_neg (by omega)]
  have h1 := Int.tmod_lt_of_pos a hn
  have h2 : -n < Int.tmod a n := by
    have := Int.tmod_lt_of_pos (-a) hn
    rw [Int.neg_tmod] at this
    omega
  have h3 : Int.tmod a n = a % n ∨ Int.tmod a n = a % n - n := by
    rw [Int.tmod_eq_emod]
    split
    · left; omega
    · right
      have : (n.natAbs : Int) = n := by omega
      omega
  have h4 := Int.emod_nonneg a (by omega : n ≠ 0)
  have h5 := Int.emod_lt_of_pos a hn
  by_cases h : Int.tmod a n < 0
  · rw [if_pos h, wrap64_id (by omega) (by omega)]
    exact ⟨_, rfl, by omega, by omega, by omega⟩
  · rw [if_neg h]
    exact ⟨_, rfl, by omega, by omega, by omega⟩
end Go.Proofs.Ytdbnjjkapelekaa.Lib
/- Plain lemmas on texts' order, and on places in rows that are sorted by texts. -/
namespace Go.Proofs.Ytdbnjjkapelekaa.Lib
open Go.RowKit Go.Proofs.YtdbnjjkapelekaaW.PrintWords

theorem blt_irrefl : ∀ x : List UInt8, Op.bytesLess x x = false
  | [] => rfl
  | a :: x => by simp [Op.bytesLess, blt_irrefl x]
theorem blt_trans : ∀ x y z : List UInt8, Op.bytesLess x y = true → Op.bytesLess y z = true → Op.bytesLess x z = true
  | _, [], _, h, _ => by simp [Op.bytesLess] at h
  | _, _ :: _, [], _, h => by simp [Op.bytesLess] at h
  | [], _ :: _, _ :: _, _, _ => rfl
  | a :: x, b :: y, c :: z, h1, h2 => by
    simp only [Op.bytesLess, Bool.or_eq_true, Bool.and_eq_true, decide_eq_true_eq, beq_iff_eq] at h1 h2 ⊢
    rcases h1 with h1 | ⟨rfl, h1⟩
    · rcases h2 with h2 | ⟨rfl, h2⟩
      · exact .inl (UInt8.lt_trans h1 h2)
      · exact .inl h1
    · rcases h2 with h2 | ⟨rfl, h2⟩
      · exact .inl h2
      · exact .inr ⟨rfl, blt_trans x y z h1 h2⟩
theorem blt_total : ∀ x y : List UInt8, Op.bytesLess x y = false → Op.bytesLess y x = false → x = y
  | [], [], _, _ => rfl
  | [], _ :: _, h, _ => by simp [Op.bytesLess] at h
  | _ :: _, [], _, h => by simp [Op.bytesLess] at h
  | a :: x, b :: y, h1, h2 => by
    simp only [Op.bytesLess, Bool.or_eq_false_iff, Bool.and_eq_false_iff, decide_eq_false_iff_not, beq_eq_false_iff_ne] at h1 h2
    have hab : a = b := by
      have h3 := h1.1
      have h4 := h2.1
      rw [UInt8.not_lt] at h3 h4
      exact UInt8.le_antisymm h4 h3
    subst hab
    have h5 : Op.bytesLess x y = false := by
      rcases h1.2 with h | h
      · exact absurd rfl h
      · exact h
    have h6 : Op.bytesLess y x = false := by
      rcases h2.2 with h | h
      · exact absurd rfl h
      · exact h
    rw [blt_total x y h5 h6]
theorem blt_asymm (x y : List UInt8) (h : Op.bytesLess x y = true) : Op.bytesLess y x = false := by
  cases h2 : Op.bytesLess y x with
  | false => rfl
  | true =>
    have := blt_trans x y x h h2
    rw [blt_irrefl] at this
    exact absurd this (by simp)

/-- The first m places are so, the others are not: m are so. -/
theorem count_prefix (p : Nat → Bool) (m : Nat) : ∀ n, m ≤ n → (∀ i, i < m → p i = true) → (∀ i, m ≤ i → i < n → p i = false) → (List.range n).countP p = m := by
  intro n
  induction n with
  | zero =>
    intro hm _ _
    have : m = 0 := by omega
    subst this
    rfl
  | succ n ih =>
    intro hm h1 h2
    rw [List.range_succ, List.countP_append]
    by_cases hmn : m ≤ n
    · rw [ih hmn h1 (fun i hi hn => h2 i hi (by omega))]
      have := h2 n hmn (by omega)
      simp [this]
    · have e : m = n + 1 := by omega
      subst e
      have h3 : (List.range n).countP p = n := by
        rw [List.countP_eq_length.2]
        · exact List.length_range
        · intro i hi
          exact h1 i (by have := List.mem_range.1 hi; omega)
      rw [h3]
      have := h1 n (by omega)
      simp [this]

/-- Keys that rise. -/
def Rising (K : Nat → List UInt8) (n : Nat) : Prop := ∀ i j, i < j → j < n → Op.bytesLess (K i) (K j) = true
theorem rising_of_steps (K : Nat → List UInt8) (n : Nat) (h : ∀ i, 0 < i → i < n → Op.bytesLess (K (i - 1)) (K i) = true) : Rising K n := by
  intro i j hij hj
  induction j with
  | zero => omega
  | succ j ih =>
    have h1 := h (j + 1) (by omega) hj
    have e : j + 1 - 1 = j := by omega
    rw [e] at h1
    by_cases hi : i = j
    · subst hi
      exact h1
    · exact blt_trans _ _ _ (ih (by omega) (by omega)) h1
section
variable {K : Nat → List UInt8} {n : Nat}
theorem rising_parted (h : Rising K n) (u : List UInt8) (i j : Nat) (hij : i ≤ j) (hj : j < n) (hi : Op.bytesLess (K i) u = false) : Op.bytesLess (K j) u = false := by
  by_cases e : i = j
  · subst e
    exact hi
  · cases h2 : Op.bytesLess (K j) u with
    | false => rfl
    | true =>
      have := blt_trans _ _ _ (h i j (by omega) hj) h2
      rw [this] at hi
      exact absurd hi (by simp)
theorem rising_inj (h : Rising K n) {i j : Nat} (hi : i < n) (hj : j < n) (e : K i = K j) : i = j := by
  rcases Nat.lt_trichotomy i j with h1 | h1 | h1
  · have := h i j h1 hj
    rw [e, blt_irrefl] at this
    exact absurd this (by simp)
  · exact h1
  · have := h j i h1 hi
    rw [e, blt_irrefl] at this
    exact absurd this (by simp)
/-- Where a key stands there are as many ahead of it. -/
theorem rising_place (h : Rising K n) {p : Nat} (hp : p < n) {u : List UInt8} (e : K p = u) : (List.range n).countP (fun i => Op.bytesLess (K i) u) = p := by
  subst e
  refine count_prefix _ p n (by omega) (fun i hi => h i p hi hp) (fun i hi hn => ?_)
  by_cases e : p = i
  · subst e
    exact blt_irrefl _
  · exact blt_asymm _ _ (h p i (by omega) hn)
/-- In any rising row there is a place up to which keys are less. -/
theorem rising_cut (h : Rising K n) (u : List UInt8) : ∃ m, m ≤ n ∧ (∀ i, i < m → Op.bytesLess (K i) u = true) ∧ (∀ i, m ≤ i → i < n → Op.bytesLess (K i) u = false) := by
  have key : ∀ m, m ≤ n → (∀ i, i < m → Op.bytesLess (K i) u = true) ∨ ∃ q, q ≤ m ∧ (∀ i, i < q → Op.bytesLess (K i) u = true) ∧ (∀ i, q ≤ i → i < n → Op.bytesLess (K i) u = false) := by
    intro m
    induction m with
    | zero => intro _; exact .inl (fun i hi => by omega)
    | succ m ih =>
      intro hm
      rcases ih (by omega) with h1 | ⟨q, hq, h2⟩
      · cases h3 : Op.bytesLess (K m) u with
        | true =>
          refine .inl (fun i hi => ?_)
          by_cases e : i = m
          · subst e; exact h3
          · exact h1 i (by omega)
        | false => exact .inr ⟨m, by omega, h1, fun i hi hn => rising_parted h u m i hi hn h3⟩
      · exact .inr ⟨q, by omega, h2⟩
  rcases key n (Nat.le_refl _) with h1 | ⟨q, hq, h2⟩
  · exact ⟨n, Nat.le_refl _, h1, fun i hi hn => by omega⟩
  · exact ⟨q, hq, h2⟩
end
theorem wf_bool_ne {a b : Bool} (h : a ≠ b) : a = !b := by cases a <;> cases b <;> simp_all
end Go.Proofs.Ytdbnjjkapelekaa.Lib
/- Labels in plain numbers: what may be known where. -/
namespace Go.Proofs.Ytdbnjjkapelekaa.Pure
open Go.RowKit Go.Proofs.Ytdbnjjkapelekaa.X Go.Proofs.YtdbnjjkapelekaaW.PrintWords Go.Proofs.YtdbnjjkapelekaaW.PrintLast Go.Proofs.Ytdbnjjkapelekaa.Lib Go.Proofs.YtdbnjjkapelekaaW.PrintMore

theorem good4_f (a b c d : Int) : donjonlaw4_Good.f a b c d = some (a % 4, b % 256, c % 4, d % 256) := by
  unfold donjonlaw4_Good.f donjonlaw4_within.f
  obtain ⟨r1, e1, _, _, h1⟩ := within_small (a := a) (n := 4) (by omega) (by omega)
  obtain ⟨r2, e2, _, _, h2⟩ := within_small (a := b) (n := 256) (by omega) (by omega)
  obtain ⟨r3, e3, _, _, h3⟩ := within_small (a := c) (n := 4) (by omega) (by omega)
  obtain ⟨r4, e4, _, _, h4⟩ := within_small (a := d) (n := 256) (by omega) (by omega)
  rw [e1, e2, e3, e4, h1, h2, h3, h4]
  rfl
/-- and, or of what is not below 0, in natural numbers. -/
theorem and_i64 {a b : Int} (ha0 : 0 ≤ a) (ha : a < 9223372036854775808) (hb0 : 0 ≤ b) (hb : b < 9223372036854775808) : Go.bits .and .i64 a b = ((a.toNat &&& b.toNat : Nat) : Int) := by
  have hx : a.toNat &&& b.toNat ≤ a.toNat := Nat.and_le_left
  show IntKind.i64.wrap ((BitVec.ofInt 64 a &&& BitVec.ofInt 64 b).toNat : Int) = _
  rw [BitVec.toNat_and, ofInt64_toNat ha0 (by omega), ofInt64_toNat hb0 (by omega), i64_wrap_id (by omega) (by omega)]
theorem or_i64 {a b : Int} (ha0 : 0 ≤ a) (ha : a < 9223372036854775808) (hb0 : 0 ≤ b) (hb : b < 9223372036854775808) : Go.bits .or .i64 a b = ((a.toNat ||| b.toNat : Nat) : Int) := by
  have hx : a.toNat ||| b.toNat < 2 ^ 63 := Nat.or_lt_two_pow (by omega) (by omega)
  show IntKind.i64.wrap ((BitVec.ofInt 64 a ||| BitVec.ofInt 64 b).toNat : Int) = _
  rw [BitVec.toNat_or, ofInt64_toNat ha0 (by omega), ofInt64_toNat hb0 (by omega), i64_wrap_id (by omega) (by omega)]
theorem nat_or_iff (a b : Nat) : a ||| b = a ↔ a &&& b = b := by
  constructor
  · intro h
    rw [← h]
    apply Nat.eq_of_testBit_eq
    intro i
    simp
    intro hb
    exact .inr hb
  · intro h
    apply Nat.eq_of_testBit_eq
    intro i
    have hi : (a &&& b).testBit i = b.testBit i := by rw [h]
    simp at hi ⊢
    exact hi
/-- A label such as may be. -/
structure Lab (s c i d : Int) : Prop where
  s0 : 0 ≤ s
  s1 : s < 4
  c0 : 0 ≤ c
  c1 : c < 256
  i0 : 0 ≤ i
  i1 : i < 4
  d0 : 0 ≤ d
  d1 : d < 256
theorem lab_good (a b c d : Int) : Lab (a % 4) (b % 256) (c % 4) (d % 256) := ⟨by omega, by omega, by omega, by omega, by omega, by omega, by omega, by omega⟩
/-- May what is known at the second come to the first? -/
def overV (s c i d s' c' i' d' : Int) : Bool := decide (s' ≤ s) && (decide (c.toNat &&& c'.toNat = c'.toNat) && (decide (i ≤ i') && decide (d.toNat &&& d'.toNat = d.toNat)))
theorem mx_eq (a b : Int) : (mx a b == a) = decide (b ≤ a) := by
  unfold mx
  by_cases h : a < b
  · rw [if_pos h, decide_eq_false (by omega)]
    simp; omega
  · rw [if_neg h, decide_eq_true (by omega)]
    simp
theorem mn_eq (a b : Int) : (mn a b == a) = decide (a ≤ b) := by
  unfold mn
  by_cases h : b < a
  · rw [if_pos h, decide_eq_false (by omega)]
    simp; omega
  · rw [if_neg h, decide_eq_true (by omega)]
    simp
theorem over_f {s c i d s' c' i' d' : Int} (h : Lab s c i d) (h' : Lab s' c' i' d') : label_Over.f s c i d s' c' i' d' = some (overV s c i d s' c' i' d') := by
  obtain ⟨a1, a2, a3, a4, a5, a6, a7, a8⟩ := h
  obtain ⟨b1, b2, b3, b4, b5, b6, b7, b8⟩ := h'
  unfold label_Over.f label_Join.f overV
  rw [Option.bind_some, mx_eq, mn_eq, or_i64 a3 (by omega) b3 (by omega), and_i64 a7 (by omega) b7 (by omega)]
  congr 3
  · rw [Bool.eq_iff_iff]
    simp only [beq_iff_eq, decide_eq_true_eq]
    rw [← nat_or_iff]
    omega
  · congr 1
    rw [Bool.eq_iff_iff]
    simp only [beq_iff_eq, decide_eq_true_eq]
    omega
end Go.Proofs.Ytdbnjjkapelekaa.Pure
/- What becomes of a message whose names and labels may be, in plain numbers. -/
namespace Go.Proofs.Ytdbnjjkapelekaa.Pure
open Go.RowKit Go.Proofs.Ytdbnjjkapelekaa.X Go.Proofs.YtdbnjjkapelekaaW.PrintWords Go.Proofs.YtdbnjjkapelekaaW.PrintLast Go.Proofs.Ytdbnjjkapelekaa.Lib Go.Proofs.YtdbnjjkapelekaaW.PrintMore

theorem mlev (a : Int) : label_level.f a = some (decide (0 ≤ a) && decide (a ≤ 3)) := by
  unfold label_level.f
  by_cases h1 : 0 ≤ a <;> by_cases h2 : a ≤ 3 <;> simp [h1, h2]
theorem mcat (a : Int) : label_cats.f a = some (decide (0 ≤ a) && decide (a ≤ 255)) := by
  unfold label_cats.f
  by_cases h1 : 0 ≤ a <;> by_cases h2 : a ≤ 255 <;> simp [h1, h2]
theorem check_ok {s c i d : Int} (h : Lab s c i d) : label_Check.f s c i d = some 0 := by
  obtain ⟨a1, a2, a3, a4, a5, a6, a7, a8⟩ := h
  unfold label_Check.f
  rw [mlev s, mlev i, mcat c, mcat d, decide_eq_true a1, decide_eq_true (by omega : s ≤ 3), decide_eq_true a3, decide_eq_true (by omega : c ≤ 255), decide_eq_true a5, decide_eq_true (by omega : i ≤ 3), decide_eq_true a7, decide_eq_true (by omega : d ≤ 255)]
  rfl
theorem ref_over_f {s c i d s' c' i' d' : Int} (h : Lab s c i d) (h' : Lab s' c' i' d') : donjonref4_Over.f s c i d s' c' i' d' = some (overV s c i d s' c' i' d') := by
  obtain ⟨a1, a2, a3, a4, a5, a6, a7, a8⟩ := h
  obtain ⟨b1, b2, b3, b4, b5, b6, b7, b8⟩ := h'
  unfold donjonref4_Over.f overV
  rw [and_i64 a3 (by omega) b3 (by omega), and_i64 a7 (by omega) b7 (by omega)]
  by_cases h1 : s' ≤ s
  · rw [if_pos h1, decide_eq_true h1, Bool.true_and]
    by_cases h2 : c.toNat &&& c'.toNat = c'.toNat
    · rw [if_pos (by omega), decide_eq_true h2, Bool.true_and]
      by_cases h3 : i ≤ i'
      · rw [if_pos h3, decide_eq_true h3, Bool.true_and]
        congr 1
        rw [Bool.eq_iff_iff]
        simp only [beq_iff_eq, decide_eq_true_eq]
        omega
      · rw [if_neg h3, decide_eq_false h3, Bool.false_and]
    · rw [if_neg (by omega), decide_eq_false h2, Bool.false_and]
  · rw [if_neg h1, decide_eq_false h1, Bool.false_and]
theorem overV_self (s c i d : Int) : overV s c i d s c i d = true := by simp [overV]
theorem okName_a : okName (⟨#[97]⟩ : ByteArray) = true := by decide +kernel
theorem okName_b : okName (⟨#[98]⟩ : ByteArray) = true := by decide +kernel
/-- A message of these labels, by the first rule that names them. -/
theorem send_ab (k : Nat) (rs : List S44) {a b c d a' b' c' d' : Int} (h : Lab a b c d) (h' : Lab a' b' c' d') (text : ByteArray) (ht : text.size ≤ 40) (x : Int × Int × Int × Int × Int × Int × Int × Int × ByteArray × Bool)
    (hr : mail_Rule.f k rs (⟨#[97]⟩ : ByteArray) a b c d (⟨#[98]⟩ : ByteArray) a' b' c' d' text = some x) :
    mail_Send.f (k + 4) rs (⟨#[97]⟩ : ByteArray) a b c d (⟨#[98]⟩ : ByteArray) a' b' c' d' text = some (if overV a' b' c' d' a b c d = true then (1, 0) else if x.2.2.2.2.2.2.2.2.2 = true then (2, 0) else (0, 19)) := by
  have e0 : rd_T26 [(⟨a, b, c, d⟩ : S26), ⟨a', b', c', d'⟩] 0 = ⟨a, b, c, d⟩ := rfl
  have e1 : rd_T26 [(⟨a, b, c, d⟩ : S26), ⟨a', b', c', d'⟩] 1 = ⟨a', b', c', d'⟩ := rfl
  have el : (([(⟨a, b, c, d⟩ : S26), ⟨a', b', c', d'⟩] : List S26).length : Int) = 2 := rfl
  unfold mail_Send.f path_Name.f
  rw [okName_a, okName_b, Option.bind_some, if_pos rfl, Option.bind_some, mail_Send.j0, if_neg (by decide), Option.bind_some, el]
  rw [mail_Send.l0, if_pos (by decide), if_pos (by decide), el, if_pos (by decide), e0]
  dsimp only
  rw [check_ok h, Option.bind_some, if_pos rfl, show wrap64 (0 + 1) = 1 from wrap64_id (by decide) (by decide)]
  rw [mail_Send.l0, if_pos (by decide), if_pos (by decide), el, if_pos (by decide), e1]
  dsimp only
  rw [check_ok h', Option.bind_some, if_pos rfl, show wrap64 (1 + 1) = 2 from wrap64_id (by decide) (by decide)]
  rw [mail_Send.l0, if_neg (by decide), hr, Option.bind_some, if_neg (by omega), over_f h' h, Option.bind_some]
  by_cases ho : overV a' b' c' d' a b c d = true
  · rw [if_pos ho, if_pos ho]
  · rw [if_neg ho, if_neg ho]
    by_cases hx : x.2.2.2.2.2.2.2.2.2 = true
    · rw [if_pos hx, if_pos hx]
    · rw [if_neg hx, if_neg hx]
end Go.Proofs.Ytdbnjjkapelekaa.Pure
/- A message such as may be, rules such as may be, and the first one that lets a message go, in plain numbers. -/
namespace Go.Proofs.Ytdbnjjkapelekaa.Pure
open Go.RowKit Go.Proofs.Ytdbnjjkapelekaa.X Go.Proofs.YtdbnjjkapelekaaW.PrintWords Go.Proofs.YtdbnjjkapelekaaW.PrintLast Go.Proofs.Ytdbnjjkapelekaa.Lib Go.Proofs.YtdbnjjkapelekaaW.PrintMore

theorem known40 : donjonlaw18_known.f 40 = some true := by decide +kernel
def namedR (a b c d a' b' c' d' : Int) (x : S44) : Bool := (x.f0.f0 == a && (x.f0.f1 == b && (x.f0.f2 == c && x.f0.f3 == d))) && (x.f1.f0 == a' && (x.f1.f1 == b' && (x.f1.f2 == c' && x.f1.f3 == d')))
def ruleV (a b c d a' b' c' d' : Int) : List S44 → Int × Int × Int × Int × Int × Int × Int × Int × ByteArray × Bool
  | [] => (0, 0, 0, 0, 0, 0, 0, 0, (⟨#[]⟩ : ByteArray), false)
  | x :: r => if namedR a b c d a' b' c' d' x = true then (x.f0.f0, x.f0.f1, x.f0.f2, x.f0.f3, x.f1.f0, x.f1.f1, x.f1.f2, x.f1.f3, x.f2, true) else ruleV a b c d a' b' c' d' r
theorem ruleV_cases (a b c d a' b' c' d' : Int) : ∀ L : List S44, (∃ x ∈ L, ruleV a b c d a' b' c' d' L = (a, b, c, d, a', b', c', d', x.f2, true)) ∨ ruleV a b c d a' b' c' d' L = (0, 0, 0, 0, 0, 0, 0, 0, (⟨#[]⟩ : ByteArray), false)
  | [] => .inr rfl
  | x :: r => by
    by_cases hx : namedR a b c d a' b' c' d' x = true
    · refine .inl ⟨x, List.mem_cons_self, ?_⟩
      rw [ruleV, if_pos hx]
      simp only [namedR, Bool.and_eq_true, beq_iff_eq] at hx
      obtain ⟨⟨rfl, rfl, rfl, rfl⟩, rfl, rfl, rfl, rfl⟩ := hx
      rfl
    · rw [ruleV, if_neg hx]
      rcases ruleV_cases a b c d a' b' c' d' r with ⟨y, hy, e⟩ | e
      · exact .inl ⟨y, List.mem_cons_of_mem _ hy, e⟩
      · exact .inr e
theorem rdR_get {l : List S44} {i : Nat} (h : i < l.length) : rd_T44 l (i : Int) = l[i] := by
  unfold rd_T44
  rw [Int.toNat_natCast, List.getD_eq_getElem?_getD, List.getElem?_eq_getElem h]
  rfl
theorem rule_l (L : List S44) (hL : L.length < 4611686018427387904) (u : ByteArray) (a b c d : Int) (v : ByteArray) (a' b' c' d' : Int) (text : ByteArray) : ∀ (n i : Nat), i + n = L.length → ∀ k, n < k →
    mail_Rule.l0 k L (L.length : Int) (i : Int) u a b c d v a' b' c' d' text = some (ruleV a b c d a' b' c' d' (L.drop i)) := by
  intro n
  induction n with
  | zero =>
    intro i hi k hk
    obtain ⟨k, rfl⟩ : ∃ q, k = q + 1 := ⟨k - 1, by omega⟩
    rw [mail_Rule.l0, if_neg (by omega), List.drop_of_length_le (by omega)]
    rfl
  | succ n ih =>
    intro i hi k hk
    obtain ⟨k, rfl⟩ : ∃ q, k = q + 1 := ⟨k - 1, by omega⟩
    have hlt : i < L.length := by omega
    have hw : wrap64 ((i : Int) + 1) = ((i + 1 : Nat) : Int) := by rw [wrap64_id (by omega) (by omega)]; omega
    rw [mail_Rule.l0, if_pos (by omega), if_pos (by omega), if_pos (by omega), rdR_get hlt, List.drop_eq_getElem_cons hlt, ruleV, hw, ih (i + 1) (by omega) k (by omega)]
    split
    · rename_i h1
      split
      · rename_i h2
        rw [if_pos (show namedR a b c d a' b' c' d' L[i] = true by unfold namedR; rw [Bool.and_eq_true]; exact ⟨h1, h2⟩)]
      · rename_i h2
        rw [if_neg (fun h => h2 (by unfold namedR at h; rw [Bool.and_eq_true] at h; exact h.2))]
    · rename_i h1
      rw [if_neg (fun h => h1 (by unfold namedR at h; rw [Bool.and_eq_true] at h; exact h.1))]
theorem rule_ok (L : List S44) (hL : L.length < 4611686018427387904) (u : ByteArray) (a b c d : Int) (v : ByteArray) (a' b' c' d' : Int) (text : ByteArray) (k : Nat) (hk : L.length < k) :
    mail_Rule.f k L u a b c d v a' b' c' d' text = some (ruleV a b c d a' b' c' d' L) := by
  have h := rule_l L hL u a b c d v a' b' c' d' text L.length 0 (by omega) k hk
  rw [List.drop_zero] at h
  exact h
/-- Rules, made such as may be: eight at most, each with a given one's word. -/
theorem rules_l (l0 : List S44) (at_ : Int) (u : ByteArray) (a b c d : Int) (v : ByteArray) (a' b' c' d' : Int) (text : ByteArray) : ∀ (n i : Nat), i + n = 8 → ∀ (out : List S44), out.length ≤ i → (∀ y ∈ out, ∃ x ∈ l0, y.f2 = x.f2) → ∀ k, 2 * n + 2 ≤ k →
    ∃ o, donjonlaw18_rules.l0 k l0 at_ out (i : Int) u a b c d v a' b' c' d' text = some o ∧ o.length ≤ 8 ∧ ∀ y ∈ o, ∃ x ∈ l0, y.f2 = x.f2 := by
  intro n
  induction n with
  | zero =>
    intro i hi out ho hw k hk
    obtain ⟨k, rfl⟩ : ∃ q, k = q + 2 := ⟨k - 2, by omega⟩
    refine ⟨out, ?_, by omega, hw⟩
    rw [donjonlaw18_rules.l0, show decide ((i : Int) < 8) = false from decide_eq_false (by omega), ite_self, donjonlaw18_rules.j1, if_neg (by decide)]
  | succ n ih =>
    intro i hi out ho hw k hk
    obtain ⟨k, rfl⟩ : ∃ q, k = q + 2 := ⟨k - 2, by omega⟩
    rw [donjonlaw18_rules.l0, show decide ((i : Int) < 8) = true from decide_eq_true (by omega)]
    by_cases hlt : i < l0.length
    · rw [if_pos (by omega), donjonlaw18_rules.j1, if_pos rfl, if_pos (by omega), if_pos (by omega), good4_f, Option.bind_some, good4_f, Option.bind_some, rdR_get hlt]
      have hwr : wrap64 ((i : Int) + 1) = ((i + 1 : Nat) : Int) := by rw [wrap64_id (by omega) (by omega)]; omega
      have hadd : ∀ y : S44, y.f2 = (l0[i]).f2 → ∃ o, donjonlaw18_rules.l0 k l0 at_ (out ++ [y]) (wrap64 ((i : Int) + 1)) u a b c d v a' b' c' d' text = some o ∧ o.length ≤ 8 ∧ ∀ y ∈ o, ∃ x ∈ l0, y.f2 = x.f2 := by
        intro y hy
        rw [hwr]
        refine ih (i + 1) (by omega) _ (by rw [List.length_append, List.length_singleton]; omega) ?_ k (by omega)
        intro z hz
        rw [List.mem_append, List.mem_singleton] at hz
        rcases hz with hz | rfl
        · exact hw z hz
        · exact ⟨l0[i], List.getElem_mem hlt, hy⟩
      split
      · rw [if_pos (by omega)]
        exact hadd _ rfl
      · rw [if_pos (by omega)]
        exact hadd _ rfl
    · rw [if_neg (by omega), donjonlaw18_rules.j1, if_neg (by decide)]
      exact ⟨out, rfl, by omega, hw⟩
theorem rules_ok (l0 : List S44) (at_ : Int) (u : ByteArray) (a b c d : Int) (v : ByteArray) (a' b' c' d' : Int) (text : ByteArray) (k : Nat) (hk : 18 ≤ k) :
    ∃ o, donjonlaw18_rules.f k l0 u a b c d v a' b' c' d' text at_ = some o ∧ o.length ≤ 8 ∧ ∀ y ∈ o, ∃ x ∈ l0, y.f2 = x.f2 :=
  rules_l l0 at_ u a b c d v a' b' c' d' text 8 0 rfl [] (Nat.le_refl _) (by simp) k (by omega)
theorem name_ok (t : Int) (h0 : 0 ≤ t) (h1 : t < 4) : okName (strOfNums [(wrap64 (97 + t)) % 256]) = true ∧ (strOfNums [(wrap64 (97 + t)) % 256]).size = 1 := by
  have : t = 0 ∨ t = 1 ∨ t = 2 ∨ t = 3 := by omega
  rcases this with rfl | rfl | rfl | rfl <;> exact ⟨by decide +kernel, by decide +kernel⟩
/-- A message, made such as may be. -/
theorem good_ok (u : ByteArray) (a b c d : Int) (v : ByteArray) (a' b' c' d' : Int) (text : ByteArray) (n : Int) :
    ∃ u2 a2 b2 c2 d2 v2 a3 b3 c3 d3 text2, donjonlaw18_good.f u a b c d v a' b' c' d' text n = some (u2, a2, b2, c2, d2, v2, a3, b3, c3, d3, text2) ∧ okName u2 = true ∧ u2.size = 1 ∧ Lab a2 b2 c2 d2 ∧ okName v2 = true ∧ v2.size = 1 ∧ Lab a3 b3 c3 d3 ∧ text2.size ≤ 40 := by
  obtain ⟨t, et, t0, t1, _⟩ := within_small (a := n) (n := 4) (by omega) (by omega)
  have ew : donjonlaw18_within.f n 4 = some t := et
  obtain ⟨s, es, s0, s1, _⟩ := within_small (a := wrap64 (Int.tdiv n 4)) (n := 4) (by omega) (by omega)
  have ew2 : donjonlaw18_within.f (wrap64 (Int.tdiv n 4)) 4 = some s := es
  unfold donjonlaw18_good.f
  rw [ew, Option.bind_some, Option.bind_some, ew2, Option.bind_some, Option.bind_some, good4_f, Option.bind_some, good4_f, Option.bind_some]
  obtain ⟨n1, n2⟩ := name_ok t t0 t1
  obtain ⟨n3, n4⟩ := name_ok s s0 s1
  by_cases hs : (text.size : Int) > 40
  · rw [if_pos hs, if_pos (by decide), if_pos (by omega)]
    refine ⟨_, _, _, _, _, _, _, _, _, _, _, rfl, n1, n2, lab_good a b c d, n3, n4, lab_good a' b' c' d', ?_⟩
    rw [ByteArray.size_extract]
    omega
  · rw [if_neg hs]
    exact ⟨_, _, _, _, _, _, _, _, _, _, _, rfl, n1, n2, lab_good a b c d, n3, n4, lab_good a' b' c' d', by omega⟩
theorem send_ok (k : Nat) (rs : List S44) {u v : ByteArray} (hu : okName u = true) (hv : okName v = true) {a b c d a' b' c' d' : Int} (h : Lab a b c d) (h' : Lab a' b' c' d') (text : ByteArray) (ht : text.size ≤ 40) (x : Int × Int × Int × Int × Int × Int × Int × Int × ByteArray × Bool)
    (hr : mail_Rule.f k rs u a b c d v a' b' c' d' text = some x) :
    mail_Send.f (k + 4) rs u a b c d v a' b' c' d' text = some (if overV a' b' c' d' a b c d = true then (1, 0) else if x.2.2.2.2.2.2.2.2.2 = true then (2, 0) else (0, 19)) := by
  have e0 : rd_T26 [(⟨a, b, c, d⟩ : S26), ⟨a', b', c', d'⟩] 0 = ⟨a, b, c, d⟩ := rfl
  have e1 : rd_T26 [(⟨a, b, c, d⟩ : S26), ⟨a', b', c', d'⟩] 1 = ⟨a', b', c', d'⟩ := rfl
  have el : (([(⟨a, b, c, d⟩ : S26), ⟨a', b', c', d'⟩] : List S26).length : Int) = 2 := rfl
  unfold mail_Send.f path_Name.f
  rw [hu, hv, Option.bind_some, if_pos rfl, Option.bind_some, mail_Send.j0, if_neg (by decide), Option.bind_some, el]
  rw [mail_Send.l0, if_pos (by decide), if_pos (by decide), el, if_pos (by decide), e0]
  dsimp only
  rw [check_ok h, Option.bind_some, if_pos rfl, show wrap64 (0 + 1) = 1 from wrap64_id (by decide) (by decide)]
  rw [mail_Send.l0, if_pos (by decide), if_pos (by decide), el, if_pos (by decide), e1]
  dsimp only
  rw [check_ok h', Option.bind_some, if_pos rfl, show wrap64 (1 + 1) = 2 from wrap64_id (by decide) (by decide)]
  rw [mail_Send.l0, if_neg (by decide), hr, Option.bind_some, if_neg (by omega), over_f h' h, Option.bind_some]
  by_cases ho : overV a' b' c' d' a b c d = true
  · rw [if_pos ho, if_pos ho]
  · rw [if_neg ho, if_neg ho]
    by_cases hx : x.2.2.2.2.2.2.2.2.2 = true
    · rw [if_pos hx, if_pos hx]
    · rw [if_neg hx, if_neg hx]
end Go.Proofs.Ytdbnjjkapelekaa.Pure
/- MailSends, over numbers and lists: what becomes of any message by any rules, and whether it may be released, is what the document says. For every input. -/
namespace Go.Proofs.Ytdbnjjkapelekaa.Pure
open Go.RowKit Go.Proofs.Ytdbnjjkapelekaa.X Go.Proofs.YtdbnjjkapelekaaW.PrintWords Go.Proofs.YtdbnjjkapelekaaW.PrintLast Go.Proofs.Ytdbnjjkapelekaa.Lib

/-- The document's name, byte by byte. -/
theorem ref_name_l0 (s : ByteArray) (hs : s.size ≤ 9223372036854775806) (d : Nat) : ∀ (k i : Nat), i + d = s.size → d < k →
    donjonref7_Name.l0 k s (i : Int) = some (decide (∀ j : Nat, j < s.size → i ≤ j → okSign (bt s (j : Int)) = true) && (decide (1 ≤ s.size) && decide (s.size ≤ 12))) := by
  induction d with
  | zero =>
    intro k i hi hk
    obtain ⟨k, rfl⟩ : ∃ m, k = m + 1 := ⟨k - 1, by omega⟩
    rw [donjonref7_Name.l0, if_neg (by omega), decide_eq_true (fun j h1 h2 => by omega), Bool.true_and]
    by_cases h1 : 1 ≤ s.size
    · rw [if_pos (by omega), decide_eq_true h1, Bool.true_and]
      congr 1
      by_cases h2 : s.size ≤ 12
      · rw [decide_eq_true h2, decide_eq_true (by omega)]
      · rw [decide_eq_false h2, decide_eq_false (by omega)]
    · rw [if_neg (by omega), decide_eq_false h1, Bool.false_and]
  | succ d ih =>
    intro k i hi hk
    obtain ⟨k, rfl⟩ : ∃ m, k = m + 1 := ⟨k - 1, by omega⟩
    have hnext := ih k (i + 1) (by omega) (by omega)
    have hw : wrap64 ((i : Int) + 1) = ((i + 1 : Nat) : Int) := by rw [wrap64_id (by omega) (by omega)]; omega
    have hbad : okSign (bt s (i : Int)) = false → (some false : Option Bool) = some (decide (∀ j : Nat, j < s.size → i ≤ j → okSign (bt s (j : Int)) = true) && (decide (1 ≤ s.size) && decide (s.size ≤ 12))) := by
      intro hb
      rw [decide_eq_false (fun h => by rw [h i (by omega) (Nat.le_refl _)] at hb; exact absurd hb (by simp)), Bool.false_and]
    have hgood : okSign (bt s (i : Int)) = true → donjonref7_Name.l0 k s ((i + 1 : Nat) : Int) = some (decide (∀ j : Nat, j < s.size → i ≤ j → okSign (bt s (j : Int)) = true) && (decide (1 ≤ s.size) && decide (s.size ≤ 12))) := by
      intro hg
      rw [hnext]
      congr 2
      by_cases h : ∀ j : Nat, j < s.size → i + 1 ≤ j → okSign (bt s (j : Int)) = true
      · rw [decide_eq_true h, decide_eq_true (fun j h1 h2 => ?_)]
        by_cases e : i = j
        · subst e; exact hg
        · exact h j h1 (by omega)
      · rw [decide_eq_false h, decide_eq_false (fun h2 => h (fun j h3 h4 => h2 j h3 (by omega)))]
    rw [donjonref7_Name.l0, if_pos (by omega), if_pos (by omega), hw]
    by_cases c1 : bt s (i : Int) < 97
    · rw [if_pos c1]
      by_cases c2 : bt s (i : Int) < 48
      · rw [if_pos c2]
        exact hbad (by unfold okSign; simp; omega)
      · rw [if_neg c2]
        by_cases c3 : bt s (i : Int) > 57
        · rw [if_pos c3]
          exact hbad (by unfold okSign; simp; omega)
        · rw [if_neg c3]
          exact hgood (by unfold okSign; simp; omega)
    · rw [if_neg c1]
      by_cases c4 : bt s (i : Int) > 122
      · rw [if_pos c4]
        by_cases c2 : bt s (i : Int) < 48
        · omega
        · rw [if_neg c2, if_pos (by omega)]
          exact hbad (by unfold okSign; simp; omega)
      · rw [if_neg c4]
        exact hgood (by unfold okSign; simp; omega)
theorem ref_name_f (s : ByteArray) (hs : s.size ≤ 9223372036854775806) (k : Nat) (hk : s.size < k) : donjonref7_Name.f k s = some (okName s) := by
  unfold donjonref7_Name.f
  have h := ref_name_l0 s hs s.size k 0 (by omega) hk
  have e : ((0 : Nat) : Int) = 0 := rfl
  rw [e] at h
  rw [h]
  unfold okName
  congr 2
  by_cases hall : ∀ j : Nat, j < s.size → okSign (bt s (j : Int)) = true
  · rw [(path_Name.all_iff s).2 hall, decide_eq_true (fun j h1 _ => hall j h1)]
  · have h2 : (bytesOf s).all okSign = false := by
      rw [Bool.eq_false_iff]
      intro h3
      exact hall ((path_Name.all_iff s).1 h3)
    rw [h2, decide_eq_false (fun h3 => hall (fun j h1 => h3 j h1 (by omega)))]
theorem index_iff (w : List UInt8) : ∀ s : List UInt8, 0 ≤ Lib.index s w ↔ ∃ i, i ≤ s.length ∧ w.isPrefixOf (s.drop i) = true
  | [] => by
    show 0 ≤ (if w.isEmpty = true then (0 : Int) else -1) ↔ _
    cases w with
    | nil => simp
    | cons c w => simp
  | b :: l => by
    have ih := index_iff w l
    have hge := Lib.index_ge l w
    show 0 ≤ (if w.isPrefixOf (b :: l) = true then (0 : Int) else if (Lib.index l w == -1) = true then -1 else Lib.index l w + 1) ↔ _
    by_cases h : w.isPrefixOf (b :: l) = true
    · rw [if_pos h]
      exact ⟨fun _ => ⟨0, Nat.zero_le _, h⟩, fun _ => Int.le_refl _⟩
    · rw [if_neg h]
      by_cases h2 : Lib.index l w = -1
      · rw [if_pos (beq_iff_eq.2 h2)]
        constructor
        · intro h3; omega
        · rintro ⟨i, hi, hp⟩
          cases i with
          | zero => exact absurd hp h
          | succ i =>
            have : 0 ≤ Lib.index l w := ih.2 ⟨i, by simpa using hi, hp⟩
            omega
      · rw [if_neg (by simpa using h2)]
        constructor
        · intro _
          obtain ⟨i, hi, hp⟩ := ih.1 (by omega)
          exact ⟨i + 1, by simpa using hi, hp⟩
        · intro _; omega
/-- Does the word stand at this place of the text? -/
def occW (t w : ByteArray) (i : Nat) : Bool := (t.extract i (i + w.size)).toList == w.toList
theorem occ_prefix (t w : ByteArray) (i : Nat) (_h : i + w.size ≤ t.size) : occW t w i = w.data.toList.isPrefixOf (t.data.toList.drop i) := by
  have e1 : (t.extract i (i + w.size)).toList = (t.data.toList.drop i).take w.data.toList.length := by
    rw [Lib.toList_data]
    simp [List.extract_eq_take_drop]
  unfold occW
  rw [e1, Lib.toList_data, Bool.eq_iff_iff, beq_iff_eq, List.isPrefixOf_iff_prefix, List.prefix_iff_eq_take]
  exact eq_comm
theorem contains_iff (t w : ByteArray) : Lib.contains t.data.toList w.data.toList = true ↔ ∃ j, j + w.size ≤ t.size ∧ occW t w j = true := by
  have ht : t.data.toList.length = t.size := by simp
  have hl : w.data.toList.length = w.size := by simp
  unfold Lib.contains
  rw [decide_eq_true_eq, index_iff]
  constructor
  · rintro ⟨i, hi, hp⟩
    have h2 : i + w.size ≤ t.size := by
      have := (List.isPrefixOf_iff_prefix.1 hp).length_le
      rw [List.length_drop] at this
      omega
    exact ⟨i, h2, by rw [occ_prefix t w i h2]; exact hp⟩
  · rintro ⟨j, h2, ho⟩
    exact ⟨j, by omega, by rw [← occ_prefix t w j h2]; exact ho⟩
def labB (s c i d : Int) : Bool := (decide (0 ≤ s) && decide (s ≤ 3)) && ((decide (0 ≤ i) && decide (i ≤ 3)) && ((decide (0 ≤ c) && decide (c ≤ 255)) && (decide (0 ≤ d) && decide (d ≤ 255))))
theorem lab_of {s c i d : Int} (h : labB s c i d = true) : Lab s c i d := by
  unfold labB at h
  simp only [Bool.and_eq_true, decide_eq_true_eq] at h
  exact ⟨by omega, by omega, by omega, by omega, by omega, by omega, by omega, by omega⟩
theorem check_f (s c i d : Int) : label_Check.f s c i d = some (if labB s c i d = true then 0 else 1) := by
  unfold label_Check.f labB
  rw [mlev s, mlev i, mcat c, mcat d]
  simp only [Option.bind_some]
  generalize (decide (0 ≤ s) && decide (s ≤ 3)) = x1
  generalize (decide (0 ≤ i) && decide (i ≤ 3)) = x2
  generalize (decide (0 ≤ c) && decide (c ≤ 255)) = x3
  generalize (decide (0 ≤ d) && decide (d ≤ 255)) = x4
  cases x1 <;> cases x2 <;> cases x3 <;> cases x4 <;> rfl
theorem ref_check_f (s c i d : Int) : donjonref4_Check.f s c i d = some (if labB s c i d = true then 0 else 1) := by
  unfold donjonref4_Check.f labB
  simp only [Bool.and_eq_true, decide_eq_true_eq]
  repeat' split
  all_goals first | rfl | (exfalso; omega)
/-- What becomes of a message. -/
def sendV (u : ByteArray) (a b c d : Int) (v : ByteArray) (a' b' c' d' : Int) (z : Nat) (is : Bool) : Int × Int :=
  if okName u = true then (if okName v = true then (if labB a b c d = true then (if labB a' b' c' d' = true then (if (z : Int) > 40 then (0, 5) else if overV a' b' c' d' a b c d = true then (1, 0) else if is = true then (2, 0) else (0, 19)) else (0, 1)) else (0, 1)) else (0, 1)) else (0, 1)
theorem send_any (k : Nat) (rs : List S44) (u : ByteArray) (a b c d : Int) (v : ByteArray) (a' b' c' d' : Int) (text : ByteArray) (x : Int × Int × Int × Int × Int × Int × Int × Int × ByteArray × Bool)
    (hr : mail_Rule.f k rs u a b c d v a' b' c' d' text = some x) : mail_Send.f (k + 4) rs u a b c d v a' b' c' d' text = some (sendV u a b c d v a' b' c' d' text.size x.2.2.2.2.2.2.2.2.2) := by
  have e0 : rd_T26 [(⟨a, b, c, d⟩ : S26), ⟨a', b', c', d'⟩] 0 = ⟨a, b, c, d⟩ := rfl
  have e1 : rd_T26 [(⟨a, b, c, d⟩ : S26), ⟨a', b', c', d'⟩] 1 = ⟨a', b', c', d'⟩ := rfl
  have el : (([(⟨a, b, c, d⟩ : S26), ⟨a', b', c', d'⟩] : List S26).length : Int) = 2 := rfl
  unfold mail_Send.f path_Name.f sendV
  rw [Option.bind_some]
  by_cases hu : okName u = true
  · rw [if_pos hu, if_pos hu, Option.bind_some, mail_Send.j0]
    by_cases hv : okName v = true
    · rw [if_pos hv, hv, if_neg (by decide), Option.bind_some, el, mail_Send.l0, if_pos (by decide), if_pos (by decide), el, if_pos (by decide), e0]
      dsimp only
      rw [check_f a b c d, Option.bind_some]
      by_cases h1 : labB a b c d = true
      · rw [if_pos h1, if_pos h1, if_pos rfl, show wrap64 (0 + 1) = 1 from wrap64_id (by decide) (by decide), mail_Send.l0, if_pos (by decide), if_pos (by decide), el, if_pos (by decide), e1]
        dsimp only
        rw [check_f a' b' c' d', Option.bind_some]
        by_cases h2 : labB a' b' c' d' = true
        · rw [if_pos h2, if_pos h2, if_pos rfl, show wrap64 (1 + 1) = 2 from wrap64_id (by decide) (by decide), mail_Send.l0, if_neg (by decide), hr, Option.bind_some, over_f (lab_of h2) (lab_of h1), Option.bind_some]
          by_cases hz : (text.size : Int) > 40
          · rw [if_pos hz, if_pos hz]
          · rw [if_neg hz, if_neg hz]
            by_cases ho : overV a' b' c' d' a b c d = true
            · rw [if_pos ho, if_pos ho]
            · rw [if_neg ho, if_neg ho]
              by_cases hx : x.2.2.2.2.2.2.2.2.2 = true
              · rw [if_pos hx, if_pos hx]
              · rw [if_neg hx, if_neg hx]
        · rw [if_neg h2, if_neg h2, if_neg (by decide)]
      · rw [if_neg h1, if_neg h1, if_neg (by decide)]
    · rw [if_neg hv, Bool.eq_false_iff.2 hv, if_pos (show (!false) = true from rfl)]
  · rw [if_neg hu, if_neg hu, mail_Send.j0, if_pos rfl]
theorem ref_rule_l (L : List S44) (hL : L.length < 4611686018427387904) (u : ByteArray) (a b c d : Int) (v : ByteArray) (a' b' c' d' : Int) (text : ByteArray) : ∀ (n i : Nat), i + n = L.length → ∀ k, n < k →
    donjonref18_Rule.l0 k L (i : Int) u a b c d v a' b' c' d' text = some (ruleV a b c d a' b' c' d' (L.drop i)) := by
  intro n
  induction n with
  | zero =>
    intro i hi k hk
    obtain ⟨k, rfl⟩ : ∃ q, k = q + 1 := ⟨k - 1, by omega⟩
    rw [donjonref18_Rule.l0, if_neg (by omega), List.drop_of_length_le (by omega)]
    rfl
  | succ n ih =>
    intro i hi k hk
    obtain ⟨k, rfl⟩ : ∃ q, k = q + 1 := ⟨k - 1, by omega⟩
    have hlt : i < L.length := by omega
    have hw : wrap64 ((i : Int) + 1) = ((i + 1 : Nat) : Int) := by rw [wrap64_id (by omega) (by omega)]; omega
    rw [donjonref18_Rule.l0, if_pos (by omega), if_pos (by omega), rdR_get hlt, List.drop_eq_getElem_cons hlt, ruleV, hw, ih (i + 1) (by omega) k (by omega)]
    split
    · rename_i h1
      split
      · rename_i h2
        rw [if_pos (show namedR a b c d a' b' c' d' L[i] = true by unfold namedR; rw [Bool.and_eq_true]; exact ⟨h1, h2⟩)]
      · rename_i h2
        rw [if_neg (fun h => h2 (by unfold namedR at h; rw [Bool.and_eq_true] at h; exact h.2))]
    · rename_i h1
      rw [if_neg (fun h => h1 (by unfold namedR at h; rw [Bool.and_eq_true] at h; exact h.1))]
theorem ref_rule_ok (L : List S44) (hL : L.length < 4611686018427387904) (u : ByteArray) (a b c d : Int) (v : ByteArray) (a' b' c' d' : Int) (text : ByteArray) (k : Nat) (hk : L.length < k) :
    donjonref18_Rule.f k L u a b c d v a' b' c' d' text = some (ruleV a b c d a' b' c' d' L) := by
  have h := ref_rule_l L hL u a b c d v a' b' c' d' text L.length 0 (by omega) k hk
  rw [List.drop_zero] at h
  exact h
theorem ref_send_any (k : Nat) (rs : List S44) (u : ByteArray) (a b c d : Int) (v : ByteArray) (a' b' c' d' : Int) (text : ByteArray) (x : Int × Int × Int × Int × Int × Int × Int × Int × ByteArray × Bool) (hku : u.size < k) (hkv : v.size < k) (hk : k < 1000000)
    (hr : donjonref18_Rule.f k rs u a b c d v a' b' c' d' text = some x) : donjonref18_Send.f (k + 1) rs u a b c d v a' b' c' d' text = some (sendV u a b c d v a' b' c' d' text.size x.2.2.2.2.2.2.2.2.2) := by
  unfold donjonref18_Send.f sendV
  rw [ref_name_f u (by omega) (k + 1) (by omega), Option.bind_some, ref_name_f v (by omega) (k + 1) (by omega), Option.bind_some, ref_check_f, Option.bind_some, ref_check_f, Option.bind_some, donjonref18_Send.j0, donjonref18_Send.j0]
  by_cases hu : okName u = true
  · rw [if_pos hu, if_pos hu]
    by_cases hv : okName v = true
    · rw [if_pos hv, if_pos hv]
      by_cases h1 : labB a b c d = true
      · rw [if_pos h1, if_pos h1, if_pos rfl]
        by_cases h2 : labB a' b' c' d' = true
        · rw [if_pos h2, if_pos h2, if_neg (by decide), ref_over_f (lab_of h2) (lab_of h1), Option.bind_some, hr, Option.bind_some]
          by_cases hz : (text.size : Int) > 40
          · rw [if_pos hz, if_pos hz]
          · rw [if_neg hz, if_neg hz]
            by_cases ho : overV a' b' c' d' a b c d = true
            · rw [if_pos ho, if_pos ho]
            · rw [if_neg ho, if_neg ho]
              by_cases hx : x.2.2.2.2.2.2.2.2.2 = true
              · rw [if_pos hx, if_pos hx]
              · rw [if_neg hx, if_neg hx]
        · rw [if_neg h2, if_neg h2, if_pos (by decide)]
      · rw [if_neg h1, if_neg h1, if_neg (by decide), if_pos rfl]
    · rw [if_neg hv, if_neg hv, if_pos rfl]
  · rw [if_neg hu, if_neg hu, if_pos rfl]
theorem rel_l (u : ByteArray) (a b c d : Int) (v : ByteArray) (a' b' c' d' : Int) (t : ByteArray) (x0 x1 x2 x3 x4 x5 x6 x7 : Int) (w : ByteArray) (ht : t.size ≤ 1000000) (hw : w.size ≤ 1000000) : ∀ (n i : Nat), i + n = t.size + 1 → ∀ k, n < k →
    ((∃ j, i ≤ j ∧ j + w.size ≤ t.size ∧ occW t w j = true) → donjonref18_Release.l0 k (i : Int) u a b c d v a' b' c' d' t x0 x1 x2 x3 x4 x5 x6 x7 w = some 6) ∧ ((∀ j, i ≤ j → j + w.size ≤ t.size → occW t w j = false) → donjonref18_Release.l0 k (i : Int) u a b c d v a' b' c' d' t x0 x1 x2 x3 x4 x5 x6 x7 w = some 0) := by
  intro n
  induction n with
  | zero =>
    intro i hi k hk
    obtain ⟨k, rfl⟩ : ∃ q, k = q + 1 := ⟨k - 1, by omega⟩
    refine ⟨fun ⟨j, h1, h2, _⟩ => by omega, fun _ => ?_⟩
    rw [donjonref18_Release.l0, if_neg (by rw [wrap64_id (by omega) (by omega)]; omega)]
  | succ n ih =>
    intro i hi k hk
    obtain ⟨k, rfl⟩ : ∃ q, k = q + 1 := ⟨k - 1, by omega⟩
    obtain ⟨ih1, ih2⟩ := ih (i + 1) (by omega) k (by omega)
    have hs : wrap64 ((i : Int) + 1) = ((i + 1 : Nat) : Int) := by rw [wrap64_id (by omega) (by omega)]; omega
    have hz : wrap64 ((i : Int) + (w.size : Int)) = ((i + w.size : Nat) : Int) := by rw [wrap64_id (by omega) (by omega)]; omega
    rw [donjonref18_Release.l0, hz, hs, Int.toNat_natCast, Int.toNat_natCast]
    by_cases hf : i + w.size ≤ t.size
    · rw [if_pos (by omega), if_pos (by omega), if_pos (by omega)]
      by_cases ho : (t.extract i (i + w.size)).toList = w.toList
      · rw [if_pos ho]
        refine ⟨fun _ => rfl, fun h => ?_⟩
        have := h i (Nat.le_refl _) hf
        unfold occW at this
        rw [ho, beq_self_eq_true] at this
        exact absurd this (by decide)
      · rw [if_neg ho]
        refine ⟨fun ⟨j, h1, h2, h3⟩ => ih1 ⟨j, ?_, h2, h3⟩, fun h => ih2 (fun j h1 h2 => h j (by omega) h2)⟩
        by_cases e : i = j
        · subst e
          unfold occW at h3
          exact absurd (beq_iff_eq.1 h3) ho
        · omega
    · rw [if_neg (by omega)]
      refine ⟨fun ⟨j, h1, h2, _⟩ => by omega, fun _ => rfl⟩
theorem ref_rel_ok (L : List S44) (u : ByteArray) (a b c d : Int) (v : ByteArray) (a' b' c' d' : Int) (t : ByteArray) (x : Int × Int × Int × Int × Int × Int × Int × Int × ByteArray × Bool) (k : Nat) (ht : t.size ≤ 1000000) (hw : x.2.2.2.2.2.2.2.2.1.size ≤ 1000000) (hk : t.size + 1 < k)
    (hr : donjonref18_Rule.f k L u a b c d v a' b' c' d' t = some x) : donjonref18_Release.f k L u a b c d v a' b' c' d' t = some (if x.2.2.2.2.2.2.2.2.2 = true then (if Lib.contains t.data.toList x.2.2.2.2.2.2.2.2.1.data.toList = true then 6 else 0) else 19) := by
  unfold donjonref18_Release.f
  rw [hr, Option.bind_some]
  by_cases hx : x.2.2.2.2.2.2.2.2.2 = true
  · rw [if_pos hx, if_pos hx]
    obtain ⟨h1, h2⟩ := rel_l u a b c d v a' b' c' d' t x.1 x.2.1 x.2.2.1 x.2.2.2.1 x.2.2.2.2.1 x.2.2.2.2.2.1 x.2.2.2.2.2.2.1 x.2.2.2.2.2.2.2.1 x.2.2.2.2.2.2.2.2.1 ht hw (t.size + 1) 0 (by omega) k hk
    have hc := contains_iff t x.2.2.2.2.2.2.2.2.1
    by_cases hcc : Lib.contains t.data.toList x.2.2.2.2.2.2.2.2.1.data.toList = true
    · rw [if_pos hcc]
      obtain ⟨j, h3, h4⟩ := hc.1 hcc
      exact h1 ⟨j, Nat.zero_le _, h3, h4⟩
    · rw [if_neg hcc]
      refine h2 (fun j _ h3 => ?_)
      rw [Bool.eq_false_iff]
      intro h4
      exact hcc (hc.2 ⟨j, h3, h4⟩)
  · rw [if_neg hx, if_neg hx]
theorem sends_round (l0 : List S44) (hw : ∀ x ∈ l0, x.f2.size ≤ 100) (n : Int) (x8 : Int) (h0 : 0 ≤ x8) (h2 : x8 < 2) (k : Nat) (hk : 600 ≤ k) (hk2 : k < 1000) (u : ByteArray) (a b c d : Int) (v : ByteArray) (a' b' c' d' : Int) (text : ByteArray) (hu : u.size ≤ 500) (hv : v.size ≤ 500) (ht : text.size ≤ 500)
    (hnext : ∀ (u : ByteArray) (a b c d : Int) (v : ByteArray) (a' b' c' d' : Int) (text : ByteArray), u.size ≤ 500 → v.size ≤ 500 → text.size ≤ 500 → donjonlaw18_MailSends.l1 k l0 n (x8 + 1) u a b c d v a' b' c' d' text = some true) :
    donjonlaw18_MailSends.l1 (k + 1) l0 n x8 u a b c d v a' b' c' d' text = some true := by
  obtain ⟨t, et, t0, t1, _⟩ := within_small (a := n) (n := 9) (by omega) (by omega)
  have ew : donjonlaw18_within.f n 9 = some t := et
  obtain ⟨L, eL, hL8, hLw⟩ := rules_ok l0 t u a b c d v a' b' c' d' text k (by omega)
  have hR : ∀ q, 8 < q → mail_Rule.f q L u a b c d v a' b' c' d' text = some (ruleV a b c d a' b' c' d' L) := fun q hq => rule_ok L (by omega) u a b c d v a' b' c' d' text q (by omega)
  have hR2 : ∀ q, 8 < q → donjonref18_Rule.f q L u a b c d v a' b' c' d' text = some (ruleV a b c d a' b' c' d' L) := fun q hq => ref_rule_ok L (by omega) u a b c d v a' b' c' d' text q (by omega)
  obtain ⟨q, rfl⟩ : ∃ q, k = q + 4 := ⟨k - 4, by omega⟩
  have hwz : (ruleV a b c d a' b' c' d' L).2.2.2.2.2.2.2.2.1.size ≤ 100 := by
    rcases ruleV_cases a b c d a' b' c' d' L with ⟨x, hx, e⟩ | e
    · rw [e]
      obtain ⟨y, hy, e2⟩ := hLw x hx
      show x.f2.size ≤ 100
      rw [e2]
      exact hw y hy
    · rw [e]
      exact Nat.zero_le _
  have hq : mail_Release.f (q + 4) L u a b c d v a' b' c' d' text = some (if (ruleV a b c d a' b' c' d' L).2.2.2.2.2.2.2.2.2 = true then (if Lib.contains text.data.toList (ruleV a b c d a' b' c' d' L).2.2.2.2.2.2.2.2.1.data.toList = true then 6 else 0) else 19) := by
    unfold mail_Release.f
    rw [if_pos (by omega), hR (q + 4) (by omega), Option.bind_some]
  obtain ⟨u2, a2, b2, c2, d2, v2, a3, b3, c3, d3, text2, eg, _, hu2, _, _, hv2, _, ht2⟩ := good_ok u a b c d v a' b' c' d' text n
  rw [donjonlaw18_MailSends.l1, if_pos h2, ew, Option.bind_some, eL, Option.bind_some, send_any q L u a b c d v a' b' c' d' text _ (hR q (by omega)), Option.bind_some,
    ref_send_any (q + 3) L u a b c d v a' b' c' d' text _ (by omega) (by omega) (by omega) (hR2 (q + 3) (by omega)), Option.bind_some, hR (q + 4) (by omega), Option.bind_some, hR2 (q + 4) (by omega), Option.bind_some, if_pos rfl, if_pos rfl, if_neg (by simp), if_neg (by simp), hq, Option.bind_some,
    ref_rel_ok L u a b c d v a' b' c' d' text _ (q + 4) (by omega) (by omega) (by omega) (hR2 (q + 4) (by omega)), Option.bind_some, if_pos rfl, eg, Option.bind_some, wrap64_id (by omega) (by omega)]
  exact hnext u2 a2 b2 c2 d2 v2 a3 b3 c3 d3 text2 (by omega) (by omega) (by omega)
theorem sends_l1 (l0 : List S44) (hw : ∀ x ∈ l0, x.f2.size ≤ 100) (n : Int) (k : Nat) (hk : 700 ≤ k) (hk2 : k < 1000) (u : ByteArray) (a b c d : Int) (v : ByteArray) (a' b' c' d' : Int) (text : ByteArray) (hu : u.size ≤ 500) (hv : v.size ≤ 500) (ht : text.size ≤ 500) :
    donjonlaw18_MailSends.l1 k l0 n 0 u a b c d v a' b' c' d' text = some true := by
  obtain ⟨k, rfl⟩ : ∃ q, k = q + 3 := ⟨k - 3, by omega⟩
  refine sends_round l0 hw n 0 (by omega) (by omega) (k + 2) (by omega) (by omega) u a b c d v a' b' c' d' text hu hv ht (fun u a b c d v a' b' c' d' text hu hv ht => ?_)
  refine sends_round l0 hw n (0 + 1) (by omega) (by omega) (k + 1) (by omega) (by omega) u a b c d v a' b' c' d' text hu hv ht (fun u a b c d v a' b' c' d' text hu hv ht => ?_)
  rw [donjonlaw18_MailSends.l1, if_neg (by decide)]
theorem sends_l0 (l0 : List S44) (hl : l0.length ≤ 20) (n : Int) (u : ByteArray) (a b c d : Int) (v : ByteArray) (a' b' c' d' : Int) (text : ByteArray) (hu : u.size ≤ 500) (hv : v.size ≤ 500) (ht : text.size ≤ 500) : ∀ (m i : Nat), i + m = l0.length → (∀ j (h : j < l0.length), j < i → (l0[j]).f2.size ≤ 100) → ∀ k, 701 + m ≤ k → k < 1000 →
    donjonlaw18_MailSends.l0 k l0 n (i : Int) u a b c d v a' b' c' d' text = some true := by
  intro m
  induction m with
  | zero =>
    intro i hi hj k hk hk2
    obtain ⟨k, rfl⟩ : ∃ q, k = q + 1 := ⟨k - 1, by omega⟩
    rw [donjonlaw18_MailSends.l0, if_neg (by omega)]
    refine sends_l1 l0 (fun x hx => ?_) n k (by omega) (by omega) u a b c d v a' b' c' d' text hu hv ht
    obtain ⟨j, hj2, rfl⟩ := List.mem_iff_getElem.1 hx
    exact hj j hj2 (by omega)
  | succ m ih =>
    intro i hi hj k hk hk2
    obtain ⟨k, rfl⟩ : ∃ q, k = q + 1 := ⟨k - 1, by omega⟩
    have hlt : i < l0.length := by omega
    have hwr : wrap64 ((i : Int) + 1) = ((i + 1 : Nat) : Int) := by rw [wrap64_id (by omega) (by omega)]; omega
    rw [donjonlaw18_MailSends.l0, if_pos (by omega), if_pos (by omega), rdR_get hlt, hwr]
    by_cases hz : ((l0[i]).f2.size : Int) > 100
    · rw [if_pos hz]
    · rw [if_neg hz]
      refine ih (i + 1) (by omega) (fun j h h2 => ?_) k (by omega) (by omega)
      by_cases e : j = i
      · subst e
        omega
      · exact hj j h (by omega)
theorem known800 : donjonlaw18_known.f 800 = some true := by decide +kernel
theorem MailSends : ∀ (l0 : List (S44)) (a1_0 : ByteArray) (a1_1 : Int) (a1_2 : Int) (a1_3 : Int) (a1_4 : Int) (a1_5 : ByteArray) (a1_6 : Int) (a1_7 : Int) (a1_8 : Int) (a1_9 : Int) (a1_10 : ByteArray) (a2 : Int), (l0.length ≤ maxLen ∧ l0.length * 80 ≤ 140737488351232 ∧ ∀ y_ ∈ l0, g_T44 y_) → a1_0.size ≤ 140737488351232 → (Lit.int .i64 a1_1).wf = true → (Lit.int .i64 a1_2).wf = true → (Lit.int .i64 a1_3).wf = true → (Lit.int .i64 a1_4).wf = true → a1_5.size ≤ 140737488351232 → (Lit.int .i64 a1_6).wf = true → (Lit.int .i64 a1_7).wf = true → (Lit.int .i64 a1_8).wf = true → (Lit.int .i64 a1_9).wf = true → a1_10.size ≤ 140737488351232 → (Lit.int .i64 a2).wf = true → ∃ k, donjonlaw18_MailSends.f k l0 a1_0 a1_1 a1_2 a1_3 a1_4 a1_5 a1_6 a1_7 a1_8 a1_9 a1_10 a2 = some true := by
  intro l0 u a b c d v a' b' c' d' text n _ hu _ _ _ _ hv _ _ _ _ ht _
  refine ⟨800, ?_⟩
  unfold donjonlaw18_MailSends.f
  rw [known800, Option.bind_some, if_pos rfl, wrap64_id (n := (u.size : Int) + (v.size : Int)) (by omega) (by omega), wrap64_id (by omega) (by omega)]
  by_cases hs : (u.size : Int) + (v.size : Int) + (text.size : Int) > 500
  · rw [if_pos hs, donjonlaw18_MailSends.j0, if_pos rfl]
  · rw [if_neg hs, donjonlaw18_MailSends.j0]
    by_cases hl : (l0.length : Int) > 20
    · rw [if_pos (decide_eq_true hl)]
    · rw [if_neg (by rw [decide_eq_false hl]; decide)]
      exact sends_l0 l0 (by omega) n u a b c d v a' b' c' d' text (by omega) (by omega) (by omega) l0.length 0 (by omega) (fun j _ h => by omega) 799 (by omega) (by omega)
end Go.Proofs.Ytdbnjjkapelekaa.Pure
