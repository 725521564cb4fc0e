import Derived.Test.YtnepinkookbanaaDoorF10
import Derived.Test.YtnepinkookbanaaDoorF14
import Derived.Test.YtnepinkookbanaaDoorF16
import Derived.Test.YtnepinkookbanaaDoorF15
import Derived.Test.YtnepinkookbanaaDoorLib
import Derived.Laws.BitsLemmas
import Derived.Test.YtnepinkookbanaaDoorF24
import Derived.Test.YtnepinkookbanaaDoorHO
/- Plain lemmas on the bits of whole numbers. -/
namespace Go.Proofs.YtnepinkookbanaaDoor.Lib
open Go.RowKit Go.Proofs.YtnepinkookbanaaDoorW.PrintWords

theorem i64_wrap_id {n : Int} (h0 : -9223372036854775808 ≤ n) (h1 : n ≤ 9223372036854775807) : IntKind.i64.wrap n = n := by
  rw [Go.IntKind.wrap_i64]
  omega
theorem ofInt64_mod (x : Int) : (BitVec.ofInt 64 x).toNat = (x % 18446744073709551616).toNat := by
  rw [BitVec.toNat_ofInt]
  rfl
/-- Masking an int by 2^j - 1. -/
theorem and_i64_mask (x : Int) (j : Nat) (hj : j ≤ 62) : Go.bits .and .i64 x (2 ^ j - 1) = x % 2 ^ j := by
  have hp : (0 : Int) < 2 ^ j := Int.pow_pos (by decide)
  have hpn : 0 < 2 ^ j := Nat.two_pow_pos j
  have hle : 2 ^ j ≤ 2 ^ 62 := Nat.pow_le_pow_right (by decide) hj
  have hc : ((2 : Int) ^ j - 1) = ((2 ^ j - 1 : Nat) : Int) := by
    rw [Int.natCast_sub hpn]; simp
  have hm : (BitVec.ofInt 64 ((2 : Int) ^ j - 1)).toNat = 2 ^ j - 1 := by
    rw [hc, BitVec.ofInt_natCast, BitVec.toNat_ofNat]
    exact Nat.mod_eq_of_lt (by omega)
  show IntKind.i64.wrap ((BitVec.ofInt 64 x &&& BitVec.ofInt 64 (2 ^ j - 1)).toNat : Int) = _
  rw [BitVec.toNat_and, hm, Nat.and_two_pow_sub_one_eq_mod, ofInt64_mod]
  have hlt : (x % 18446744073709551616).toNat % 2 ^ j < 2 ^ j := Nat.mod_lt _ hpn
  rw [i64_wrap_id (by omega) (by omega)]
  have h0 : 0 ≤ x % 18446744073709551616 := Int.emod_nonneg _ (by decide)
  rw [Int.natCast_emod, Int.toNat_of_nonneg h0]
  have hd : ((2 ^ j : Nat) : Int) ∣ 18446744073709551616 := by
    refine ⟨((2 ^ (64 - j) : Nat) : Int), ?_⟩
    rw [← Int.natCast_mul, ← Nat.pow_add]
    have : j + (64 - j) = 64 := by omega
    rw [this]
    rfl
  rw [Int.emod_emod_of_dvd _ hd]
  simp
theorem and_u64_mask (x : Int) (j : Nat) (hj : j ≤ 62) : Go.bits .and .u64 x (2 ^ j - 1) = x % 2 ^ j := by
  have hpn : 0 < 2 ^ j := Nat.two_pow_pos j
  have hle : 2 ^ j ≤ 2 ^ 62 := Nat.pow_le_pow_right (by decide) hj
  have hc : ((2 : Int) ^ j - 1) = ((2 ^ j - 1 : Nat) : Int) := by
    rw [Int.natCast_sub hpn]; simp
  have hm : (BitVec.ofInt 64 ((2 : Int) ^ j - 1)).toNat = 2 ^ j - 1 := by
    rw [hc, BitVec.ofInt_natCast, BitVec.toNat_ofNat]
    exact Nat.mod_eq_of_lt (by omega)
  show IntKind.u64.wrap ((BitVec.ofInt 64 x &&& BitVec.ofInt 64 (2 ^ j - 1)).toNat : Int) = _
  rw [BitVec.toNat_and, hm, Nat.and_two_pow_sub_one_eq_mod, ofInt64_mod]
  have hlt : (x % 18446744073709551616).toNat % 2 ^ j < 2 ^ j := Nat.mod_lt _ hpn
  rw [u64_wrap, Int.emod_eq_of_lt (by omega) (by omega)]
  have h0 : 0 ≤ x % 18446744073709551616 := Int.emod_nonneg _ (by decide)
  rw [Int.natCast_emod, Int.toNat_of_nonneg h0]
  have hd : ((2 ^ j : Nat) : Int) ∣ 18446744073709551616 := by
    refine ⟨((2 ^ (64 - j) : Nat) : Int), ?_⟩
    rw [← Int.natCast_mul, ← Nat.pow_add]
    have : j + (64 - j) = 64 := by omega
    rw [this]
    rfl
  rw [Int.emod_emod_of_dvd _ hd]
  simp
theorem and_7 (x : Int) : Go.bits .and .i64 x 7 = x % 8 := and_i64_mask x 3 (by decide)
theorem and_65535 (x : Int) : Go.bits .and .i64 x 65535 = x % 65536 := and_i64_mask x 16 (by decide)
theorem and_4294967295 (x : Int) : Go.bits .and .i64 x 4294967295 = x % 4294967296 := and_i64_mask x 32 (by decide)
theorem uand_7 (x : Int) : Go.bits .and .u64 x 7 = x % 8 := and_u64_mask x 3 (by decide)
theorem uand_255 (x : Int) : Go.bits .and .u64 x 255 = x % 256 := and_u64_mask x 8 (by decide)
theorem uand_65535 (x : Int) : Go.bits .and .u64 x 65535 = x % 65536 := and_u64_mask x 16 (by decide)
theorem wraps_i64 (n : Int) (h₀ : 0 ≤ n) (h₁ : n < 2 ^ 63) : IntKind.i64.wrap n = n := i64_wrap_id (by omega) (by omega)
/-- or of what lies apart is the sum. -/
theorem or_apart (i : Nat) (x y : Int) (hx0 : 0 ≤ x) (hx : x % 2 ^ i = 0) (hx1 : x < 9223372036854775808) (hy0 : 0 ≤ y) (hy : y < 2 ^ i) (hy1 : y < 9223372036854775808) : Go.bits .or .i64 x y = x + y :=
  Go.bits_join .i64 63 (by decide) wraps_i64 i x y hx0 hx hx1 hy0 hy hy1
theorem within_small {a n : Int} (hn : 0 < n) (hn1 : n ≤ 4611686018427387904) :
    ∃ r, (if n = 0 then none else if Int.tmod a n < 0 then some (wrap64 (Int.tmod a n + n)) else some (Int.tmod a n)) = some r ∧ 0 ≤ r ∧ r < n ∧ r = a % n := by
  rw [if_neg (by omega)]
  have h1 := Int.tmod_lt_of_pos a hn
  have h2 : -n < Int.tmod a n := by
    have := Int.tmod_lt_of_pos (-a) hn
    rw [Int.neg_tmod] at this
    omega
  have h3 : Int.tmod a n = a % n ∨ Int.tmod a n = a % n - n := by
    rw [Int.tmod_eq_emod]
    split
    · left; omega
    · right
      have : (n.natAbs : Int) = n := by omega
      omega
  have h4 := Int.emod_nonneg a (by omega : n ≠ 0)
  have h5 := Int.emod_lt_of_pos a hn
  by_cases h : Int.tmod a n < 0
  · rw [if_pos h, wrap64_id (by omega) (by omega)]
    exact ⟨_, rfl, by omega, by omega, by omega⟩
  · rw [if_neg h]
    exact ⟨_, rfl, by omega, by omega, by omega⟩
end Go.Proofs.YtnepinkookbanaaDoor.Lib
/- Plain lemmas on texts' order, and on places in rows that are sorted by texts. -/
namespace Go.Proofs.YtnepinkookbanaaDoor.Lib
open Go.RowKit Go.Proofs.YtnepinkookbanaaDoorW.PrintWords

theorem blt_irrefl : ∀ x : List UInt8, Op.bytesLess x x = false
  | [] => rfl
  | a :: x => by simp [Op.bytesLess, blt_irrefl x]
theorem blt_trans : ∀ x y z : List UInt8, Op.bytesLess x y = true → Op.bytesLess y z = true → Op.bytesLess x z = true
  | _, [], _, h, _ => by simp [Op.bytesLess] at h
  | _, _ :: _, [], _, h => by simp [Op.bytesLess] at h
  | [], _ :: _, _ :: _, _, _ => rfl
  | a :: x, b :: y, c :: z, h1, h2 => by
    simp only [Op.bytesLess, Bool.or_eq_true, Bool.and_eq_true, decide_eq_true_eq, beq_iff_eq] at h1 h2 ⊢
    rcases h1 with h1 | ⟨rfl, h1⟩
    · rcases h2 with h2 | ⟨rfl, h2⟩
      · exact .inl (UInt8.lt_trans h1 h2)
      · exact .inl h1
    · rcases h2 with h2 | ⟨rfl, h2⟩
      · exact .inl h2
      · exact .inr ⟨rfl, blt_trans x y z h1 h2⟩
theorem blt_total : ∀ x y : List UInt8, Op.bytesLess x y = false → Op.bytesLess y x = false → x = y
  | [], [], _, _ => rfl
  | [], _ :: _, h, _ => by simp [Op.bytesLess] at h
  | _ :: _, [], _, h => by simp [Op.bytesLess] at h
  | a :: x, b :: y, h1, h2 => by
    simp only [Op.bytesLess, Bool.or_eq_false_iff, Bool.and_eq_false_iff, decide_eq_false_iff_not, beq_eq_false_iff_ne] at h1 h2
    have hab : a = b := by
      have h3 := h1.1
      have h4 := h2.1
      rw [UInt8.not_lt] at h3 h4
      exact UInt8.le_antisymm h4 h3
    subst hab
    have h5 : Op.bytesLess x y = false := by
      rcases h1.2 with h | h
      · exact absurd rfl h
      · exact h
    have h6 : Op.bytesLess y x = false := by
      rcases h2.2 with h | h
      · exact absurd rfl h
      · exact h
    rw [blt_total x y h5 h6]
theorem blt_asymm (x y : List UInt8) (h : Op.bytesLess x y = true) : Op.bytesLess y x = false := by
  cases h2 : Op.bytesLess y x with
  | false => rfl
  | true =>
    have := blt_trans x y x h h2
    rw [blt_irrefl] at this
    exact absurd this (by simp)

/-- The first m places are so, the others are not: m are so. -/
theorem count_prefix (p : Nat → Bool) (m : Nat) : ∀ n, m ≤ n → (∀ i, i < m → p i = true) → (∀ i, m ≤ i → i < n → p i = false) → (List.range n).countP p = m := by
  intro n
  induction n with
  | zero =>
    intro hm _ _
    have : m = 0 := by omega
    subst this
    rfl
  | succ n ih =>
    intro hm h1 h2
    rw [List.range_succ, List.countP_append]
    by_cases hmn : m ≤ n
    · rw [ih hmn h1 (fun i hi hn => h2 i hi (by omega))]
      have := h2 n hmn (by omega)
      simp [this]
    · have e : m = n + 1 := by omega
      subst e
      have h3 : (List.range n).countP p = n := by
        rw [List.countP_eq_length.2]
        · exact List.length_range
        · intro i hi
          exact h1 i (by have := List.mem_range.1 hi; omega)
      rw [h3]
      have := h1 n (by omega)
      simp [this]

/-- Keys that rise. -/
def Rising (K : Nat → List UInt8) (n : Nat) : Prop := ∀ i j, i < j → j < n → Op.bytesLess (K i) (K j) = true
theorem rising_of_steps (K : Nat → List UInt8) (n : Nat) (h : ∀ i, 0 < i → i < n → Op.bytesLess (K (i - 1)) (K i) = true) : Rising K n := by
  intro i j hij hj
  induction j with
  | zero => omega
  | succ j ih =>
    have h1 := h (j + 1) (by omega) hj
    have e : j + 1 - 1 = j := by omega
    rw [e] at h1
    by_cases hi : i = j
    · subst hi
      exact h1
    · exact blt_trans _ _ _ (ih (by omega) (by omega)) h1
section
variable {K : Nat → List UInt8} {n : Nat}
theorem rising_parted (h : Rising K n) (u : List UInt8) (i j : Nat) (hij : i ≤ j) (hj : j < n) (hi : Op.bytesLess (K i) u = false) : Op.bytesLess (K j) u = false := by
  by_cases e : i = j
  · subst e
    exact hi
  · cases h2 : Op.bytesLess (K j) u with
    | false => rfl
    | true =>
      have := blt_trans _ _ _ (h i j (by omega) hj) h2
      rw [this] at hi
      exact absurd hi (by simp)
theorem rising_inj (h : Rising K n) {i j : Nat} (hi : i < n) (hj : j < n) (e : K i = K j) : i = j := by
  rcases Nat.lt_trichotomy i j with h1 | h1 | h1
  · have := h i j h1 hj
    rw [e, blt_irrefl] at this
    exact absurd this (by simp)
  · exact h1
  · have := h j i h1 hi
    rw [e, blt_irrefl] at this
    exact absurd this (by simp)
/-- Where a key stands there are as many ahead of it. -/
theorem rising_place (h : Rising K n) {p : Nat} (hp : p < n) {u : List UInt8} (e : K p = u) : (List.range n).countP (fun i => Op.bytesLess (K i) u) = p := by
  subst e
  refine count_prefix _ p n (by omega) (fun i hi => h i p hi hp) (fun i hi hn => ?_)
  by_cases e : p = i
  · subst e
    exact blt_irrefl _
  · exact blt_asymm _ _ (h p i (by omega) hn)
/-- In any rising row there is a place up to which keys are less. -/
theorem rising_cut (h : Rising K n) (u : List UInt8) : ∃ m, m ≤ n ∧ (∀ i, i < m → Op.bytesLess (K i) u = true) ∧ (∀ i, m ≤ i → i < n → Op.bytesLess (K i) u = false) := by
  have key : ∀ m, m ≤ n → (∀ i, i < m → Op.bytesLess (K i) u = true) ∨ ∃ q, q ≤ m ∧ (∀ i, i < q → Op.bytesLess (K i) u = true) ∧ (∀ i, q ≤ i → i < n → Op.bytesLess (K i) u = false) := by
    intro m
    induction m with
    | zero => intro _; exact .inl (fun i hi => by omega)
    | succ m ih =>
      intro hm
      rcases ih (by omega) with h1 | ⟨q, hq, h2⟩
      · cases h3 : Op.bytesLess (K m) u with
        | true =>
          refine .inl (fun i hi => ?_)
          by_cases e : i = m
          · subst e; exact h3
          · exact h1 i (by omega)
        | false => exact .inr ⟨m, by omega, h1, fun i hi hn => rising_parted h u m i hi hn h3⟩
      · exact .inr ⟨q, by omega, h2⟩
  rcases key n (Nat.le_refl _) with h1 | ⟨q, hq, h2⟩
  · exact ⟨n, Nat.le_refl _, h1, fun i hi hn => by omega⟩
  · exact ⟨q, hq, h2⟩
end
theorem wf_bool_ne {a b : Bool} (h : a ≠ b) : a = !b := by cases a <;> cases b <;> simp_all
end Go.Proofs.YtnepinkookbanaaDoor.Lib
/- Labels in plain numbers: what may be known where. -/
namespace Go.Proofs.YtnepinkookbanaaDoor.Pure
open Go.RowKit Go.Proofs.YtnepinkookbanaaDoor.X Go.Proofs.YtnepinkookbanaaDoorW.PrintWords Go.Proofs.YtnepinkookbanaaDoorW.PrintLast Go.Proofs.YtnepinkookbanaaDoor.Lib Go.Proofs.YtnepinkookbanaaDoorW.PrintMore

theorem good4_f (a b c d : Int) : donjonlaw4_Good.f a b c d = some (a % 4, b % 256, c % 4, d % 256) := by
  unfold donjonlaw4_Good.f donjonlaw4_within.f
  obtain ⟨r1, e1, _, _, h1⟩ := within_small (a := a) (n := 4) (by omega) (by omega)
  obtain ⟨r2, e2, _, _, h2⟩ := within_small (a := b) (n := 256) (by omega) (by omega)
  obtain ⟨r3, e3, _, _, h3⟩ := within_small (a := c) (n := 4) (by omega) (by omega)
  obtain ⟨r4, e4, _, _, h4⟩ := within_small (a := d) (n := 256) (by omega) (by omega)
  rw [e1, e2, e3, e4, h1, h2, h3, h4]
  rfl
/-- and, or of what is not below 0, in natural numbers. -/
theorem and_i64 {a b : Int} (ha0 : 0 ≤ a) (ha : a < 9223372036854775808) (hb0 : 0 ≤ b) (hb : b < 9223372036854775808) : Go.bits .and .i64 a b = ((a.toNat &&& b.toNat : Nat) : Int) := by
  have hx : a.toNat &&& b.toNat ≤ a.toNat := Nat.and_le_left
  show IntKind.i64.wrap ((BitVec.ofInt 64 a &&& BitVec.ofInt 64 b).toNat : Int) = _
  rw [BitVec.toNat_and, ofInt64_toNat ha0 (by omega), ofInt64_toNat hb0 (by omega), i64_wrap_id (by omega) (by omega)]
theorem or_i64 {a b : Int} (ha0 : 0 ≤ a) (ha : a < 9223372036854775808) (hb0 : 0 ≤ b) (hb : b < 9223372036854775808) : Go.bits .or .i64 a b = ((a.toNat ||| b.toNat : Nat) : Int) := by
  have hx : a.toNat ||| b.toNat < 2 ^ 63 := Nat.or_lt_two_pow (by omega) (by omega)
  show IntKind.i64.wrap ((BitVec.ofInt 64 a ||| BitVec.ofInt 64 b).toNat : Int) = _
  rw [BitVec.toNat_or, ofInt64_toNat ha0 (by omega), ofInt64_toNat hb0 (by omega), i64_wrap_id (by omega) (by omega)]
theorem nat_or_iff (a b : Nat) : a ||| b = a ↔ a &&& b = b := by
  constructor
  · intro h
    rw [← h]
    apply Nat.eq_of_testBit_eq
    intro i
    simp
    intro hb
    exact .inr hb
  · intro h
    apply Nat.eq_of_testBit_eq
    intro i
    have hi : (a &&& b).testBit i = b.testBit i := by rw [h]
    simp at hi ⊢
    exact hi
/-- A label such as may be. -/
structure Lab (s c i d : Int) : Prop where
  s0 : 0 ≤ s
  s1 : s < 4
  c0 : 0 ≤ c
  c1 : c < 256
  i0 : 0 ≤ i
  i1 : i < 4
  d0 : 0 ≤ d
  d1 : d < 256
theorem lab_good (a b c d : Int) : Lab (a % 4) (b % 256) (c % 4) (d % 256) := ⟨by omega, by omega, by omega, by omega, by omega, by omega, by omega, by omega⟩
/-- May what is known at the second come to the first? -/
def overV (s c i d s' c' i' d' : Int) : Bool := decide (s' ≤ s) && (decide (c.toNat &&& c'.toNat = c'.toNat) && (decide (i ≤ i') && decide (d.toNat &&& d'.toNat = d.toNat)))
theorem mx_eq (a b : Int) : (mx a b == a) = decide (b ≤ a) := by
  unfold mx
  by_cases h : a < b
  · rw [if_pos h, decide_eq_false (by omega)]
    simp; omega
  · rw [if_neg h, decide_eq_true (by omega)]
    simp
theorem mn_eq (a b : Int) : (mn a b == a) = decide (a ≤ b) := by
  unfold mn
  by_cases h : b < a
  · rw [if_pos h, decide_eq_false (by omega)]
    simp; omega
  · rw [if_neg h, decide_eq_true (by omega)]
    simp
theorem over_f {s c i d s' c' i' d' : Int} (h : Lab s c i d) (h' : Lab s' c' i' d') : label_Over.f s c i d s' c' i' d' = some (overV s c i d s' c' i' d') := by
  obtain ⟨a1, a2, a3, a4, a5, a6, a7, a8⟩ := h
  obtain ⟨b1, b2, b3, b4, b5, b6, b7, b8⟩ := h'
  unfold label_Over.f label_Join.f overV
  rw [Option.bind_some, mx_eq, mn_eq, or_i64 a3 (by omega) b3 (by omega), and_i64 a7 (by omega) b7 (by omega)]
  congr 3
  · rw [Bool.eq_iff_iff]
    simp only [beq_iff_eq, decide_eq_true_eq]
    rw [← nat_or_iff]
    omega
  · congr 1
    rw [Bool.eq_iff_iff]
    simp only [beq_iff_eq, decide_eq_true_eq]
    omega
end Go.Proofs.YtnepinkookbanaaDoor.Pure
/- The chapter's example of labels, and that over is an order. -/
namespace Go.Proofs.YtnepinkookbanaaDoor.Pure
open Go.RowKit Go.Proofs.YtnepinkookbanaaDoor.X Go.Proofs.YtnepinkookbanaaDoorW.PrintWords Go.Proofs.YtnepinkookbanaaDoorW.PrintLast Go.Proofs.YtnepinkookbanaaDoor.Lib Go.Proofs.YtnepinkookbanaaDoorW.PrintMore

theorem known4 : donjonlaw4_known.f = some true := by
  unfold donjonlaw4_known.f label_Bottom.f label_Text.f
  rw [Option.bind_some, if_pos (by decide), Option.bind_some]
  decide +kernel
theorem lab_bottom : Lab 0 0 3 255 := ⟨by decide, by decide, by decide, by decide, by decide, by decide, by decide, by decide⟩
theorem overV_iff {s c i d s' c' i' d' : Int} : overV s c i d s' c' i' d' = true ↔ s' ≤ s ∧ c.toNat &&& c'.toNat = c'.toNat ∧ i ≤ i' ∧ d.toNat &&& d'.toNat = d.toNat := by
  unfold overV
  simp only [Bool.and_eq_true, decide_eq_true_eq]
theorem overV_refl (s c i d : Int) : overV s c i d s c i d = true := overV_iff.2 ⟨Int.le_refl _, Nat.and_self _, Int.le_refl _, Nat.and_self _⟩
theorem nat_and_255 {n : Nat} (h : n < 256) : n &&& 255 = n := by
  have := Nat.and_two_pow_sub_one_eq_mod n 8
  rw [show (2 ^ 8 - 1 : Nat) = 255 from rfl] at this
  rw [this]
  omega
theorem overV_bottom {s c i d : Int} (h : Lab s c i d) : overV s c i d 0 0 3 255 = true := by
  obtain ⟨a1, a2, a3, a4, a5, a6, a7, a8⟩ := h
  refine overV_iff.2 ⟨a1, ?_, by omega, ?_⟩
  · show c.toNat &&& 0 = 0
    exact Nat.and_zero _
  · show d.toNat &&& 255 = d.toNat
    exact nat_and_255 (by omega)
theorem overV_anti {s c i d s' c' i' d' : Int} (h : Lab s c i d) (h' : Lab s' c' i' d') (h1 : overV s c i d s' c' i' d' = true) (h2 : overV s' c' i' d' s c i d = true) : s = s' ∧ c = c' ∧ i = i' ∧ d = d' := by
  obtain ⟨a1, a2, a3, a4, a5, a6, a7, a8⟩ := h
  obtain ⟨b1, b2, b3, b4, b5, b6, b7, b8⟩ := h'
  obtain ⟨p1, p2, p3, p4⟩ := overV_iff.1 h1
  obtain ⟨q1, q2, q3, q4⟩ := overV_iff.1 h2
  rw [Nat.and_comm] at q2 q4
  have e1 : c.toNat = c'.toNat := q2.symm.trans p2
  have e2 : d.toNat = d'.toNat := p4.symm.trans q4
  refine ⟨by omega, by omega, by omega, by omega⟩
theorem overV_trans {s c i d s' c' i' d' s2 c2 i2 d2 : Int} (h1 : overV s c i d s' c' i' d' = true) (h2 : overV s' c' i' d' s2 c2 i2 d2 = true) : overV s c i d s2 c2 i2 d2 = true := by
  obtain ⟨p1, p2, p3, p4⟩ := overV_iff.1 h1
  obtain ⟨q1, q2, q3, q4⟩ := overV_iff.1 h2
  refine overV_iff.2 ⟨by omega, ?_, by omega, ?_⟩
  · rw [← q2, ← Nat.and_assoc, p2]
  · rw [← p4, Nat.and_assoc, q4]
theorem eq4 {a b c d a' b' c' d' : Int} (h1 : a = a') (h2 : b = b') (h3 : c = c') (h4 : d = d') : (a == a' && (b == b' && (c == c' && (d == d')))) = true := by
  subst h1; subst h2; subst h3; subst h4
  simp
end Go.Proofs.YtnepinkookbanaaDoor.Pure
/- What label.Parse tells of a label's text. -/
namespace Go.Proofs.YtnepinkookbanaaDoor.Pure
open Go.RowKit Go.Proofs.YtnepinkookbanaaDoor.X Go.Proofs.YtnepinkookbanaaDoorW.PrintWords Go.Proofs.YtnepinkookbanaaDoorW.PrintLast Go.Proofs.YtnepinkookbanaaDoor.Lib Go.Proofs.YtnepinkookbanaaDoorW.PrintMore

theorem index_sign (x y : List UInt8) (c : UInt8) (h : c ∉ x) : Lib.index (x ++ c :: y) [c] = (x.length : Int) := by
  induction x with
  | nil => simp [Lib.index]
  | cons b x ih =>
    rw [List.mem_cons, not_or] at h
    have h2 := ih h.2
    show (if [c].isPrefixOf (b :: (x ++ c :: y)) = true then (0 : Int) else if (Lib.index (x ++ c :: y) [c] == -1) = true then -1 else Lib.index (x ++ c :: y) [c] + 1) = _
    rw [if_neg (by simp [List.isPrefixOf, h.1]), h2, if_neg (by first | (simp; done) | (simp; omega))]
    simp
theorem index_none (x : List UInt8) (c : UInt8) (h : c ∉ x) : Lib.index x [c] = -1 := by
  induction x with
  | nil => simp [Lib.index]
  | cons b x ih =>
    rw [List.mem_cons, not_or] at h
    have h2 := ih h.2
    show (if [c].isPrefixOf (b :: x) = true then (0 : Int) else if (Lib.index x [c] == -1) = true then -1 else Lib.index x [c] + 1) = _
    rw [if_neg (by simp [List.isPrefixOf, h.1]), h2, if_pos (by decide)]
theorem split_sign (x y : List UInt8) (c : UInt8) (k : Nat) (h : c ∉ x) : Lib.splitK [c] 0 (k + 1) (x ++ c :: y) = x :: Lib.splitK [c] 0 k y := by
  rw [Lib.splitK, index_sign x y c h, if_neg (by first | (simp; done) | (simp; omega)), Int.toNat_natCast, Nat.add_zero, List.take_left, List.length_singleton]
  congr 2
  rw [show x ++ c :: y = (x ++ [c]) ++ y by simp, List.drop_left' (by simp)]
theorem itoa_small : ∀ n : Fin 256, 46 ∉ Lib.itoa (n.val : Int) ∧ atoiV (Lib.itoa (n.val : Int)) = (n.val : Int) := by decide +kernel
theorem numeral_part {n : Int} (h0 : 0 ≤ n) (h1 : n < 256) : 46 ∉ Lib.itoa n ∧ atoiV (Lib.itoa n) = n := by
  have h := itoa_small ⟨n.toNat, by omega⟩
  have e : ((n.toNat : Nat) : Int) = n := by omega
  simp only [e] at h
  exact h
theorem textV_list (a b c d : Int) : (textV a b c d).data.toList = Lib.itoa a ++ 46 :: (Lib.itoa b ++ 46 :: (Lib.itoa c ++ 46 :: Lib.itoa d)) := by
  have e : (textV a b c d).data.toList = Lib.itoa a ++ ([46] ++ (Lib.itoa b ++ ([46] ++ (Lib.itoa c ++ ([46] ++ (Lib.itoa d ++ [])))))) := rfl
  rw [e]
  simp
theorem part_list (s : ByteArray) (i : Nat) : ((piecesV s 46).getD i ByteArray.empty).data.toList = (Lib.splitK [46] 0 (Lib.count s.data.toList [46]) s.data.toList).getD i [] := by
  have e : (piecesV s 46).map (·.data.toList) = Lib.splitK [46] 0 (Lib.count s.data.toList [46]) s.data.toList := Lib.splitB_data ⟨#[46]⟩ 0 _ s
  rw [← e, List.getD_eq_getElem?_getD, List.getD_eq_getElem?_getD, List.getElem?_map]
  cases (piecesV s 46)[i]? <;> rfl
/-- A label's text is read as that label. -/
theorem parse_text {a b c d : Int} (h : Lab a b c d) : parseV (textV a b c d) = (a, b, c, d, 0) := by
  obtain ⟨a0, a1, b0, b1, c0, c1, d0, d1⟩ := h
  obtain ⟨na, ea⟩ := numeral_part a0 (by omega : a < 256)
  obtain ⟨nb, eb⟩ := numeral_part b0 b1
  obtain ⟨nc, ec⟩ := numeral_part c0 (by omega : c < 256)
  obtain ⟨nd, ed⟩ := numeral_part d0 d1
  have hl := textV_list a b c d
  have hc : Lib.count (textV a b c d).data.toList [46] = 3 := by
    rw [Lib.count_one, hl]
    simp [List.count_append, List.count_eq_zero.2 na, List.count_eq_zero.2 nb, List.count_eq_zero.2 nc, List.count_eq_zero.2 nd]
  have hs : Lib.splitK [46] 0 3 (textV a b c d).data.toList = [Lib.itoa a, Lib.itoa b, Lib.itoa c, Lib.itoa d] := by
    rw [hl, split_sign _ _ _ _ na, split_sign _ _ _ _ nb, split_sign _ _ _ _ nc]
    rfl
  have p : ∀ i, partV (textV a b c d) i = atoiV ([Lib.itoa a, Lib.itoa b, Lib.itoa c, Lib.itoa d].getD i []) := fun i => by
    unfold partV
    rw [part_list, hc, hs]
  have p0 : partV (textV a b c d) 0 = a := (p 0).trans ea
  have p1 : partV (textV a b c d) 1 = b := (p 1).trans eb
  have p2 : partV (textV a b c d) 2 = c := (p 2).trans ec
  have p3 : partV (textV a b c d) 3 = d := (p 3).trans ed
  have ok : labOk a b c d = true := by
    unfold labOk
    simp only [Bool.and_eq_true, decide_eq_true_eq]
    omega
  unfold parseV
  rw [p0, p1, p2, p3, if_pos ⟨hc, ok, rfl⟩]
/-- What is read is a label, and the text is its own; else nothing is told. -/
theorem parse_ways (s : ByteArray) : parseV s = (0, 0, 0, 0, 1) ∨ ∃ a b c d, parseV s = (a, b, c, d, 0) ∧ Lab a b c d ∧ (textV a b c d).toList = s.toList := by
  unfold parseV
  by_cases h : Lib.countB s ⟨#[46]⟩ = 3 ∧ labOk (partV s 0) (partV s 1) (partV s 2) (partV s 3) = true ∧ (textV (partV s 0) (partV s 1) (partV s 2) (partV s 3)).toList = s.toList
  · rw [if_pos h]
    have ok := h.2.1
    unfold labOk at ok
    simp only [Bool.and_eq_true, decide_eq_true_eq] at ok
    exact .inr ⟨_, _, _, _, rfl, ⟨by omega, by omega, by omega, by omega, by omega, by omega, by omega, by omega⟩, h.2.2⟩
  · rw [if_neg h]
    exact .inl rfl
theorem bytes_eq {x y : ByteArray} (h : x.toList = y.toList) : x = y := by
  rw [Lib.toList_data, Lib.toList_data] at h
  obtain ⟨⟨a⟩⟩ := x
  obtain ⟨⟨b⟩⟩ := y
  have e : a = b := h
  subst e
  rfl
end Go.Proofs.YtnepinkookbanaaDoor.Pure
/- LabelAsks, over numbers and lists: any label is checked, any two that may be are compared, joined, met, ordered, any text is read, as the document says. For every input. -/
namespace Go.Proofs.YtnepinkookbanaaDoor.Pure
open Go.RowKit Go.Proofs.YtnepinkookbanaaDoor.X Go.Proofs.YtnepinkookbanaaDoorW.PrintWords Go.Proofs.YtnepinkookbanaaDoorW.PrintLast Go.Proofs.YtnepinkookbanaaDoor.Lib Go.Proofs.YtnepinkookbanaaDoorW.PrintMore

theorem dec_small : ∀ n : Fin 256, donjonref4_decimal.f 40 (n.val : Int) = some (numeralB (n.val : Int)) ∧ (numeralB (n.val : Int)).size ≤ 3 := by decide +kernel
theorem dec_ok {n : Int} (h0 : 0 ≤ n) (h1 : n < 256) : donjonref4_decimal.f 40 n = some (numeralB n) ∧ (numeralB n).size ≤ 3 := by
  have h := dec_small ⟨n.toNat, by omega⟩
  have e : ((n.toNat : Nat) : Int) = n := by omega
  simp only [e] at h
  exact h
theorem dot_list : (⟨#[46]⟩ : ByteArray).data.toList = [46] := rfl
theorem ref_text {a b c d : Int} (h : Lab a b c d) : donjonref4_Text.f 40 a b c d = some (textV a b c d) := by
  obtain ⟨a0, a1, b0, b1, c0, c1, d0, d1⟩ := h
  obtain ⟨ea, sa⟩ := dec_ok a0 (by omega)
  obtain ⟨eb, sb⟩ := dec_ok b0 b1
  obtain ⟨ec, sc⟩ := dec_ok c0 (by omega)
  obtain ⟨ed, sd⟩ := dec_ok d0 d1
  have z : (⟨#[46]⟩ : ByteArray).size = 1 := rfl
  have hl := textV_list a b c d
  unfold donjonref4_Text.f
  rw [ea, Option.bind_some, if_pos (by omega), eb, Option.bind_some, if_pos (by simp only [ByteArray.size_append, z]; omega), if_pos (by simp only [ByteArray.size_append, z]; omega), ec, Option.bind_some, if_pos (by simp only [ByteArray.size_append, z]; omega), if_pos (by simp only [ByteArray.size_append, z]; omega), ed, Option.bind_some, if_pos (by simp only [ByteArray.size_append, z]; omega)]
  congr 1
  apply bytes_eq
  rw [Lib.toList_data, Lib.toList_data, hl]
  simp only [ByteArray.data_append, Array.toList_append, List.append_assoc]
  rfl
def digB (c : Int) : Bool := decide (48 ≤ c) && decide (c ≤ 57)
theorem fold_ite (p : Prop) [Decidable p] (v c : Int) (ds : List Int) : (if p then ds.foldl addD (if p then addD v c else v) else (if p then addD v c else v)) = if p then (c :: ds).foldl addD v else v := by
  split
  · rfl
  · rfl
theorem go_digits (q : Nat) (rest : List Int) : ∀ (ds : List Int) (d : Nat) (v0 v1 v2 v3 : Int), (∀ c ∈ ds, digB c = true) → d + ds.length ≤ 3 →
    goL (ds ++ rest) q d v0 v1 v2 v3 = goL rest q (d + ds.length) (if q = 0 then ds.foldl addD v0 else v0) (if q = 1 then ds.foldl addD v1 else v1) (if q = 2 then ds.foldl addD v2 else v2) (if q = 3 then ds.foldl addD v3 else v3)
  | [], d, v0, v1, v2, v3, _, _ => by simp
  | c :: ds, d, v0, v1, v2, v3, h, hl => by
    have hc := h c (List.mem_cons_self)
    unfold digB at hc
    simp only [Bool.and_eq_true, decide_eq_true_eq] at hc
    rw [List.length_cons] at hl
    rw [List.cons_append, goL, if_neg (by omega), if_pos ⟨hc, by omega⟩, go_digits q rest ds (d + 1) _ _ _ _ (fun x hx => h x (List.mem_cons_of_mem _ hx)) (by omega), fold_ite, fold_ite, fold_ite, fold_ite, List.length_cons, show d + 1 + ds.length = d + (ds.length + 1) by omega]
def intsOf (l : List UInt8) : List Int := l.map fun b => ((b.toNat : Nat) : Int)
theorem num_digits : ∀ n : Fin 256, ((intsOf (Lib.itoa (n.val : Int))).all digB = true ∧ (intsOf (Lib.itoa (n.val : Int))).length ≤ 3) ∧ (intsOf (Lib.itoa (n.val : Int))).foldl addD 0 = (n.val : Int) := by decide +kernel
theorem digits_ok {n : Int} (h0 : 0 ≤ n) (h1 : n < 256) : (∀ c ∈ intsOf (Lib.itoa n), digB c = true) ∧ (intsOf (Lib.itoa n)).length ≤ 3 ∧ (intsOf (Lib.itoa n)).foldl addD 0 = n := by
  have h := num_digits ⟨n.toNat, by omega⟩
  have e : ((n.toNat : Nat) : Int) = n := by omega
  simp only [e] at h
  exact ⟨List.all_eq_true.1 h.1.1, h.1.2, h.2⟩
theorem go_dot (q d : Nat) (rest : List Int) (v0 v1 v2 v3 : Int) (h : q < 3) : goL (46 :: rest) q d v0 v1 v2 v3 = goL rest (q + 1) 0 v0 v1 v2 v3 := by
  rw [goL, if_pos ⟨rfl, h⟩]
theorem go_text {a b c d : Int} (h : Lab a b c d) : goL (bytesOf (textV a b c d)) 0 0 0 0 0 0 = some (a, b, c, d) := by
  obtain ⟨a0, a1, b0, b1, c0, c1, d0, d1⟩ := h
  obtain ⟨pa, la, fa⟩ := digits_ok a0 (by omega : a < 256)
  obtain ⟨pb, lb, fb⟩ := digits_ok b0 b1
  obtain ⟨pc, lc, fc⟩ := digits_ok c0 (by omega : c < 256)
  obtain ⟨pd, ld, fd⟩ := digits_ok d0 d1
  have e : bytesOf (textV a b c d) = intsOf (Lib.itoa a) ++ 46 :: (intsOf (Lib.itoa b) ++ 46 :: (intsOf (Lib.itoa c) ++ 46 :: (intsOf (Lib.itoa d) ++ []))) := by
    unfold bytesOf
    rw [textV_list]
    unfold intsOf
    simp
  rw [e, go_digits 0 _ _ 0 0 0 0 0 pa (by omega), go_dot _ _ _ _ _ _ _ (by omega), go_digits (0 + 1) _ _ 0 _ _ _ _ pb (by omega), go_dot _ _ _ _ _ _ _ (by omega), go_digits (0 + 1 + 1) _ _ 0 _ _ _ _ pc (by omega), go_dot _ _ _ _ _ _ _ (by omega), go_digits (0 + 1 + 1 + 1) _ _ 0 _ _ _ _ pd (by omega), goL]
  simp [fa, fb, fc, fd]
theorem lab_of_ok {a b c d : Int} (h : labOk a b c d = true) : Lab a b c d := by
  unfold labOk at h
  simp only [Bool.and_eq_true, decide_eq_true_eq] at h
  exact ⟨by omega, by omega, by omega, by omega, by omega, by omega, by omega, by omega⟩
theorem ok_of_lab {a b c d : Int} (h : Lab a b c d) : labOk a b c d = true := by
  obtain ⟨a0, a1, b0, b1, c0, c1, d0, d1⟩ := h
  unfold labOk
  simp only [Bool.and_eq_true, decide_eq_true_eq]
  omega
theorem ref_parse (s : ByteArray) (hs : s.size < 4294967281) : donjonref4_Parse.f 40 s = some (parseV s) := by
  unfold donjonref4_Parse.f
  rw [if_pos hs]
  rcases parse_ways s with e | ⟨a, b, c, d, e, hl, ht⟩
  · rw [e]
    cases hg : goL (bytesOf s) 0 0 0 0 0 0 with
    | none => rfl
    | some v =>
      obtain ⟨v0, v1, v2, v3⟩ := v
      dsimp only
      by_cases hok : labOk v0 v1 v2 v3 = true
      · rw [if_pos hok, ref_text (lab_of_ok hok), Option.bind_some, if_neg]
        intro he
        have h2 := parse_text (lab_of_ok hok)
        rw [bytes_eq he, e] at h2
        simp only [Prod.mk.injEq] at h2
        omega
      · rw [if_neg hok]
  · rw [e]
    have hs2 := bytes_eq ht
    subst hs2
    rw [go_text hl]
    dsimp only
    rw [if_pos (ok_of_lab hl), ref_text hl, Option.bind_some, if_pos rfl]
theorem ref_over4 {s c i d s' c' i' d' : Int} (h : Lab s c i d) (h' : Lab s' c' i' d') : donjonref4_Over.f s c i d s' c' i' d' = some (overV s c i d s' c' i' d') := by
  obtain ⟨a1, a2, a3, a4, a5, a6, a7, a8⟩ := h
  obtain ⟨b1, b2, b3, b4, b5, b6, b7, b8⟩ := h'
  unfold donjonref4_Over.f overV
  rw [and_i64 a3 (by omega) b3 (by omega), and_i64 a7 (by omega) b7 (by omega)]
  by_cases h1 : s' ≤ s
  · rw [if_pos h1, decide_eq_true h1, Bool.true_and]
    by_cases h2 : c.toNat &&& c'.toNat = c'.toNat
    · rw [if_pos (by omega), decide_eq_true h2, Bool.true_and]
      by_cases h3 : i ≤ i'
      · rw [if_pos h3, decide_eq_true h3, Bool.true_and]
        congr 1
        rw [Bool.eq_iff_iff]
        simp only [beq_iff_eq, decide_eq_true_eq]
        omega
      · rw [if_neg h3, decide_eq_false h3, Bool.false_and]
    · rw [if_neg (by omega), decide_eq_false h2, Bool.false_and]
  · rw [if_neg h1, decide_eq_false h1, Bool.false_and]
theorem ref_less (a b c d a' b' c' d' : Int) : donjonref4_Less.f a b c d a' b' c' d' = some (lessK a b c d a' b' c' d' 0) := by
  unfold donjonref4_Less.f
  rw [show lessK a b c d a' b' c' d' 0 = (if a ≠ a' then decide (a < a') else if b ≠ b' then decide (b < b') else if c ≠ c' then decide (c < c') else if d ≠ d' then decide (d < d') else false) from rfl]
  by_cases h1 : a = a' <;> by_cases h2 : b = b' <;> by_cases h3 : c = c' <;> by_cases h4 : d = d' <;> simp [h1, h2, h3, h4]
theorem asks_j0 (a b c d a' b' c' d' : Int) : donjonlaw4_LabelAsks.j0 41 false a b c d a' b' c' d' = some true := by
  rw [donjonlaw4_LabelAsks.j0, if_neg (by decide), good4_f, Option.bind_some, good4_f, Option.bind_some]
  have h := lab_good a b c d
  have h' := lab_good a' b' c' d'
  generalize a % 4 = a at h ⊢
  generalize b % 256 = b at h ⊢
  generalize c % 4 = c at h ⊢
  generalize d % 256 = d at h ⊢
  generalize a' % 4 = a' at h' ⊢
  generalize b' % 256 = b' at h' ⊢
  generalize c' % 4 = c' at h' ⊢
  generalize d' % 256 = d' at h' ⊢
  dsimp only
  have ht : label_Text.f a b c d = some (textV a b c d) := by
    unfold label_Text.f fits64
    obtain ⟨a0, a1, b0, b1, c0, c1, d0, d1⟩ := h
    rw [if_pos (by omega)]
  have e1 : donjonref4_Join.f a b c d a' b' c' d' = label_Join.f a b c d a' b' c' d' := rfl
  have e2 : donjonref4_Meet.f a b c d a' b' c' d' = label_Meet.f a b c d a' b' c' d' := rfl
  have f1 : label_Join.f a b c d a' b' c' d' = some (mx a a', Go.bits .or .i64 b b', mn c c', Go.bits .and .i64 d d') := rfl
  have f2 : label_Meet.f a b c d a' b' c' d' = some (mn a a', Go.bits .and .i64 b b', mx c c', Go.bits .or .i64 d d') := rfl
  have f3 : label_Less.f a b c d a' b' c' d' = some (lessK a b c d a' b' c' d' 0) := rfl
  rw [over_f h h', Option.bind_some, ref_over4 h h', Option.bind_some, if_pos (by simp), e1, f1, Option.bind_some, Option.bind_some]
  dsimp only
  rw [if_pos (by simp), e2, f2, Option.bind_some, Option.bind_some]
  dsimp only
  rw [if_pos (by simp), ht, Option.bind_some, ref_text h, Option.bind_some, if_pos rfl, f3, Option.bind_some, ref_less, Option.bind_some]
  simp
theorem LabelAsks : ∀ (a0_0 : Int) (a0_1 : Int) (a0_2 : Int) (a0_3 : Int) (a1_0 : Int) (a1_1 : Int) (a1_2 : Int) (a1_3 : Int) (a2 : ByteArray), (Lit.int .i64 a0_0).wf = true → (Lit.int .i64 a0_1).wf = true → (Lit.int .i64 a0_2).wf = true → (Lit.int .i64 a0_3).wf = true → (Lit.int .i64 a1_0).wf = true → (Lit.int .i64 a1_1).wf = true → (Lit.int .i64 a1_2).wf = true → (Lit.int .i64 a1_3).wf = true → a2.size ≤ 140737488351232 → ∃ k, donjonlaw4_LabelAsks.f k a0_0 a0_1 a0_2 a0_3 a1_0 a1_1 a1_2 a1_3 a2 = some true := by
  intro a b c d a' b' c' d' s _ _ _ _ _ _ _ _ _
  refine ⟨41, ?_⟩
  unfold donjonlaw4_LabelAsks.f
  rw [known4, Option.bind_some, if_pos rfl]
  by_cases hs : (s.size : Int) > 100
  · rw [if_pos hs]
  · have h4 : s.size < 4294967281 := by omega
    have e : label_Parse.f s = some (parseV s) := by
      unfold label_Parse.f
      rw [if_pos h4]
    have e2 : donjonref4_Parse.f 41 s = some (parseV s) := donjonref4_Parse.mono s 40 _ (ref_parse s h4)
    rw [if_neg hs, e, Option.bind_some, e2, Option.bind_some, label_Parse.chk, Option.bind_some, donjonref4_Parse.chk, Option.bind_some, if_pos rfl, if_neg (by simp), bne_self_eq_false]
    exact asks_j0 a b c d a' b' c' d'
end Go.Proofs.YtnepinkookbanaaDoor.Pure
