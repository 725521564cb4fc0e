import Derived.Test.YtophnhmlknbmeaaDoorF3
import Derived.Test.YtophnhmlknbmeaaDoorHO
import Derived.Test.YtophnhmlknbmeaaDoorF13
import Derived.Test.YtophnhmlknbmeaaDoorF17
import Derived.Test.YtophnhmlknbmeaaDoorF15
import Derived.Test.YtophnhmlknbmeaaDoorF19
import Derived.Test.YtophnhmlknbmeaaDoorLib
import Derived.Laws.BitsLemmas
/- Plain lemmas on the bits of whole numbers. -/
namespace Go.Proofs.YtophnhmlknbmeaaDoor.Lib
open Go.RowKit Go.Proofs.YtophnhmlknbmeaaDoorW.PrintWords

theorem i64_wrap_id {n : Int} (h0 : -9223372036854775808 ≤ n) (h1 : n ≤ 9223372036854775807) : IntKind.i64.wrap n = n := by
  rw [Go.IntKind.wrap_i64]
  omega
theorem ofInt64_mod (x : Int) : (BitVec.ofInt 64 x).toNat = (x % 18446744073709551616).toNat := by
  rw [BitVec.toNat_ofInt]
  rfl
/-- Masking an int by 2^j - 1. -/
theorem and_i64_mask (x : Int) (j : Nat) (hj : j ≤ 62) : Go.bits .and .i64 x (2 ^ j - 1) = x % 2 ^ j := by
  have hp : (0 : Int) < 2 ^ j := Int.pow_pos (by decide)
  have hpn : 0 < 2 ^ j := Nat.two_pow_pos j
  have hle : 2 ^ j ≤ 2 ^ 62 := Nat.pow_le_pow_right (by decide) hj
  have hc : ((2 : Int) ^ j - 1) = ((2 ^ j - 1 : Nat) : Int) := by
    rw [Int.natCast_sub hpn]; simp
  have hm : (BitVec.ofInt 64 ((2 : Int) ^ j - 1)).toNat = 2 ^ j - 1 := by
    rw [hc, BitVec.ofInt_natCast, BitVec.toNat_ofNat]
    exact Nat.mod_eq_of_lt (by omega)
  show IntKind.i64.wrap ((BitVec.ofInt 64 x &&& BitVec.ofInt 64 (2 ^ j - 1)).toNat : Int) = _
  rw [BitVec.toNat_and, hm, Nat.and_two_pow_sub_one_eq_mod, ofInt64_mod]
  have hlt : (x % 18446744073709551616).toNat % 2 ^ j < 2 ^ j := Nat.mod_lt _ hpn
  rw [i64_wrap_id (by omega) (by omega)]
  have h0 : 0 ≤ x % 18446744073709551616 := Int.emod_nonneg _ (by decide)
  rw [Int.natCast_emod, Int.toNat_of_nonneg h0]
  have hd : ((2 ^ j : Nat) : Int) ∣ 18446744073709551616 := by
    refine ⟨((2 ^ (64 - j) : Nat) : Int), ?_⟩
    rw [← Int.natCast_mul, ← Nat.pow_add]
    have : j + (64 - j) = 64 := by omega
    rw [this]
    rfl
  rw [Int.emod_emod_of_dvd _ hd]
  simp
theorem and_u64_mask (x : Int) (j : Nat) (hj : j ≤ 62) : Go.bits .and .u64 x (2 ^ j - 1) = x % 2 ^ j := by
  have hpn : 0 < 2 ^ j := Nat.two_pow_pos j
  have hle : 2 ^ j ≤ 2 ^ 62 := Nat.pow_le_pow_right (by decide) hj
  have hc : ((2 : Int) ^ j - 1) = ((2 ^ j - 1 : Nat) : Int) := by
    rw [Int.natCast_sub hpn]; simp
  have hm : (BitVec.ofInt 64 ((2 : Int) ^ j - 1)).toNat = 2 ^ j - 1 := by
    rw [hc, BitVec.ofInt_natCast, BitVec.toNat_ofNat]
    exact Nat.mod_eq_of_lt (by omega)
  show IntKind.u64.wrap ((BitVec.ofInt 64 x &&& BitVec.ofInt 64 (2 ^ j - 1)).toNat : Int) = _
  rw [BitVec.toNat_and, hm, Nat.and_two_pow_sub_one_eq_mod, ofInt64_mod]
  have hlt : (x % 18446744073709551616).toNat % 2 ^ j < 2 ^ j := Nat.mod_lt _ hpn
  rw [u64_wrap, Int.emod_eq_of_lt (by omega) (by omega)]
  have h0 : 0 ≤ x % 18446744073709551616 := Int.emod_nonneg _ (by decide)
  rw [Int.natCast_emod, Int.toNat_of_nonneg h0]
  have hd : ((2 ^ j : Nat) : Int) ∣ 18446744073709551616 := by
    refine ⟨((2 ^ (64 - j) : Nat) : Int), ?_⟩
    rw [← Int.natCast_mul, ← Nat.pow_add]
    have : j + (64 - j) = 64 := by omega
    rw [this]
    rfl
  rw [Int.emod_emod_of_dvd _ hd]
  simp
theorem and_7 (x : Int) : Go.bits .and .i64 x 7 = x % 8 := and_i64_mask x 3 (by decide)
theorem and_65535 (x : Int) : Go.bits .and .i64 x 65535 = x % 65536 := and_i64_mask x 16 (by decide)
theorem and_4294967295 (x : Int) : Go.bits .and .i64 x 4294967295 = x % 4294967296 := and_i64_mask x 32 (by decide)
theorem uand_7 (x : Int) : Go.bits .and .u64 x 7 = x % 8 := and_u64_mask x 3 (by decide)
theorem uand_255 (x : Int) : Go.bits .and .u64 x 255 = x % 256 := and_u64_mask x 8 (by decide)
theorem uand_65535 (x : Int) : Go.bits .and .u64 x 65535 = x % 65536 := and_u64_mask x 16 (by decide)
theorem wraps_i64 (n : Int) (h₀ : 0 ≤ n) (h₁ : n < 2 ^ 63) : IntKind.i64.wrap n = n := i64_wrap_id (by omega) (by omega)
/-- or of what lies apart is the sum. -/
theorem or_apart (i : Nat) (x y : Int) (hx0 : 0 ≤ x) (hx : x % 2 ^ i = 0) (hx1 : x < 9223372036854775808) (hy0 : 0 ≤ y) (hy : y < 2 ^ i) (hy1 : y < 9223372036854775808) : Go.bits .or .i64 x y = x + y :=
  Go.bits_join .i64 63 (by decide) wraps_i64 i x y hx0 hx hx1 hy0 hy hy1
theorem within_small {a n : Int} (hn : 0 < n) (hn1 : n ≤ 4611686018427387904) :
    ∃ r, (if n = 0 then none else if Int.tmod a n < 0 then some (wrap64 (Int.tmod a n + n)) else some (Int.tmod a n)) = some r ∧ 0 ≤ r ∧ r < n ∧ r = a % n := by
  rw [if_neg (by omega)]
  have h1 := Int.tmod_lt_of_pos a hn
  have h2 : -n < Int.tmod a n := by
    have := Int.tmod_lt_of_pos (-a) hn
    rw [Int.neg_tmod] at this
    omega
  have h3 : Int.tmod a n = a % n ∨ Int.tmod a n = a % n - n := by
    rw [Int.tmod_eq_emod]
    split
    · left; omega
    · right
      have : (n.natAbs : Int) = n := by omega
      omega
  have h4 := Int.emod_nonneg a (by omega : n ≠ 0)
  have h5 := Int.emod_lt_of_pos a hn
  by_cases h : Int.tmod a n < 0
  · rw [if_pos h, wrap64_id (by omega) (by omega)]
    exact ⟨_, rfl, by omega, by omega, by omega⟩
  · rw [if_neg h]
    exact ⟨_, rfl, by omega, by omega, by omega⟩
end Go.Proofs.YtophnhmlknbmeaaDoor.Lib
/- Plain lemmas on texts' order, and on places in rows that are sorted by texts. -/
namespace Go.Proofs.YtophnhmlknbmeaaDoor.Lib
open Go.RowKit Go.Proofs.YtophnhmlknbmeaaDoorW.PrintWords

theorem blt_irrefl : ∀ x : List UInt8, Op.bytesLess x x = false
  | [] => rfl
  | a :: x => by simp [Op.bytesLess, blt_irrefl x]
theorem blt_trans : ∀ x y z : List UInt8, Op.bytesLess x y = true → Op.bytesLess y z = true → Op.bytesLess x z = true
  | _, [], _, h, _ => by simp [Op.bytesLess] at h
  | _, _ :: _, [], _, h => by simp [Op.bytesLess] at h
  | [], _ :: _, _ :: _, _, _ => rfl
  | a :: x, b :: y, c :: z, h1, h2 => by
    simp only [Op.bytesLess, Bool.or_eq_true, Bool.and_eq_true, decide_eq_true_eq, beq_iff_eq] at h1 h2 ⊢
    rcases h1 with h1 | ⟨rfl, h1⟩
    · rcases h2 with h2 | ⟨rfl, h2⟩
      · exact .inl (UInt8.lt_trans h1 h2)
      · exact .inl h1
    · rcases h2 with h2 | ⟨rfl, h2⟩
      · exact .inl h2
      · exact .inr ⟨rfl, blt_trans x y z h1 h2⟩
theorem blt_total : ∀ x y : List UInt8, Op.bytesLess x y = false → Op.bytesLess y x = false → x = y
  | [], [], _, _ => rfl
  | [], _ :: _, h, _ => by simp [Op.bytesLess] at h
  | _ :: _, [], _, h => by simp [Op.bytesLess] at h
  | a :: x, b :: y, h1, h2 => by
    simp only [Op.bytesLess, Bool.or_eq_false_iff, Bool.and_eq_false_iff, decide_eq_false_iff_not, beq_eq_false_iff_ne] at h1 h2
    have hab : a = b := by
      have h3 := h1.1
      have h4 := h2.1
      rw [UInt8.not_lt] at h3 h4
      exact UInt8.le_antisymm h4 h3
    subst hab
    have h5 : Op.bytesLess x y = false := by
      rcases h1.2 with h | h
      · exact absurd rfl h
      · exact h
    have h6 : Op.bytesLess y x = false := by
      rcases h2.2 with h | h
      · exact absurd rfl h
      · exact h
    rw [blt_total x y h5 h6]
theorem blt_asymm (x y : List UInt8) (h : Op.bytesLess x y = true) : Op.bytesLess y x = false := by
  cases h2 : Op.bytesLess y x with
  | false => rfl
  | true =>
    have := blt_trans x y x h h2
    rw [blt_irrefl] at this
    exact absurd this (by simp)

/-- The first m places are so, the others are not: m are so. -/
theorem count_prefix (p : Nat → Bool) (m : Nat) : ∀ n, m ≤ n → (∀ i, i < m → p i = true) → (∀ i, m ≤ i → i < n → p i = false) → (List.range n).countP p = m := by
  intro n
  induction n with
  | zero =>
    intro hm _ _
    have : m = 0 := by omega
    subst this
    rfl
  | succ n ih =>
    intro hm h1 h2
    rw [List.range_succ, List.countP_append]
    by_cases hmn : m ≤ n
    · rw [ih hmn h1 (fun i hi hn => h2 i hi (by omega))]
      have := h2 n hmn (by omega)
      simp [this]
    · have e : m = n + 1 := by omega
      subst e
      have h3 : (List.range n).countP p = n := by
        rw [List.countP_eq_length.2]
        · exact List.length_range
        · intro i hi
          exact h1 i (by have := List.mem_range.1 hi; omega)
      rw [h3]
      have := h1 n (by omega)
      simp [this]

/-- Keys that rise. -/
def Rising (K : Nat → List UInt8) (n : Nat) : Prop := ∀ i j, i < j → j < n → Op.bytesLess (K i) (K j) = true
theorem rising_of_steps (K : Nat → List UInt8) (n : Nat) (h : ∀ i, 0 < i → i < n → Op.bytesLess (K (i - 1)) (K i) = true) : Rising K n := by
  intro i j hij hj
  induction j with
  | zero => omega
  | succ j ih =>
    have h1 := h (j + 1) (by omega) hj
    have e : j + 1 - 1 = j := by omega
    rw [e] at h1
    by_cases hi : i = j
    · subst hi
      exact h1
    · exact blt_trans _ _ _ (ih (by omega) (by omega)) h1
section
variable {K : Nat → List UInt8} {n : Nat}
theorem rising_parted (h : Rising K n) (u : List UInt8) (i j : Nat) (hij : i ≤ j) (hj : j < n) (hi : Op.bytesLess (K i) u = false) : Op.bytesLess (K j) u = false := by
  by_cases e : i = j
  · subst e
    exact hi
  · cases h2 : Op.bytesLess (K j) u with
    | false => rfl
    | true =>
      have := blt_trans _ _ _ (h i j (by omega) hj) h2
      rw [this] at hi
      exact absurd hi (by simp)
theorem rising_inj (h : Rising K n) {i j : Nat} (hi : i < n) (hj : j < n) (e : K i = K j) : i = j := by
  rcases Nat.lt_trichotomy i j with h1 | h1 | h1
  · have := h i j h1 hj
    rw [e, blt_irrefl] at this
    exact absurd this (by simp)
  · exact h1
  · have := h j i h1 hi
    rw [e, blt_irrefl] at this
    exact absurd this (by simp)
/-- Where a key stands there are as many ahead of it. -/
theorem rising_place (h : Rising K n) {p : Nat} (hp : p < n) {u : List UInt8} (e : K p = u) : (List.range n).countP (fun i => Op.bytesLess (K i) u) = p := by
  subst e
  refine count_prefix _ p n (by omega) (fun i hi => h i p hi hp) (fun i hi hn => ?_)
  by_cases e : p = i
  · subst e
    exact blt_irrefl _
  · exact blt_asymm _ _ (h p i (by omega) hn)
/-- In any rising row there is a place up to which keys are less. -/
theorem rising_cut (h : Rising K n) (u : List UInt8) : ∃ m, m ≤ n ∧ (∀ i, i < m → Op.bytesLess (K i) u = true) ∧ (∀ i, m ≤ i → i < n → Op.bytesLess (K i) u = false) := by
  have key : ∀ m, m ≤ n → (∀ i, i < m → Op.bytesLess (K i) u = true) ∨ ∃ q, q ≤ m ∧ (∀ i, i < q → Op.bytesLess (K i) u = true) ∧ (∀ i, q ≤ i → i < n → Op.bytesLess (K i) u = false) := by
    intro m
    induction m with
    | zero => intro _; exact .inl (fun i hi => by omega)
    | succ m ih =>
      intro hm
      rcases ih (by omega) with h1 | ⟨q, hq, h2⟩
      · cases h3 : Op.bytesLess (K m) u with
        | true =>
          refine .inl (fun i hi => ?_)
          by_cases e : i = m
          · subst e; exact h3
          · exact h1 i (by omega)
        | false => exact .inr ⟨m, by omega, h1, fun i hi hn => rising_parted h u m i hi hn h3⟩
      · exact .inr ⟨q, by omega, h2⟩
  rcases key n (Nat.le_refl _) with h1 | ⟨q, hq, h2⟩
  · exact ⟨n, Nat.le_refl _, h1, fun i hi hn => by omega⟩
  · exact ⟨q, hq, h2⟩
end
theorem wf_bool_ne {a b : Bool} (h : a ≠ b) : a = !b := by cases a <;> cases b <;> simp_all
end Go.Proofs.YtophnhmlknbmeaaDoor.Lib
/- Lists of grants in plain numbers: what is checked, by the program and by the document. -/
namespace Go.Proofs.YtophnhmlknbmeaaDoor.Pure
open Go.RowKit Go.Proofs.YtophnhmlknbmeaaDoor.X Go.Proofs.YtophnhmlknbmeaaDoorW.PrintWords Go.Proofs.YtophnhmlknbmeaaDoorW.PrintLast Go.Proofs.YtophnhmlknbmeaaDoor.Lib

/-- The user that stands at a place. -/
def keyG (l : List S62) (i : Nat) : List UInt8 := (rd_T62 l (i : Int)).f0.toList
def whoB (s : ByteArray) : Bool := s.toList == [42] || okName s
/-- Is the grant at a place such as may be? -/
def goodAt (l : List S62) (i : Nat) : Bool :=
  whoB (rd_T62 l (i : Int)).f0 && ((decide (i = 0) || Op.bytesLess (keyG l (i - 1)) (keyG l i)) && (decide (1 ≤ (rd_T62 l (i : Int)).f1) && decide ((rd_T62 l (i : Int)).f1 ≤ 7)))
/-- What is wrong with a list. -/
def checkV (l : List S62) : Int := if l.length > 4 then 4 else if (List.range l.length).all (goodAt l) = true then 0 else 1
theorem who_f (s : ByteArray) : acl_who.f s = some (whoB s) := by
  unfold acl_who.f whoB path_Name.f
  by_cases h : s.toList = [42]
  · rw [if_pos h]
    simp [h]
  · rw [if_neg h, Option.bind_some]
    have : (s.toList == [42]) = false := beq_eq_false_iff_ne.mpr h
    rw [this, Bool.false_or]
open Classical in
/-- From a place on: is every grant such as may be? -/
theorem check_l0 (l : List S62) (hl : l.length ≤ 4) (d : Nat) : ∀ (k i : Nat), i + d = l.length → d < k →
    acl_Check.l0 k l l (l.length : Int) (i : Int) = some (if ∀ j, i ≤ j → j < l.length → goodAt l j = true then 0 else 1) := by
  induction d with
  | zero =>
    intro k i hi hk
    obtain ⟨k, rfl⟩ : ∃ m, k = m + 1 := ⟨k - 1, by omega⟩
    rw [acl_Check.l0, if_neg (by omega), if_pos (fun j h1 h2 => by omega)]
  | succ d ih =>
    intro k i hi hk
    obtain ⟨k, rfl⟩ : ∃ m, k = m + 1 := ⟨k - 1, by omega⟩
    have hnext := ih k (i + 1) (by omega) (by omega)
    have ecast : ((i + 1 : Nat) : Int) = (i : Int) + 1 := by omega
    have hw : wrap64 ((i : Int) + 1) = ((i + 1 : Nat) : Int) := by rw [ecast]; exact wrap64_id (by omega) (by omega)
    have hbad : goodAt l i = false → (if ∀ j, i ≤ j → j < l.length → goodAt l j = true then (0 : Int) else 1) = 1 := by
      intro hb
      refine if_neg (fun h => ?_)
      rw [h i (by omega) (by omega)] at hb
      exact absurd hb (by simp)
    have hgood : goodAt l i = true → (if ∀ j, i ≤ j → j < l.length → goodAt l j = true then (0 : Int) else 1) = (if ∀ j, i + 1 ≤ j → j < l.length → goodAt l j = true then (0 : Int) else 1) := by
      intro hg
      by_cases h : ∀ j, i + 1 ≤ j → j < l.length → goodAt l j = true
      · rw [if_pos h, if_pos (fun j h1 h2 => ?_)]
        by_cases e : i = j
        · subst e; exact hg
        · exact h j (by omega) h2
      · rw [if_neg h, if_neg (fun h2 => h (fun j h3 h4 => h2 j (by omega) h4))]
    rw [acl_Check.l0, if_pos (by omega), if_pos (by omega), if_pos (by omega), who_f, Option.bind_some, hw, hnext]
    by_cases c1 : whoB (rd_T62 l (i : Int)).f0 = true
    · rw [if_pos c1]
      by_cases c2 : (i : Int) > 0
      · have hp : wrap64 ((i : Int) - 1) = ((i - 1 : Nat) : Int) := by rw [wrap64_id (by omega) (by omega)]; omega
        rw [if_pos c2, hp, if_pos (by omega), if_pos (by omega)]
        by_cases c3 : Op.bytesLess (keyG l (i - 1)) (keyG l i) = true
        · have c3' : Op.bytesLess (rd_T62 l ((i - 1 : Nat) : Int)).f0.toList (rd_T62 l (i : Int)).f0.toList = true := c3
          rw [if_pos c3']
          by_cases c4 : (rd_T62 l (i : Int)).f1 < 1
          · rw [if_pos c4, hbad (by unfold goodAt; simp; omega)]
          · rw [if_neg c4]
            by_cases c5 : (rd_T62 l (i : Int)).f1 > 7
            · rw [if_pos c5, hbad (by unfold goodAt; simp; omega)]
            · rw [if_neg c5, hgood (by unfold goodAt; rw [c1, c3]; simp; omega)]
        · have c3' : ¬ Op.bytesLess (rd_T62 l ((i - 1 : Nat) : Int)).f0.toList (rd_T62 l (i : Int)).f0.toList = true := c3
          have hi0 : ¬ i = 0 := by omega
          rw [if_neg c3', hbad (by unfold goodAt; simp [c3, hi0])]
      · have hi0 : i = 0 := by omega
        rw [if_neg c2]
        by_cases c4 : (rd_T62 l (i : Int)).f1 < 1
        · rw [if_pos c4, hbad (by unfold goodAt; simp; omega)]
        · rw [if_neg c4]
          by_cases c5 : (rd_T62 l (i : Int)).f1 > 7
          · rw [if_pos c5, hbad (by unfold goodAt; simp; omega)]
          · rw [if_neg c5, hgood (by unfold goodAt; rw [c1, decide_eq_true hi0]; simp; omega)]
    · rw [if_neg c1, hbad (by unfold goodAt; simp [c1])]
open Classical in
theorem checkV_of (l : List S62) (hl : l.length ≤ 4) : checkV l = (if ∀ j, 0 ≤ j → j < l.length → goodAt l j = true then 0 else 1) := by
  unfold checkV
  rw [if_neg (by omega)]
  by_cases h : ∀ j, 0 ≤ j → j < l.length → goodAt l j = true
  · rw [if_pos h, if_pos (List.all_eq_true.2 (fun j hj => h j (by omega) (List.mem_range.1 hj)))]
  · rw [if_neg h, if_neg (fun h2 => h (fun j _ h3 => List.all_eq_true.1 h2 j (List.mem_range.2 h3)))]
open Classical in
theorem check_f (k : Nat) (hk : 5 < k) (l : List S62) : acl_Check.f k l = some (checkV l) := by
  unfold acl_Check.f
  by_cases h : (l.length : Int) > 4
  · rw [if_pos h]
    unfold checkV
    rw [if_pos (by omega)]
  · rw [if_neg h, checkV_of l (by omega)]
    exact check_l0 l (by omega) l.length k 0 (by omega) (by omega)
/-- The document's name, byte by byte. -/
theorem ref_name_l0 (s : ByteArray) (hs : s.size ≤ 9223372036854775806) (d : Nat) : ∀ (k i : Nat), i + d = s.size → d < k →
    donjonref5_Name.l0 k s (i : Int) = some (decide (∀ j : Nat, j < s.size → i ≤ j → okSign (bt s (j : Int)) = true) && (decide (1 ≤ s.size) && decide (s.size ≤ 12))) := by
  induction d with
  | zero =>
    intro k i hi hk
    obtain ⟨k, rfl⟩ : ∃ m, k = m + 1 := ⟨k - 1, by omega⟩
    rw [donjonref5_Name.l0, if_neg (by omega), decide_eq_true (fun j h1 h2 => by omega), Bool.true_and]
    by_cases h1 : 1 ≤ s.size
    · rw [if_pos (by omega), decide_eq_true h1, Bool.true_and]
      congr 1
      by_cases h2 : s.size ≤ 12
      · rw [decide_eq_true h2, decide_eq_true (by omega)]
      · rw [decide_eq_false h2, decide_eq_false (by omega)]
    · rw [if_neg (by omega), decide_eq_false h1, Bool.false_and]
  | succ d ih =>
    intro k i hi hk
    obtain ⟨k, rfl⟩ : ∃ m, k = m + 1 := ⟨k - 1, by omega⟩
    have hnext := ih k (i + 1) (by omega) (by omega)
    have hw : wrap64 ((i : Int) + 1) = ((i + 1 : Nat) : Int) := by rw [wrap64_id (by omega) (by omega)]; omega
    have hbad : okSign (bt s (i : Int)) = false → (some false : Option Bool) = some (decide (∀ j : Nat, j < s.size → i ≤ j → okSign (bt s (j : Int)) = true) && (decide (1 ≤ s.size) && decide (s.size ≤ 12))) := by
      intro hb
      rw [decide_eq_false (fun h => by rw [h i (by omega) (Nat.le_refl _)] at hb; exact absurd hb (by simp)), Bool.false_and]
    have hgood : okSign (bt s (i : Int)) = true → donjonref5_Name.l0 k s ((i + 1 : Nat) : Int) = some (decide (∀ j : Nat, j < s.size → i ≤ j → okSign (bt s (j : Int)) = true) && (decide (1 ≤ s.size) && decide (s.size ≤ 12))) := by
      intro hg
      rw [hnext]
      congr 2
      by_cases h : ∀ j : Nat, j < s.size → i + 1 ≤ j → okSign (bt s (j : Int)) = true
      · rw [decide_eq_true h, decide_eq_true (fun j h1 h2 => ?_)]
        by_cases e : i = j
        · subst e; exact hg
        · exact h j h1 (by omega)
      · rw [decide_eq_false h, decide_eq_false (fun h2 => h (fun j h3 h4 => h2 j h3 (by omega)))]
    rw [donjonref5_Name.l0, if_pos (by omega), if_pos (by omega), hw]
    by_cases c1 : bt s (i : Int) < 97
    · rw [if_pos c1]
      by_cases c2 : bt s (i : Int) < 48
      · rw [if_pos c2]
        exact hbad (by unfold okSign; simp; omega)
      · rw [if_neg c2]
        by_cases c3 : bt s (i : Int) > 57
        · rw [if_pos c3]
          exact hbad (by unfold okSign; simp; omega)
        · rw [if_neg c3]
          exact hgood (by unfold okSign; simp; omega)
    · rw [if_neg c1]
      by_cases c4 : bt s (i : Int) > 122
      · rw [if_pos c4]
        by_cases c2 : bt s (i : Int) < 48
        · omega
        · rw [if_neg c2, if_pos (by omega)]
          exact hbad (by unfold okSign; simp; omega)
      · rw [if_neg c4]
        exact hgood (by unfold okSign; simp; omega)
theorem ref_name_f (s : ByteArray) (hs : s.size ≤ 9223372036854775806) (k : Nat) (hk : s.size < k) : donjonref5_Name.f k s = some (okName s) := by
  unfold donjonref5_Name.f
  have h := ref_name_l0 s hs s.size k 0 (by omega) hk
  have e : ((0 : Nat) : Int) = 0 := rfl
  rw [e] at h
  rw [h]
  unfold okName
  congr 2
  by_cases hall : ∀ j : Nat, j < s.size → okSign (bt s (j : Int)) = true
  · rw [(path_Name.all_iff s).2 hall, decide_eq_true (fun j h1 _ => hall j h1)]
  · have h2 : (bytesOf s).all okSign = false := by
      rw [Bool.eq_false_iff]
      intro h3
      exact hall ((path_Name.all_iff s).1 h3)
    rw [h2, decide_eq_false (fun h3 => hall (fun j h1 => h3 j h1 (by omega)))]
theorem ref_who_f (s : ByteArray) (hs : s.size ≤ 9223372036854775806) (k : Nat) (hk : s.size < k) : donjonref5_who.f k s = some (whoB s) := by
  unfold donjonref5_who.f whoB
  by_cases h : s.toList = [42]
  · rw [if_pos h]
    simp [h]
  · rw [if_neg h, ref_name_f s hs k hk, Option.bind_some]
    have : (s.toList == [42]) = false := beq_eq_false_iff_ne.mpr h
    rw [this, Bool.false_or]
open Classical in
theorem ref_check_l0 (l : List S62) (hl : l.length ≤ 4) (B : Nat) (hB : ∀ i : Nat, i < l.length → (rd_T62 l (i : Int)).f0.size ≤ B) (hB2 : B ≤ 9223372036854775806) (d : Nat) : ∀ (k i : Nat), i + d = l.length → d + B + 1 < k →
    donjonref5_Check.l0 k l (i : Int) = some (if ∀ j, i ≤ j → j < l.length → goodAt l j = true then 0 else 1) := by
  induction d with
  | zero =>
    intro k i hi hk
    obtain ⟨k, rfl⟩ : ∃ m, k = m + 1 := ⟨k - 1, by omega⟩
    rw [donjonref5_Check.l0, if_neg (by omega), if_pos (fun j h1 h2 => by omega)]
  | succ d ih =>
    intro k i hi hk
    obtain ⟨k, rfl⟩ : ∃ m, k = m + 1 := ⟨k - 1, by omega⟩
    have hnext := ih k (i + 1) (by omega) (by omega)
    have ecast : ((i + 1 : Nat) : Int) = (i : Int) + 1 := by omega
    have hw : wrap64 ((i : Int) + 1) = ((i + 1 : Nat) : Int) := by rw [ecast]; exact wrap64_id (by omega) (by omega)
    have hbad : goodAt l i = false → (if ∀ j, i ≤ j → j < l.length → goodAt l j = true then (0 : Int) else 1) = 1 := by
      intro hb
      refine if_neg (fun h => ?_)
      rw [h i (by omega) (by omega)] at hb
      exact absurd hb (by simp)
    have hgood : goodAt l i = true → (if ∀ j, i ≤ j → j < l.length → goodAt l j = true then (0 : Int) else 1) = (if ∀ j, i + 1 ≤ j → j < l.length → goodAt l j = true then (0 : Int) else 1) := by
      intro hg
      by_cases h : ∀ j, i + 1 ≤ j → j < l.length → goodAt l j = true
      · rw [if_pos h, if_pos (fun j h1 h2 => ?_)]
        by_cases e : i = j
        · subst e; exact hg
        · exact h j (by omega) h2
      · rw [if_neg h, if_neg (fun h2 => h (fun j h3 h4 => h2 j (by omega) h4))]
    have hsz := hB i (by omega)
    rw [donjonref5_Check.l0, if_pos (by omega), if_pos (by omega), ref_who_f _ (by omega) k (by omega), Option.bind_some, hw, hnext]
    by_cases c1 : whoB (rd_T62 l (i : Int)).f0 = true
    · rw [if_pos c1]
      by_cases c2 : (i : Int) > 0
      · have hp : wrap64 ((i : Int) - 1) = ((i - 1 : Nat) : Int) := by rw [wrap64_id (by omega) (by omega)]; omega
        rw [if_pos c2, hp, if_pos (by omega), if_pos (by omega)]
        by_cases c3 : Op.bytesLess (keyG l (i - 1)) (keyG l i) = true
        · have c3' : Op.bytesLess (rd_T62 l ((i - 1 : Nat) : Int)).f0.toList (rd_T62 l (i : Int)).f0.toList = true := c3
          rw [if_pos c3']
          by_cases c4 : (rd_T62 l (i : Int)).f1 < 1
          · rw [if_pos c4, hbad (by unfold goodAt; simp; omega)]
          · rw [if_neg c4]
            by_cases c5 : (rd_T62 l (i : Int)).f1 > 7
            · rw [if_pos c5, hbad (by unfold goodAt; simp; omega)]
            · rw [if_neg c5, hgood (by unfold goodAt; rw [c1, c3]; simp; omega)]
        · have c3' : ¬ Op.bytesLess (rd_T62 l ((i - 1 : Nat) : Int)).f0.toList (rd_T62 l (i : Int)).f0.toList = true := c3
          have hi0 : ¬ i = 0 := by omega
          rw [if_neg c3', hbad (by unfold goodAt; simp [c3, hi0])]
      · have hi0 : i = 0 := by omega
        rw [if_neg c2]
        by_cases c4 : (rd_T62 l (i : Int)).f1 < 1
        · rw [if_pos c4, hbad (by unfold goodAt; simp; omega)]
        · rw [if_neg c4]
          by_cases c5 : (rd_T62 l (i : Int)).f1 > 7
          · rw [if_pos c5, hbad (by unfold goodAt; simp; omega)]
          · rw [if_neg c5, hgood (by unfold goodAt; rw [c1, decide_eq_true hi0]; simp; omega)]
    · rw [if_neg c1, hbad (by unfold goodAt; simp [c1])]
open Classical in
theorem ref_check_f (l : List S62) (B : Nat) (hB : ∀ i : Nat, i < l.length → (rd_T62 l (i : Int)).f0.size ≤ B) (hB2 : B ≤ 9223372036854775806) (k : Nat) (hk : B + 6 < k) : donjonref5_Check.f k l = some (checkV l) := by
  unfold donjonref5_Check.f
  by_cases h : (l.length : Int) > 4
  · rw [if_pos h]
    unfold checkV
    rw [if_pos (by omega)]
  · rw [if_neg h, checkV_of l (by omega)]
    exact ref_check_l0 l (by omega) B hB hB2 l.length k 0 (by omega) (by omega)
/-- The document's name of a path, byte by byte. -/
theorem ref7_name_l0 (s : ByteArray) (hs : s.size ≤ 9223372036854775806) (d : Nat) : ∀ (k i : Nat), i + d = s.size → d < k →
    donjonref7_Name.l0 k s (i : Int) = some (decide (∀ j : Nat, j < s.size → i ≤ j → okSign (bt s (j : Int)) = true) && (decide (1 ≤ s.size) && decide (s.size ≤ 12))) := by
  induction d with
  | zero =>
    intro k i hi hk
    obtain ⟨k, rfl⟩ : ∃ m, k = m + 1 := ⟨k - 1, by omega⟩
    rw [donjonref7_Name.l0, if_neg (by omega), decide_eq_true (fun j h1 h2 => by omega), Bool.true_and]
    by_cases h1 : 1 ≤ s.size
    · rw [if_pos (by omega), decide_eq_true h1, Bool.true_and]
      congr 1
      by_cases h2 : s.size ≤ 12
      · rw [decide_eq_true h2, decide_eq_true (by omega)]
      · rw [decide_eq_false h2, decide_eq_false (by omega)]
    · rw [if_neg (by omega), decide_eq_false h1, Bool.false_and]
  | succ d ih =>
    intro k i hi hk
    obtain ⟨k, rfl⟩ : ∃ m, k = m + 1 := ⟨k - 1, by omega⟩
    have hnext := ih k (i + 1) (by omega) (by omega)
    have hw : wrap64 ((i : Int) + 1) = ((i + 1 : Nat) : Int) := by rw [wrap64_id (by omega) (by omega)]; omega
    have hbad : okSign (bt s (i : Int)) = false → (some false : Option Bool) = some (decide (∀ j : Nat, j < s.size → i ≤ j → okSign (bt s (j : Int)) = true) && (decide (1 ≤ s.size) && decide (s.size ≤ 12))) := by
      intro hb
      rw [decide_eq_false (fun h => by rw [h i (by omega) (Nat.le_refl _)] at hb; exact absurd hb (by simp)), Bool.false_and]
    have hgood : okSign (bt s (i : Int)) = true → donjonref7_Name.l0 k s ((i + 1 : Nat) : Int) = some (decide (∀ j : Nat, j < s.size → i ≤ j → okSign (bt s (j : Int)) = true) && (decide (1 ≤ s.size) && decide (s.size ≤ 12))) := by
      intro hg
      rw [hnext]
      congr 2
      by_cases h : ∀ j : Nat, j < s.size → i + 1 ≤ j → okSign (bt s (j : Int)) = true
      · rw [decide_eq_true h, decide_eq_true (fun j h1 h2 => ?_)]
        by_cases e : i = j
        · subst e; exact hg
        · exact h j h1 (by omega)
      · rw [decide_eq_false h, decide_eq_false (fun h2 => h (fun j h3 h4 => h2 j h3 (by omega)))]
    rw [donjonref7_Name.l0, if_pos (by omega), if_pos (by omega), hw]
    by_cases c1 : bt s (i : Int) < 97
    · rw [if_pos c1]
      by_cases c2 : bt s (i : Int) < 48
      · rw [if_pos c2]
        exact hbad (by unfold okSign; simp; omega)
      · rw [if_neg c2]
        by_cases c3 : bt s (i : Int) > 57
        · rw [if_pos c3]
          exact hbad (by unfold okSign; simp; omega)
        · rw [if_neg c3]
          exact hgood (by unfold okSign; simp; omega)
    · rw [if_neg c1]
      by_cases c4 : bt s (i : Int) > 122
      · rw [if_pos c4]
        by_cases c2 : bt s (i : Int) < 48
        · omega
        · rw [if_neg c2, if_pos (by omega)]
          exact hbad (by unfold okSign; simp; omega)
      · rw [if_neg c4]
        exact hgood (by unfold okSign; simp; omega)
theorem ref7_name_f (s : ByteArray) (hs : s.size ≤ 9223372036854775806) (k : Nat) (hk : s.size < k) : donjonref7_Name.f k s = some (okName s) := by
  unfold donjonref7_Name.f
  have h := ref7_name_l0 s hs s.size k 0 (by omega) hk
  have e : ((0 : Nat) : Int) = 0 := rfl
  rw [e] at h
  rw [h]
  unfold okName
  congr 2
  by_cases hall : ∀ j : Nat, j < s.size → okSign (bt s (j : Int)) = true
  · rw [(path_Name.all_iff s).2 hall, decide_eq_true (fun j h1 _ => hall j h1)]
  · have h2 : (bytesOf s).all okSign = false := by
      rw [Bool.eq_false_iff]
      intro h3
      exact hall ((path_Name.all_iff s).1 h3)
    rw [h2, decide_eq_false (fun h3 => hall (fun j h1 => h3 j h1 (by omega)))]
end Go.Proofs.YtophnhmlknbmeaaDoor.Pure
/- A path in plain numbers and texts: what is checked, by the program and by the document. -/
namespace Go.Proofs.YtophnhmlknbmeaaDoor.Pure
open Go.RowKit Go.Proofs.YtophnhmlknbmeaaDoor.X Go.Proofs.YtophnhmlknbmeaaDoorW.PrintWords Go.Proofs.YtophnhmlknbmeaaDoorW.PrintLast Go.Proofs.YtophnhmlknbmeaaDoor.Lib

/-- The pieces between one sign. -/
def cutAt (c : UInt8) : List UInt8 → List (List UInt8)
  | [] => [[]]
  | b :: l => if b = c then [] :: cutAt c l else match cutAt c l with
    | [] => [[b]]
    | p :: r => (b :: p) :: r
theorem cutAt_ne (c : UInt8) : ∀ l, cutAt c l ≠ []
  | [] => by simp [cutAt]
  | b :: l => by
    unfold cutAt
    split
    · simp
    · split <;> simp
theorem cutAt_none (c : UInt8) : ∀ l, c ∉ l → cutAt c l = [l]
  | [], _ => rfl
  | b :: l, h => by
    rw [List.mem_cons, not_or] at h
    rw [cutAt, if_neg (fun e => h.1 e.symm), cutAt_none c l h.2]
theorem cutAt_sign (c : UInt8) : ∀ x y, c ∉ x → cutAt c (x ++ c :: y) = x :: cutAt c y
  | [], y, _ => by rw [List.nil_append, cutAt, if_pos rfl]
  | b :: x, y, h => by
    rw [List.mem_cons, not_or] at h
    rw [List.cons_append, cutAt, if_neg (fun e => h.1 e.symm), cutAt_sign c x y h.2]
theorem index_sign (x y : List UInt8) (c : UInt8) (h : c ∉ x) : Lib.index (x ++ c :: y) [c] = (x.length : Int) := by
  induction x with
  | nil => simp [Lib.index]
  | cons b x ih =>
    rw [List.mem_cons, not_or] at h
    have h2 := ih h.2
    show (if [c].isPrefixOf (b :: (x ++ c :: y)) = true then (0 : Int) else if (Lib.index (x ++ c :: y) [c] == -1) = true then -1 else Lib.index (x ++ c :: y) [c] + 1) = _
    rw [if_neg (by simp [List.isPrefixOf, h.1]), h2, if_neg (by first | (simp; done) | (simp; omega))]
    simp
theorem split_sign (x y : List UInt8) (c : UInt8) (k : Nat) (h : c ∉ x) : Lib.splitK [c] 0 (k + 1) (x ++ c :: y) = x :: Lib.splitK [c] 0 k y := by
  rw [Lib.splitK, index_sign x y c h, if_neg (by first | (simp; done) | (simp; omega)), Int.toNat_natCast, Nat.add_zero, List.take_left, List.length_singleton]
  congr 2
  rw [show x ++ c :: y = (x ++ [c]) ++ y by simp, List.drop_left' (by simp)]
theorem split_at (c : UInt8) (l : List UInt8) (h : c ∈ l) : ∃ x y, l = x ++ c :: y ∧ c ∉ x := by
  induction l with
  | nil => simp at h
  | cons b l ih =>
    by_cases e : c = b
    · exact ⟨[], l, by rw [e]; rfl, by simp⟩
    · obtain ⟨x, y, rfl, hx⟩ := ih (by
        rcases List.mem_cons.1 h with h | h
        · exact absurd h e
        · exact h)
      exact ⟨b :: x, y, rfl, by simp [e, hx]⟩
theorem splitK_cut (c : UInt8) : ∀ (n : Nat) (l : List UInt8), l.count c = n → Lib.splitK [c] 0 n l = cutAt c l
  | 0, l, h => by rw [Lib.splitK, cutAt_none c l (List.count_eq_zero.1 h)]
  | n + 1, l, h => by
    obtain ⟨x, y, rfl, hx⟩ := split_at c l (List.count_pos_iff.1 (by omega))
    have hy : y.count c = n := by
      rw [List.count_append, List.count_eq_zero.2 hx, List.count_cons_self] at h
      omega
    rw [split_sign x y c n hx, cutAt_sign c x y hx, splitK_cut c n y hy]
theorem pieces_cut (s : ByteArray) (c : UInt8) : (piecesV s c).map (·.data.toList) = cutAt c s.data.toList := by
  have e : (piecesV s c).map (·.data.toList) = Lib.splitK [c] 0 (Lib.count s.data.toList [c]) s.data.toList := Lib.splitB_data ⟨#[c]⟩ 0 _ s
  rw [e, Lib.count_one]
  exact splitK_cut c _ _ rfl
theorem datas_inj : ∀ (x y : List ByteArray), x.map (·.data.toList) = y.map (·.data.toList) → x = y
  | [], [], _ => rfl
  | [], _ :: _, h => by simp at h
  | _ :: _, [], h => by simp at h
  | a :: x, b :: y, h => by
    rw [List.map_cons, List.map_cons, List.cons.injEq] at h
    obtain ⟨⟨a⟩⟩ := a
    obtain ⟨⟨b⟩⟩ := b
    have e : a = b := h.1
    subst e
    rw [datas_inj x y h.2]
theorem bt_list (s : ByteArray) (i : Nat) (h : i < s.size) : ∃ b : UInt8, s.data.toList.drop i = b :: s.data.toList.drop (i + 1) ∧ bt s (i : Int) = (b.toNat : Int) := by
  have hl : i < s.data.toList.length := by simpa using h
  refine ⟨s.data.toList[i], List.drop_eq_getElem_cons hl, ?_⟩
  rw [path_Name.bt_get s i h]
  rfl
theorem extract_list (s : ByteArray) (a b : Nat) : (s.extract a b).data.toList = (s.data.toList.drop a).take (b - a) := by
  rw [ByteArray.data_extract, Array.toList_extract]
/-- The document's pieces from a place on. -/
theorem parts_l0 (s : ByteArray) (hs : s.size ≤ 1000) (h1 : 1 < s.size) : ∀ (n i «from» : Nat) (out : List ByteArray), i + n = s.size → «from» ≤ i → (47 : UInt8) ∉ (s.data.toList.drop «from»).take (i - «from») → out.length ≤ i → ∀ k, 2 * n + 4 < k →
    ∃ res, donjonref7_Parts.l0 k s out («from» : Int) (i : Int) = some res ∧ res.map (·.data.toList) = out.map (·.data.toList) ++ cutAt 47 (s.data.toList.drop «from») := by
  intro n
  induction n with
  | zero =>
    intro i a out hi ha hno ho k hk
    obtain ⟨k, rfl⟩ : ∃ q, k = q + 4 := ⟨k - 4, by omega⟩
    have hw : wrap64 ((i : Int) + 1) = (i : Int) + 1 := wrap64_id (by omega) (by omega)
    rw [donjonref7_Parts.l0, if_pos (by omega), donjonref7_Parts.j1, if_pos (by simp; omega), if_pos (by omega), if_pos (by omega), if_pos (by omega), if_pos (by omega), if_pos (by omega), hw, donjonref7_Parts.l0, if_neg (by omega), donjonref7_Parts.j1, if_neg (by simp)]
    refine ⟨_, rfl, ?_⟩
    rw [Int.toNat_natCast, Int.toNat_natCast, List.map_append, List.map_cons, List.map_nil, extract_list s a i]
    have e : (s.data.toList.drop a).take (i - a) = s.data.toList.drop a := List.take_of_length_le (by simp; omega)
    rw [e] at hno ⊢
    rw [cutAt_none 47 _ hno]
  | succ n ih =>
    intro i a out hi ha hno ho k hk
    obtain ⟨k, rfl⟩ : ∃ q, k = q + 2 := ⟨k - 2, by omega⟩
    have hw : wrap64 ((i : Int) + 1) = ((i + 1 : Nat) : Int) := by rw [wrap64_id (by omega) (by omega)]; omega
    obtain ⟨b, hb, hbt⟩ := bt_list s i (by omega)
    have hsplit : s.data.toList.drop a = (s.data.toList.drop a).take (i - a) ++ b :: s.data.toList.drop (i + 1) := by
      have e := (List.take_append_drop (i - a) (s.data.toList.drop a)).symm
      rw [List.drop_drop, show a + (i - a) = i by omega, hb] at e
      exact e
    rw [donjonref7_Parts.l0, if_pos (by omega), donjonref7_Parts.j1, if_pos (by simp; omega), if_neg (by omega), if_pos (by omega), if_pos (by omega), hw, hbt]
    by_cases hc : b = 47
    · subst hc
      rw [if_pos (by decide), if_pos (by omega), if_pos (by omega), if_pos (by omega), if_pos (by omega), Int.toNat_natCast, Int.toNat_natCast]
      obtain ⟨res, e1, e2⟩ := ih (i + 1) (i + 1) (out ++ [s.extract a i]) (by omega) (Nat.le_refl _) (by simp) (by simp; omega) k (by omega)
      refine ⟨res, e1, ?_⟩
      rw [e2, List.map_append, List.map_cons, List.map_nil, extract_list s a i, List.append_assoc]
      congr 1
      rw [hsplit, cutAt_sign 47 _ _ hno, ← hsplit]
      rfl
    · rw [if_neg (by
        intro e
        have e2 : b.toNat = (47 : UInt8).toNat := by show b.toNat = 47; omega
        exact hc (UInt8.toNat_inj.1 e2))]
      refine ih (i + 1) a out (by omega) (by omega) ?_ (by omega) k (by omega)
      have e3 : (s.data.toList.drop a).take (i + 1 - a) = (s.data.toList.drop a).take (i - a) ++ [b] := by
        have hg : s.data.toList[i]? = some b := by
          have h3 := congrArg (fun z : List UInt8 => z[0]?) hb
          simpa using h3
        rw [show i + 1 - a = (i - a) + 1 by omega, List.take_add_one, List.getElem?_drop, show a + (i - a) = i by omega, hg]
        rfl
      rw [e3, List.mem_append, not_or]
      exact ⟨hno, by simpa using fun e => hc e.symm⟩
theorem ref7_all (l : List ByteArray) (hl : l.length ≤ 1000) (B : Nat) (hB : ∀ x ∈ l, x.size ≤ B) (hB2 : B ≤ 100000) : ∀ (n i : Nat), i + n = l.length → ∀ k, n + B + 1 < k → donjonref7_Check.l0 k l (i : Int) = some (if (l.drop i).all okName = true then 0 else 1) := by
  intro n
  induction n with
  | zero =>
    intro i hi k hk
    obtain ⟨k, rfl⟩ : ∃ q, k = q + 1 := ⟨k - 1, by omega⟩
    rw [donjonref7_Check.l0, if_neg (by omega), List.drop_of_length_le (by omega)]
    rfl
  | succ n ih =>
    intro i hi k hk
    obtain ⟨k, rfl⟩ : ∃ q, k = q + 1 := ⟨k - 1, by omega⟩
    have hlt : i < l.length := by omega
    have hw : wrap64 ((i : Int) + 1) = ((i + 1 : Nat) : Int) := by rw [wrap64_id (by omega) (by omega)]; omega
    have hx : rdOf ByteArray.empty l (i : Int) = l[i] := by simp [rdOf, hlt]
    have hsz := hB l[i] (List.getElem_mem hlt)
    rw [donjonref7_Check.l0, if_pos (by omega), if_pos (by omega), hx, ref7_name_f _ (by omega) k (by omega), Option.bind_some, hw, ih (i + 1) (by omega) k (by omega), List.drop_eq_getElem_cons hlt, List.all_cons]
    cases okName l[i] <;> simp
theorem cutAt_len (c : UInt8) : ∀ l, ∀ p ∈ cutAt c l, p.length ≤ l.length
  | [], p, h => by
    simp [cutAt] at h
    simp [h]
  | b :: l, p, h => by
    unfold cutAt at h
    split at h
    · rcases List.mem_cons.1 h with rfl | h
      · simp
      · have := cutAt_len c l p h
        simp
        omega
    · split at h
      · simp at h
        simp [h]
      · rename_i q r e
        rcases List.mem_cons.1 h with rfl | h
        · have := cutAt_len c l q (by rw [e]; exact .head _)
          simp
          omega
        · have := cutAt_len c l p (by rw [e]; exact .tail _ h)
          simp
          omega
/-- The document checks a path as the program does. -/
theorem ref7_check (s : ByteArray) (k : Nat) (hk : 500 < k) : donjonref7_Check.f k s = path_Check.f s := by
  unfold donjonref7_Check.f path_Check.f pathV
  by_cases h78 : 78 < s.size
  · rw [if_pos (by omega), if_pos h78]
  · rw [if_neg (by omega), if_neg h78]
    by_cases hroot : s.toList = [47]
    · rw [if_pos hroot, if_pos hroot]
    · rw [if_neg hroot, if_neg hroot]
      obtain ⟨k, rfl⟩ : ∃ q, k = q + 1 := ⟨k - 1, by omega⟩
      have hp := pieces_cut s 47
      have hsz : s.data.toList.length = s.size := by simp
      by_cases h2 : (s.size : Int) < 2
      · rw [if_pos h2, donjonref7_Check.j0, if_pos rfl]
        rw [Lib.toList_data] at hroot
        congr 1
        match hd : s.data.toList, hsz, hroot, hp with
        | [], _, _, hp =>
          have e : piecesV s 47 = [ByteArray.empty] := datas_inj _ _ (by rw [hp]; rfl)
          rw [e]
          dsimp only
          rw [if_neg (fun h => absurd h.2.1 (by simp))]
        | [b], _, hroot, hp =>
          have hb : b ≠ 47 := fun e => hroot (by rw [e])
          have e : piecesV s 47 = [⟨#[b]⟩] := datas_inj _ _ (by rw [hp]; simp [cutAt, hb])
          rw [e]
          simp
        | _ :: _ :: _, hsz, _, _ =>
          simp at hsz
          omega
      · rw [if_neg h2, if_pos (by omega), donjonref7_Check.j0]
        obtain ⟨b, hb, hbt⟩ := bt_list s 0 (by omega)
        rw [List.drop_zero, Nat.zero_add] at hb
        rw [show bt s 0 = (b.toNat : Int) from hbt]
        by_cases hc : b = 47
        · subst hc
          obtain ⟨res, e1, e2⟩ := parts_l0 s (by omega) (by omega) (s.size - 1) 1 1 [] (by omega) (Nat.le_refl _) (by simp) (by simp) k (by omega)
          have e1' : donjonref7_Parts.f k s = some res := e1
          rw [if_neg (by decide), e1', Option.bind_some]
          rw [List.map_nil, List.nil_append] at e2
          rw [hb, cutAt, if_pos rfl, ← e2] at hp
          have e3 : piecesV s 47 = ByteArray.empty :: res := datas_inj _ _ (by rw [hp]; rfl)
          have hne : res ≠ [] := by
            intro e
            rw [e, List.map_nil] at e2
            exact cutAt_ne _ _ e2.symm
          have hl1 : 1 ≤ res.length := by
            cases res with
            | nil => exact absurd rfl hne
            | cons _ _ => simp
          rw [e3]
          dsimp only
          have hem : ByteArray.empty.toList = [] := by rw [Lib.toList_data]; rfl
          by_cases h6 : (res.length : Int) > 6
          · rw [if_pos h6, if_neg (fun h => by have := h.2.2; omega)]
          · rw [if_neg h6, if_pos ⟨hem, hl1, by omega⟩]
            have hB : ∀ x ∈ res, x.size ≤ s.size := by
              intro x hx
              have h3 : x.data.toList ∈ cutAt 47 (s.data.toList.drop 1) := by rw [← e2]; exact List.mem_map.2 ⟨x, hx, rfl⟩
              have h4 := cutAt_len 47 _ _ h3
              have h5 : x.data.toList.length = x.size := by simp
              rw [h5, List.length_drop, hsz] at h4
              omega
            exact ref7_all res (by omega) s.size hB (by omega) res.length 0 (by omega) k (by omega)
        · have hne : ((b.toNat : Int) != 47) = true := by
            rw [bne_iff_ne]
            intro e
            have e2 : b.toNat = (47 : UInt8).toNat := by show b.toNat = 47; omega
            exact hc (UInt8.toNat_inj.1 e2)
          rw [if_pos hne]
          congr 1
          rw [hb, cutAt, if_neg hc] at hp
          match hq : piecesV s 47 with
          | [] => rfl
          | p :: ps =>
            rw [hq, List.map_cons] at hp
            have hpne : ¬ p.toList = [] := by
              intro e
              rw [Lib.toList_data] at e
              rw [e] at hp
              revert hp
              split <;> simp
            dsimp only
            rw [if_neg (fun h => hpne h.1)]
end Go.Proofs.YtophnhmlknbmeaaDoor.Pure
/- NodeChecks, over numbers and lists: any node is checked as the document says. For every input. -/
namespace Go.Proofs.YtophnhmlknbmeaaDoor.Pure
open Go.RowKit Go.Proofs.YtophnhmlknbmeaaDoor.X Go.Proofs.YtophnhmlknbmeaaDoorW.PrintWords Go.Proofs.YtophnhmlknbmeaaDoorW.PrintLast Go.Proofs.YtophnhmlknbmeaaDoor.Lib

theorem chk_lev (a : Int) : label_level.f a = some (decide (0 ≤ a) && decide (a ≤ 3)) := by
  unfold label_level.f
  by_cases h1 : 0 ≤ a <;> by_cases h2 : a ≤ 3 <;> simp [h1, h2]
theorem chk_cat (a : Int) : label_cats.f a = some (decide (0 ≤ a) && decide (a ≤ 255)) := by
  unfold label_cats.f
  by_cases h1 : 0 ≤ a <;> by_cases h2 : a ≤ 255 <;> simp [h1, h2]
open Classical in
/-- What is said of a label. -/
noncomputable def labV (a b c d : Int) : Int := if (0 ≤ a ∧ a ≤ 3) ∧ (0 ≤ c ∧ c ≤ 3) ∧ (0 ≤ b ∧ b ≤ 255) ∧ (0 ≤ d ∧ d ≤ 255) then 0 else 1
theorem chk_lab (a b c d : Int) : label_Check.f a b c d = some (labV a b c d) := by
  unfold label_Check.f labV
  rw [chk_lev a, chk_lev c, chk_cat b, chk_cat d]
  simp only [Option.bind_some, Bool.and_eq_true, decide_eq_true_eq]
  by_cases h1 : 0 ≤ a ∧ a ≤ 3
  · rw [if_pos h1]
    by_cases h2 : 0 ≤ c ∧ c ≤ 3
    · rw [if_pos h2]
      by_cases h3 : 0 ≤ b ∧ b ≤ 255
      · rw [if_pos h3]
        by_cases h4 : 0 ≤ d ∧ d ≤ 255
        · rw [if_pos h4, if_pos ⟨h1, h2, h3, h4⟩]
        · rw [if_neg h4, if_neg (fun h => h4 h.2.2.2)]
      · rw [if_neg h3, if_neg (fun h => h3 h.2.2.1)]
    · rw [if_neg h2, if_neg (fun h => h2 h.2.1)]
  · rw [if_neg h1, if_neg (fun h => h1 h.1)]
theorem chk_ref (a b c d : Int) : donjonref4_Check.f a b c d = some (labV a b c d) := by
  unfold donjonref4_Check.f labV
  by_cases h1 : a < 0
  · rw [if_pos h1, if_neg (by omega)]
  rw [if_neg h1]
  by_cases h2 : a > 3
  · rw [if_pos h2, if_neg (by omega)]
  rw [if_neg h2]
  by_cases h3 : c < 0
  · rw [if_pos h3, if_neg (by omega)]
  rw [if_neg h3]
  by_cases h4 : c > 3
  · rw [if_pos h4, if_neg (by omega)]
  rw [if_neg h4]
  by_cases h5 : b < 0
  · rw [if_pos h5, if_neg (by omega)]
  rw [if_neg h5]
  by_cases h6 : b > 255
  · rw [if_pos h6, if_neg (by omega)]
  rw [if_neg h6]
  by_cases h7 : d < 0
  · rw [if_pos h7, if_neg (by omega)]
  rw [if_neg h7]
  by_cases h8 : d > 255
  · rw [if_pos h8, if_neg (by omega)]
  rw [if_neg h8, if_pos (by omega)]
theorem first_f (a b c d : Int) (k : Nat) : node_first.f (k + 7) [a, b, c, d] = some (if a = 0 then if b = 0 then if c = 0 then if d = 0 then 0 else d else c else b else a) := by
  have w1 : wrap64 (0 + 1) = 1 := by rw [wrap64_id (by omega) (by omega)]; rfl
  have w2 : wrap64 (1 + 1) = 2 := by rw [wrap64_id (by omega) (by omega)]; rfl
  have w3 : wrap64 (2 + 1) = 3 := by rw [wrap64_id (by omega) (by omega)]; rfl
  have w4 : wrap64 (3 + 1) = 4 := by rw [wrap64_id (by omega) (by omega)]; rfl
  have d0 : rd [a, b, c, d] 0 = a := rfl
  have d1 : rd [a, b, c, d] 1 = b := rfl
  have d2 : rd [a, b, c, d] 2 = c := rfl
  have d3 : rd [a, b, c, d] 3 = d := rfl
  unfold node_first.f
  rw [List.length_cons, List.length_cons, List.length_cons, List.length_cons, List.length_nil]
  rw [node_first.l0, if_pos (by decide), if_pos (by decide), if_pos (by simp), d0, w1]
  by_cases h1 : a = 0
  · rw [if_pos h1, if_pos h1, node_first.l0, if_pos (by decide), if_pos (by decide), if_pos (by simp), d1, w2]
    by_cases h2 : b = 0
    · rw [if_pos h2, if_pos h2, node_first.l0, if_pos (by decide), if_pos (by decide), if_pos (by simp), d2, w3]
      by_cases h3 : c = 0
      · rw [if_pos h3, if_pos h3, node_first.l0, if_pos (by decide), if_pos (by decide), if_pos (by simp), d3, w4]
        by_cases h4 : d = 0
        · rw [if_pos h4, if_pos h4, node_first.l0, if_neg (by decide)]
        · rw [if_neg h4, if_neg h4]
      · rw [if_neg h3, if_neg h3]
    · rw [if_neg h2, if_neg h2]
  · rw [if_neg h1, if_neg h1]
theorem node_tail (x : Bool) (p : ByteArray) (dir : Bool) (a b c d : Int) (l : List S62) (r1 r2 r3 g : Int) (ws : List Int) (a' b' c' d' : Int) (k m : Nat) :
    node_Check.j0 (k + 2) x p dir a b c d l r1 r2 r3 g ws a' b' c' d' = donjonref10_Check.j3 (m + 2) x p dir a b c d l r1 r2 r3 g ws a' b' c' d' := by
  have hring : ring_Check.f r1 r2 r3 g = donjonref6_Check.f r1 r2 r3 g := rfl
  have ht : ∀ y : Bool, node_Check.j1 (k + 1) y p dir a b c d l r1 r2 r3 g ws a' b' c' d' = donjonref10_Check.j4 (m + 1) y p dir a b c d l r1 r2 r3 g ws a' b' c' d' := by
    intro y
    rw [node_Check.j1, donjonref10_Check.j4, hring]
    cases donjonref6_Check.f r1 r2 r3 g <;> rfl
  rw [node_Check.j0, donjonref10_Check.j3, ht, ht, ht]
theorem NodeChecks : ∀ (a0_0 : ByteArray) (a0_1 : Bool) (a0_2 : Int) (a0_3 : Int) (a0_4 : Int) (a0_5 : Int) (l0_6 : List (S62)) (a0_7 : Int) (a0_8 : Int) (a0_9 : Int) (a0_10 : Int) (l0_11 : List Int) (a0_12 : Int) (a0_13 : Int) (a0_14 : Int) (a0_15 : Int), a0_0.size ≤ 140737488351232 → (Lit.int .i64 a0_2).wf = true → (Lit.int .i64 a0_3).wf = true → (Lit.int .i64 a0_4).wf = true → (Lit.int .i64 a0_5).wf = true → (l0_6.length ≤ maxLen ∧ l0_6.length * 24 ≤ 140737488351232 ∧ ∀ y_ ∈ l0_6, g_T62 y_) → (Lit.int .i64 a0_7).wf = true → (Lit.int .i64 a0_8).wf = true → (Lit.int .i64 a0_9).wf = true → (Lit.int .i64 a0_10).wf = true → (l0_11.length ≤ maxLen ∧ l0_11.length * 8 ≤ 140737488351232 ∧ ∀ y_ ∈ l0_11, (Lit.int .i64 y_).wf = true) → (Lit.int .i64 a0_12).wf = true → (Lit.int .i64 a0_13).wf = true → (Lit.int .i64 a0_14).wf = true → (Lit.int .i64 a0_15).wf = true → ∃ k, donjonlaw10_NodeChecks.f k a0_0 a0_1 a0_2 a0_3 a0_4 a0_5 l0_6 a0_7 a0_8 a0_9 a0_10 l0_11 a0_12 a0_13 a0_14 a0_15 = some true := by
  intro p dir a b c d l r1 r2 r3 g ws a' b' c' d' _ _ _ _ _ ⟨_, _, hgr⟩ _ _ _ _ _ _ _ _ _
  obtain ⟨K, hK⟩ : ∃ K : Nat, 140737488351232 + 600 < K := ⟨140737488351232 + 601, by omega⟩
  refine ⟨K + 10, ?_⟩
  have hB : ∀ i : Nat, i < l.length → (rd_T62 l (i : Int)).f0.size ≤ 140737488351232 := by
    intro i hi
    have e : rd_T62 l (i : Int) = l[i] := by simp [rd_T62, hi]
    rw [e]
    exact (hgr l[i] (List.getElem_mem hi)).1
  unfold donjonlaw10_NodeChecks.f
  rw [show donjonlaw10_known.f = some true by decide +kernel, Option.bind_some, if_pos rfl]
  obtain ⟨t, ht⟩ : ∃ t, donjonlaw10_few.f p dir a b c d l r1 r2 r3 g ws a' b' c' d' = some t := by
    unfold donjonlaw10_few.f
    repeat' split
    all_goals exact ⟨_, rfl⟩
  rw [ht, Option.bind_some]
  cases t with
  | false => rw [if_neg (by decide)]
  | true =>
    rw [if_pos rfl]
    obtain ⟨e, he⟩ : ∃ e, path_Check.f p = some e := ⟨_, rfl⟩
    obtain ⟨T, hT⟩ : ∃ T, T = (if p.toList = ([47] : List UInt8) then node_Check.j0 (K + 10) (!dir) p dir a b c d l r1 r2 r3 g ws a' b' c' d' else node_Check.j0 (K + 10) false p dir a b c d l r1 r2 r3 g ws a' b' c' d') := ⟨_, rfl⟩
    have hj2 : ∀ x, donjonref10_Check.j2 (K + 8) x p dir a b c d l r1 r2 r3 g ws a' b' c' d' = if x = 0 then T else some x := by
      intro x
      rw [donjonref10_Check.j2, hT, node_tail (!dir) p dir a b c d l r1 r2 r3 g ws a' b' c' d' (K + 8) (K + 5), node_tail false p dir a b c d l r1 r2 r3 g ws a' b' c' d' (K + 8) (K + 5)]
    have hj1 : ∀ x, donjonref10_Check.j1 (K + 9) x p dir a b c d l r1 r2 r3 g ws a' b' c' d' = if x = 0 then (if checkV l = 0 then T else some (checkV l)) else some x := by
      intro x
      rw [donjonref10_Check.j1, ref_check_f l _ hB (by omega) (K + 8) (by omega), Option.bind_some, hj2, hj2]
      by_cases hx : x = 0
      · rw [if_pos hx, if_pos hx]
      · rw [if_neg hx, if_neg hx, if_neg hx]
    have hj0 : ∀ x, donjonref10_Check.j0 (K + 10) x p dir a b c d l r1 r2 r3 g ws a' b' c' d' = if x = 0 then (if labV a' b' c' d' = 0 then (if checkV l = 0 then T else some (checkV l)) else some (labV a' b' c' d')) else some x := by
      intro x
      rw [donjonref10_Check.j0, chk_ref, Option.bind_some, hj1, hj1]
      by_cases hx : x = 0
      · rw [if_pos hx, if_pos hx]
      · rw [if_neg hx, if_neg hx, if_neg hx]
    have hN : node_Check.f (K + 10) p dir a b c d l r1 r2 r3 g ws a' b' c' d' = donjonref10_Check.f (K + 10) p dir a b c d l r1 r2 r3 g ws a' b' c' d' := by
      unfold node_Check.f donjonref10_Check.f
      rw [ref7_check p (K + 10) (by omega), he, Option.bind_some, Option.bind_some, chk_lab, chk_lab, check_f (K + 10) (by omega) l, chk_ref]
      simp only [Option.bind_some]
      rw [first_f e (labV a b c d) (labV a' b' c' d') (checkV l) (K + 3), Option.bind_some, ← hT, hj0, hj0]
      by_cases h1 : e = 0
      · rw [if_pos h1, if_pos h1]
        by_cases h2 : labV a b c d = 0
        · rw [if_pos h2, if_pos h2]
          by_cases h3 : labV a' b' c' d' = 0
          · rw [if_pos h3, if_pos h3]
            by_cases h4 : checkV l = 0
            · rw [if_pos h4, if_pos rfl, if_pos h4]
            · rw [if_neg h4, if_neg h4]
          · rw [if_neg h3, if_neg h3, if_neg h3]
        · rw [if_neg h2, if_neg h2, if_neg h2]
      · rw [if_neg h1, if_neg h1, if_neg h1, if_neg h1]
    rw [hN]
    have hsome : ∃ v, donjonref10_Check.f (K + 10) p dir a b c d l r1 r2 r3 g ws a' b' c' d' = some v := by
      have hring : ∃ v, donjonref6_Check.f r1 r2 r3 g = some v := by
        unfold donjonref6_Check.f
        repeat' split
        all_goals exact ⟨_, rfl⟩
      obtain ⟨v, hv⟩ := hring
      have hj3 : ∀ x, ∃ v, node_Check.j0 (K + 10) x p dir a b c d l r1 r2 r3 g ws a' b' c' d' = some v := by
        intro x
        rw [node_tail x p dir a b c d l r1 r2 r3 g ws a' b' c' d' (K + 8) (K + 8), donjonref10_Check.j3, donjonref10_Check.j4, donjonref10_Check.j4, donjonref10_Check.j4, hv]
        simp only [Option.bind_some]
        repeat' split
        all_goals exact ⟨_, rfl⟩
      have hTs : ∃ v, T = some v := by
        rw [hT]
        split
        · exact hj3 _
        · exact hj3 _
      obtain ⟨tv, htv⟩ := hTs
      unfold donjonref10_Check.f
      rw [ref7_check p (K + 10) (by omega), he, Option.bind_some, chk_ref, Option.bind_some, hj0, hj0, htv]
      repeat' split
      all_goals exact ⟨_, rfl⟩
    obtain ⟨v, hv⟩ := hsome
    rw [hv, Option.bind_some, Option.bind_some, beq_self_eq_true]
end Go.Proofs.YtophnhmlknbmeaaDoor.Pure
