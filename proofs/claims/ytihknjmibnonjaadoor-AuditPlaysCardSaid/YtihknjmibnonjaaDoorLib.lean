/- Plain lemmas on numbers, lists and bytes: no program is in sight. -/
import Derived.Test.YtihknjmibnonjaaDoorWMore
namespace Go.Proofs.YtihknjmibnonjaaDoor.Lib
open Go.RowKit Go.Proofs.YtihknjmibnonjaaDoorW.PrintWords

theorem wf_u64 {a : Int} (h : (Lit.int .u64 a).wf = true) : 0 ≤ a ∧ a < 18446744073709551616 := by
  simp [Lit.wf, IntKind.min, IntKind.max, IntKind.signed, IntKind.bits] at h
  omega
theorem wf_u8 {a : Int} (h : (Lit.int .u8 a).wf = true) : 0 ≤ a ∧ a < 256 := by
  simp [Lit.wf, IntKind.min, IntKind.max, IntKind.signed, IntKind.bits] at h
  omega
theorem wf_i64 {a : Int} (h : (Lit.int .i64 a).wf = true) : -9223372036854775808 ≤ a ∧ a ≤ 9223372036854775807 := by
  simp [Lit.wf, IntKind.min, IntKind.max, IntKind.signed, IntKind.bits] at h
  omega
theorem u64_wrap (n : Int) : IntKind.u64.wrap n = n % 18446744073709551616 := by simp [IntKind.wrap, IntKind.bits, IntKind.signed]
theorem u8_wrap (n : Int) : IntKind.u8.wrap n = n % 256 := by simp [IntKind.wrap, IntKind.bits, IntKind.signed]
theorem wrap64_id {n : Int} (h0 : -9223372036854775808 ≤ n) (h1 : n ≤ 9223372036854775807) : wrap64 n = n := by
  unfold wrap64
  omega
theorem ofInt64_toNat {a : Int} (h0 : 0 ≤ a) (h1 : a < 18446744073709551616) : (BitVec.ofInt 64 a).toNat = a.toNat := by
  rw [BitVec.toNat_ofInt]
  congr 1
  omega
theorem ofInt8_toNat {a : Int} (h0 : 0 ≤ a) (h1 : a < 256) : (BitVec.ofInt 8 a).toNat = a.toNat := by
  rw [BitVec.toNat_ofInt]
  congr 1
  omega
/-- xor of 64 bits, in natural numbers. -/
theorem xor_u64 {a b : Int} (ha0 : 0 ≤ a) (ha : a < 18446744073709551616) (hb0 : 0 ≤ b) (hb : b < 18446744073709551616) :
    Go.bits .xor .u64 a b = ((a.toNat ^^^ b.toNat : Nat) : Int) := by
  have hx : a.toNat ^^^ b.toNat < 2 ^ 64 := Nat.xor_lt_two_pow (by omega) (by omega)
  show IntKind.u64.wrap ((BitVec.ofInt 64 a ^^^ BitVec.ofInt 64 b).toNat : Int) = _
  rw [BitVec.toNat_xor, ofInt64_toNat ha0 ha, ofInt64_toNat hb0 hb, u64_wrap]
  omega
theorem xor_u8 {a b : Int} (ha0 : 0 ≤ a) (ha : a < 256) (hb0 : 0 ≤ b) (hb : b < 256) :
    Go.bits .xor .u8 a b = ((a.toNat ^^^ b.toNat : Nat) : Int) := by
  have hx : a.toNat ^^^ b.toNat < 2 ^ 8 := Nat.xor_lt_two_pow (by omega) (by omega)
  show IntKind.u8.wrap ((BitVec.ofInt 8 a ^^^ BitVec.ofInt 8 b).toNat : Int) = _
  rw [BitVec.toNat_xor, ofInt8_toNat ha0 ha, ofInt8_toNat hb0 hb, u8_wrap]
  omega
theorem nat_xor_left_cancel {a b c : Nat} (h : a ^^^ b = a ^^^ c) : b = c := by
  have h2 : a ^^^ (a ^^^ b) = a ^^^ (a ^^^ c) := by rw [h]
  rwa [← Nat.xor_assoc, ← Nat.xor_assoc, Nat.xor_self, Nat.zero_xor, Nat.zero_xor] at h2
theorem nat_xor_ne {a b : Nat} (h : b ≠ 0) : a ^^^ b ≠ a := by
  intro e
  have h2 : a ^^^ b = a ^^^ 0 := by rw [e, Nat.xor_zero]
  exact h (nat_xor_left_cancel h2)
/-- The factor is odd: what it was multiplied by can be told. -/
theorem times_inj {x y : Int} (hx0 : 0 ≤ x) (hx : x < 18446744073709551616) (hy0 : 0 ≤ y) (hy : y < 18446744073709551616)
    (h : IntKind.u64.wrap (x * 1099511628211) = IntKind.u64.wrap (y * 1099511628211)) : x = y := by
  rw [u64_wrap, u64_wrap] at h
  have e : ∀ z : Int, 0 ≤ z → z < 18446744073709551616 → (z * 1099511628211 * 14886173955864302971) % 18446744073709551616 = z := by
    intro z hz0 hz
    rw [Int.mul_assoc, show (1099511628211 * 14886173955864302971 : Int) = 1 + 18446744073709551616 * 887285111055 from by decide, Int.mul_add, Int.mul_one, Int.mul_left_comm, Int.add_mul_emod_self_left]
    exact Int.emod_eq_of_lt hz0 hz
  rw [← e x hx0 hx, ← e y hy0 hy, Int.mul_emod, h, ← Int.mul_emod]

/-! ### The chain of a hash -/
def hstep (h b : Int) : Int := IntKind.u64.wrap (Go.bits .xor .u64 h (IntKind.u64.wrap b) * 1099511628211)
def chain (h : Int) (xs : List Int) : Int := xs.foldl hstep h
theorem hstep_range (h b : Int) : 0 ≤ hstep h b ∧ hstep h b < 18446744073709551616 := by
  unfold hstep
  rw [u64_wrap]
  omega
theorem chain_range {h : Int} (h0 : 0 ≤ h) (h1 : h < 18446744073709551616) (xs : List Int) : 0 ≤ chain h xs ∧ chain h xs < 18446744073709551616 := by
  unfold chain
  induction xs generalizing h with
  | nil => exact ⟨h0, h1⟩
  | cons x xs ih => exact ih (hstep_range h x).1 (hstep_range h x).2
theorem chain_append (h : Int) (xs ys : List Int) : chain h (xs ++ ys) = chain (chain h xs) ys := by
  unfold chain
  rw [List.foldl_append]
theorem hstep_inj {h b c : Int} (h0 : 0 ≤ h) (h1 : h < 18446744073709551616) (hb0 : 0 ≤ b) (hb : b < 256) (hc0 : 0 ≤ c) (hc : c < 256) (e : hstep h b = hstep h c) : b = c := by
  unfold hstep at e
  have wb : IntKind.u64.wrap b = b := by rw [u64_wrap]; omega
  have wc : IntKind.u64.wrap c = c := by rw [u64_wrap]; omega
  rw [wb, wc] at e
  have xb := xor_u64 h0 h1 hb0 (by omega : b < 18446744073709551616)
  have xc := xor_u64 h0 h1 hc0 (by omega : c < 18446744073709551616)
  have lb : h.toNat ^^^ b.toNat < 2 ^ 64 := Nat.xor_lt_two_pow (by omega) (by omega)
  have lc : h.toNat ^^^ c.toNat < 2 ^ 64 := Nat.xor_lt_two_pow (by omega) (by omega)
  rw [xb, xc] at e
  have e2 := times_inj (by omega) (by omega) (by omega) (by omega) e
  have e3 : h.toNat ^^^ b.toNat = h.toNat ^^^ c.toNat := by omega
  have := nat_xor_left_cancel e3
  omega
theorem rd_getElem {xs : List Int} {i : Nat} (h : i < xs.length) : rd xs (i : Int) = xs[i] := by
  unfold rd
  simp [List.getD_eq_getElem?_getD, h]
theorem drop_rd {xs : List Int} {i : Int} (h0 : 0 ≤ i) (h : i < (xs.length : Int)) : xs.drop i.toNat = rd xs i :: xs.drop (i + 1).toNat := by
  have hi : i.toNat < xs.length := by omega
  rw [List.drop_eq_getElem_cons hi]
  have e1 : (i + 1).toNat = i.toNat + 1 := by omega
  rw [e1]
  congr 1
  have := rd_getElem hi
  rw [← this]
  congr 1
  omega
end Go.Proofs.YtihknjmibnonjaaDoor.Lib
