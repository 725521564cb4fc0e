/- IsaFields, over numbers: of a word's bits each field has its own: an operation, a pointer, a number; bits that are nobody's are refused. For every input. -/
import Derived.Test.YtcjkekdmmjfgeaaF8
import Derived.Test.YtcjkekdmmjfgeaaPIsa
namespace Go.Proofs.Ytcjkekdmmjfgeaa.Pure
open Go.RowKit Go.Proofs.Ytcjkekdmmjfgeaa.X Go.Proofs.YtcjkekdmmjfgeaaW.PrintWords Go.Proofs.YtcjkekdmmjfgeaaW.PrintLast Go.Proofs.Ytcjkekdmmjfgeaa.Lib

theorem xor_i64 {a b : Int} (ha0 : 0 ≤ a) (ha : a < 9223372036854775808) (hb0 : 0 ≤ b) (hb : b < 9223372036854775808) : Go.bits .xor .i64 a b = ((a.toNat ^^^ b.toNat : Nat) : Int) := by
  have hx : a.toNat ^^^ b.toNat < 2 ^ 63 := Nat.xor_lt_two_pow (by omega) (by omega)
  show IntKind.i64.wrap ((BitVec.ofInt 64 a ^^^ BitVec.ofInt 64 b).toNat : Int) = _
  rw [BitVec.toNat_xor, ofInt64_toNat ha0 (by omega), ofInt64_toNat hb0 (by omega), i64_wrap_id (by omega) (by omega)]
/-- A bit that is nobody's turned on. -/
theorem dec_nobody {o p n : Int} (h : fits o p n) (t Q : Nat) (ht : t < 16) (hQ : Q = 2 ^ (32 + t)) : dec (Go.bits .xor .i64 (encV o p n) (Q : Int)) = (0, 0, 0, 11) := by
  obtain ⟨h1, h2, h3, h4, h5, h6⟩ := h
  have hp : Q < 2 ^ 48 := by rw [hQ]; exact Nat.pow_lt_pow_right (by decide) (by omega)
  have hQ2 : Q / 2 ^ 32 = 2 ^ t := by
    rw [hQ, Nat.pow_add]
    exact Nat.mul_div_cancel_left _ (by decide)
  have hv0 : 0 ≤ encV o p n := by unfold encV; omega
  have hv1 : encV o p n < 2305843009213693952 := by unfold encV; omega
  have hq : 2 ^ t < 2 ^ 16 := Nat.pow_lt_pow_right (by decide) ht
  have hq0 : 0 < 2 ^ t := Nat.two_pow_pos t
  generalize hT : 2 ^ t = T at hQ2 hq hq0
  clear hQ hT
  rw [xor_i64 hv0 (by omega) (by omega) (by omega), Int.toNat_natCast]
  have hx : (encV o p n).toNat ^^^ Q < 2 ^ 61 := Nat.xor_lt_two_pow (by omega) (by omega)
  have a1 : ((encV o p n).toNat ^^^ Q) / 2 ^ 56 = (encV o p n).toNat / 2 ^ 56 := by
    rw [Nat.xor_div_two_pow, Nat.div_eq_of_lt (a := Q) (by omega), Nat.xor_zero]
  have a2 : ((encV o p n).toNat ^^^ Q) / 2 ^ 48 = (encV o p n).toNat / 2 ^ 48 := by
    rw [Nat.xor_div_two_pow, Nat.div_eq_of_lt (a := Q) (by omega), Nat.xor_zero]
  have a3 : ((encV o p n).toNat ^^^ Q) / 2 ^ 32 % 2 ^ 16 = T := by
    have e2 : (encV o p n).toNat / 2 ^ 32 % 2 ^ 16 = 0 := by unfold encV; omega
    rw [Nat.xor_div_two_pow, hQ2, Nat.xor_mod_two_pow, e2, Nat.mod_eq_of_lt hq, Nat.zero_xor]
  have b1 : (encV o p n).toNat / 2 ^ 56 = o.toNat := by unfold encV; omega
  have b2 : (encV o p n).toNat / 2 ^ 48 % 256 = p.toNat := by unfold encV; omega
  generalize hX : (encV o p n).toNat ^^^ Q = X at *
  have c1 : (X : Int) % 18446744073709551616 / 72057594037927936 = o := by omega
  have c2 : (X : Int) % 18446744073709551616 / 281474976710656 % 256 = p := by omega
  have c3 : (X : Int) % 18446744073709551616 / 4294967296 % 65536 = (T : Int) := by omega
  unfold dec
  rw [c1, c2, c3, if_neg (by omega), if_neg (by omega), if_neg (by omega)]
/-- The lowest bit turned. -/
theorem dec_lowest {o p n : Int} (h : fits o p n) : ∃ m, dec (Go.bits .xor .i64 (encV o p n) 1) = (o, p, m, 0) ∧ (m - n = 1 ∨ m - n = -1) := by
  obtain ⟨h1, h2, h3, h4, h5, h6⟩ := h
  have hv0 : 0 ≤ encV o p n := by unfold encV; omega
  have hv1 : encV o p n < 2305843009213693952 := by unfold encV; omega
  rw [xor_i64 hv0 (by omega) (by omega) (by omega)]
  have a1 : ((encV o p n).toNat ^^^ (1 : Int).toNat) / 2 = (encV o p n).toNat / 2 := by
    rw [Nat.xor_div_two]
    simp
  have a2 : ((encV o p n).toNat ^^^ (1 : Int).toNat) % 2 ^ 1 = (encV o p n).toNat % 2 ^ 1 ^^^ 1 := by
    rw [Nat.xor_mod_two_pow]
    rfl
  generalize hX : (encV o p n).toNat ^^^ (1 : Int).toNat = X at *
  have a3 : X % 2 = 1 - (encV o p n).toNat % 2 := by
    rcases Nat.mod_two_eq_zero_or_one (encV o p n).toNat with e | e
    · have e' : (encV o p n).toNat % 2 ^ 1 = 0 := e
      rw [e'] at a2
      rw [e]
      simpa using a2
    · have e' : (encV o p n).toNat % 2 ^ 1 = 1 := e
      rw [e'] at a2
      rw [e]
      simpa using a2
  clear a2 hX
  unfold encV at a1 a3 hv0 hv1
  have c1 : (X : Int) % 18446744073709551616 / 72057594037927936 = o := by omega
  have c2 : (X : Int) % 18446744073709551616 / 281474976710656 % 256 = p := by omega
  have c3 : (X : Int) % 18446744073709551616 / 4294967296 % 65536 = 0 := by omega
  refine ⟨((X : Int) + 2147483648) % 4294967296 - 2147483648, ?_, by omega⟩
  unfold dec
  rw [c1, c2, c3, if_neg (by omega), if_neg (by omega), if_pos rfl]

theorem IsaFields : ∀ (a0_0 : Int) (a0_1 : Int) (a0_2 : Int) (a1 : Int), (Lit.int .i64 a0_0).wf = true → (Lit.int .i64 a0_1).wf = true → (Lit.int .i64 a0_2).wf = true → (Lit.int .i64 a1).wf = true → ∃ k, donjonlaw15_IsaFields.f k a0_0 a0_1 a0_2 a1 = some true := by
  intro a b c bit _ _ _ _
  refine ⟨1, ?_⟩
  unfold donjonlaw15_IsaFields.f
  rw [known15]
  simp only [Option.bind_some, if_true]
  obtain ⟨o, p, n, hg, hf⟩ := good_f a b c
  rw [hg]
  simp only [Option.bind_some]
  rw [encode_f, enc_ok hf]
  simp only [Option.bind_some, donjonlaw15_within.f]
  obtain ⟨t, ht, t0, t1, _⟩ := within_small (a := bit) (n := 16) (by omega) (by omega)
  rw [ht]
  simp only [Option.bind_some]
  rw [wrap64_id (by omega) (by omega), if_pos (by omega)]
  obtain ⟨Q, hQ⟩ : ∃ Q : Nat, Q = 2 ^ (32 + t.toNat) := ⟨_, rfl⟩
  have hs : shl .i64 1 (32 + t) = (Q : Int) := by
    unfold shl
    have e : min (32 + t).toNat IntKind.i64.bits = 32 + t.toNat := by
      have : IntKind.i64.bits = 64 := rfl
      rw [this]
      omega
    have hp : Q < 2 ^ 48 := by rw [hQ]; exact Nat.pow_lt_pow_right (by decide) (by omega)
    have hc : (1 : Int) * 2 ^ (32 + t.toNat) = (Q : Int) := by rw [hQ]; simp
    rw [e, hc, i64_wrap_id (by omega) (by omega)]
  obtain ⟨m, hm, hd⟩ := dec_lowest hf
  obtain ⟨h1, h2, h3, h4, h5, h6⟩ := hf
  rw [hs, decode_f, decode_f, dec_nobody ⟨h1, h2, h3, h4, h5, h6⟩ t.toNat Q (by omega) hQ, hm]
  simp only [Option.bind_some, if_true]
  have g1 : IntKind.u64.wrap (encV o p n) / 72057594037927936 = IntKind.u64.wrap o := by
    rw [u64_wrap, u64_wrap]
    unfold encV
    omega
  have g2 : Go.bits .and .u64 (IntKind.u64.wrap (encV o p n) / 281474976710656) 255 = IntKind.u64.wrap p := by
    rw [uand_255, u64_wrap, u64_wrap]
    unfold encV
    omega
  have g3 : encV o p n % 4294967296 = n % 4294967296 := by
    unfold encV
    omega
  rw [if_pos g1, if_pos g2, if_pos g3]
  rw [wrap64_id (by omega) (by omega)]
  rcases hd with hd | hd
  · rw [if_pos hd]
  · rw [if_neg (by omega), hd]
    rfl
end Go.Proofs.Ytcjkekdmmjfgeaa.Pure
