/- The instructions' numbers, as they may be. -/
import Derived.Test.YtnepinkookbanaaDoorF39
import Derived.Test.YtnepinkookbanaaDoorF50
import Derived.Test.YtnepinkookbanaaDoorF33
import Derived.Test.YtnepinkookbanaaDoorF32
import Derived.Test.YtnepinkookbanaaDoorBits
namespace Go.Proofs.YtnepinkookbanaaDoor.Pure
open Go.RowKit Go.Proofs.YtnepinkookbanaaDoor.X Go.Proofs.YtnepinkookbanaaDoorW.PrintWords Go.Proofs.YtnepinkookbanaaDoorW.PrintLast Go.Proofs.YtnepinkookbanaaDoor.Lib

/-- May an instruction be written? -/
def fits (o p n : Int) : Prop := 0 ≤ o ∧ o < 23 ∧ 0 ≤ p ∧ p < 4 ∧ -2147483648 ≤ n ∧ n ≤ 2147483647
def encV (o p n : Int) : Int := o * 72057594037927936 + p * 281474976710656 + n % 4294967296
def enc (o p n : Int) : Int × Int := if o < 0 ∨ 23 ≤ o then (0, 3) else if p < 0 ∨ 4 ≤ p ∨ n < -2147483648 ∨ 2147483647 < n then (0, 1) else (encV o p n, 0)
theorem word_of {o p n : Int} (h : fits o p n) : Go.bits .or .i64 (Go.bits .or .i64 (wrap64 (o * 72057594037927936)) (wrap64 (p * 281474976710656))) (n % 4294967296) = encV o p n := by
  obtain ⟨h1, h2, h3, h4, h5, h6⟩ := h
  unfold encV
  rw [wrap64_id (by omega) (by omega), wrap64_id (by omega) (by omega)]
  rw [or_apart 56 (o * 72057594037927936) (p * 281474976710656) (by omega) (by omega) (by omega) (by omega) (by omega) (by omega)]
  rw [or_apart 48 (o * 72057594037927936 + p * 281474976710656) (n % 4294967296) (by omega) (by omega) (by omega) (by omega) (by omega) (by omega)]
theorem encode_f (k : Nat) (o p n : Int) : isa_Encode.f (k + 1) o p n = some (enc o p n) := by
  unfold isa_Encode.f enc
  by_cases h1 : o < 0
  · rw [if_pos h1, if_pos (.inl h1)]
    simp [isa_Encode.j0]
  rw [if_neg h1]
  by_cases h2 : 23 ≤ o
  · rw [if_pos (.inr h2)]
    have : decide (o ≥ 23) = true := decide_eq_true h2
    rw [this]
    simp [isa_Encode.j0]
  have h2' : decide (o ≥ 23) = false := decide_eq_false (by omega)
  rw [if_neg (by omega), h2']
  simp only [isa_Encode.j0]
  rw [if_neg (by simp)]
  by_cases h3 : p < 0
  · rw [if_pos h3, if_pos (by omega)]
  rw [if_neg h3]
  by_cases h4 : 4 ≤ p
  · rw [if_pos h4, if_pos (by omega)]
  rw [if_neg (by omega)]
  unfold isa_short.f
  by_cases h5 : n ≥ -2147483648
  · rw [if_pos h5]
    simp only [Option.bind_some]
    by_cases h6 : n ≤ 2147483647
    · rw [decide_eq_true h6, if_pos rfl, if_neg (by omega), word_of ⟨by omega, by omega, by omega, by omega, by omega, by omega⟩]
    · rw [decide_eq_false h6, if_neg (by simp), if_pos (by omega)]
  · rw [if_neg h5]
    simp only [Option.bind_some]
    rw [if_neg (by simp), if_pos (by omega)]
theorem ref_encode_f (k : Nat) (o p n : Int) : donjonref15_Encode.f (k + 1) o p n = some (enc o p n) := by
  unfold donjonref15_Encode.f enc
  by_cases h1 : o < 0
  · rw [if_pos h1, if_pos (.inl h1)]
    simp [donjonref15_Encode.j0]
  rw [if_neg h1]
  by_cases h2 : 23 ≤ o
  · rw [if_pos (.inr h2)]
    have : decide (o > 22) = true := decide_eq_true (by omega)
    rw [this]
    simp [donjonref15_Encode.j0]
  have h2' : decide (o > 22) = false := decide_eq_false (by omega)
  rw [if_neg (by omega), h2']
  simp only [donjonref15_Encode.j0]
  rw [if_neg (by simp)]
  by_cases h3 : p < 0
  · rw [if_pos h3, if_pos (by omega)]
  rw [if_neg h3]
  by_cases h4 : 4 ≤ p
  · rw [if_pos (by omega), if_pos (by omega)]
  rw [if_neg (by omega)]
  by_cases h5 : n < -2147483648
  · rw [if_pos h5, if_pos (by omega)]
  rw [if_neg h5]
  by_cases h6 : n > 2147483647
  · rw [if_pos h6, if_pos (by omega)]
  rw [if_neg h6, if_neg (by omega), word_of ⟨by omega, by omega, by omega, by omega, by omega, by omega⟩]
theorem enc_ok {o p n : Int} (h : fits o p n) : enc o p n = (encV o p n, 0) := by
  obtain ⟨h1, h2, h3, h4, h5, h6⟩ := h
  unfold enc
  rw [if_neg (by omega), if_neg (by omega)]
theorem enc_fits {o p n : Int} (h : (enc o p n).2 = 0) : fits o p n := by
  unfold enc at h
  split at h
  · exact absurd h (by decide)
  · split at h
    · exact absurd h (by decide)
    · exact ⟨by omega, by omega, by omega, by omega, by omega, by omega⟩

theorem good_f (a b c : Int) : ∃ o p n, donjonlaw15_Good.f a b c = some (o, p, n) ∧ fits o p n := by
  unfold donjonlaw15_Good.f donjonlaw15_within.f
  obtain ⟨r1, e1, h1, h2, _⟩ := within_small (a := a) (n := 23) (by omega) (by omega)
  obtain ⟨r2, e2, h3, h4, _⟩ := within_small (a := b) (n := 4) (by omega) (by omega)
  obtain ⟨r3, e3, h5, h6, _⟩ := within_small (a := c) (n := 4294967296) (by omega) (by omega)
  rw [e1, e2, e3]
  simp only [Option.bind_some]
  rw [wrap64_id (by omega) (by omega)]
  exact ⟨_, _, _, rfl, by omega, by omega, by omega, by omega, by omega, by omega⟩
theorem known15 (k : Nat) : donjonlaw15_known.f (k + 1) = some true := by
  unfold donjonlaw15_known.f
  rw [encode_f]
  decide
end Go.Proofs.YtnepinkookbanaaDoor.Pure
