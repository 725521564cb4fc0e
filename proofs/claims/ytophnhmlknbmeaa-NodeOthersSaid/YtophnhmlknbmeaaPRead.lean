/- What is written can be read: texts, labels, numbers as bytes. -/
import Derived.Test.YtophnhmlknbmeaaNMsg
import Derived.Test.YtophnhmlknbmeaaTxt
namespace Go.Proofs.Ytophnhmlknbmeaa.Pure
open Go.RowKit Go.Proofs.Ytophnhmlknbmeaa.X Go.Proofs.YtophnhmlknbmeaaW.PrintWords Go.Proofs.YtophnhmlknbmeaaW.PrintLast Go.Proofs.Ytophnhmlknbmeaa.Lib

theorem str_bytes (s : ByteArray) : strOfNums (bytesOf s) = s := by
  obtain ⟨⟨l⟩⟩ := s
  unfold strOfNums bytesOf
  congr 2
  rw [List.map_map]
  exact (List.map_congr_left (g := id) (fun x _ => by simp)).trans (List.map_id _)
theorem read_str (s : ByteArray) (r : List Int) (h : s.size ≤ 255) : pStr (encStr s ++ r) = some (s, r) := by
  unfold encStr
  have e : (s.size : Int) % 256 = (s.size : Int) := by omega
  have hl := bytesOf_length s
  rw [List.cons_append, e]
  simp only [pStr]
  rw [if_pos ⟨by omega, by omega, by rw [Int.toNat_natCast, List.length_append]; omega⟩, Int.toNat_natCast, List.take_left' hl, List.drop_left' hl, str_bytes]
theorem read_lab (a b c d : Int) (r : List Int) (ha : 0 ≤ a ∧ a < 256) (hb : 0 ≤ b ∧ b < 256) (hc : 0 ≤ c ∧ c < 256) (hd : 0 ≤ d ∧ d < 256) : pLab (encLab a b c d ++ r) = some ((a, b, c, d), r) := by
  have e : encLab a b c d ++ r = a :: b :: c :: d :: r := by
    unfold encLab
    rw [show a % 256 = a by omega, show b % 256 = b by omega, show c % 256 = c by omega, show d % 256 = d by omega]
    rfl
  rw [e]
  simp only [pLab]
  rw [if_pos ⟨ha, hb, hc, hd⟩]
theorem read_one (x : Int) (r : List Int) (h : 0 ≤ x ∧ x < 256) : pOne (encB x ++ r) = some (x, r) := by
  have e : encB x ++ r = x :: r := by
    unfold encB
    rw [show x % 256 = x by omega]
    rfl
  rw [e]
  simp only [pOne]
  rw [if_pos h]
theorem val_num (n : Int) (h0 : -9223372036854775808 ≤ n) (h1 : n ≤ 9223372036854775807) : valB (numB n) = n := by
  have e1 : wrap64 (0 * 256 + n / 72057594037927936 % 256) = n / 72057594037927936 % 256 := by unfold wrap64; omega
  have e2 : wrap64 (n / 72057594037927936 % 256 * 256 + n / 281474976710656 % 256) = n / 281474976710656 % 65536 := by unfold wrap64; omega
  have e3 : wrap64 (n / 281474976710656 % 65536 * 256 + n / 1099511627776 % 256) = n / 1099511627776 % 16777216 := by unfold wrap64; omega
  have e4 : wrap64 (n / 1099511627776 % 16777216 * 256 + n / 4294967296 % 256) = n / 4294967296 % 4294967296 := by unfold wrap64; omega
  have e5 : wrap64 (n / 4294967296 % 4294967296 * 256 + n / 16777216 % 256) = n / 16777216 % 1099511627776 := by unfold wrap64; omega
  have e6 : wrap64 (n / 16777216 % 1099511627776 * 256 + n / 65536 % 256) = n / 65536 % 281474976710656 := by unfold wrap64; omega
  have e7 : wrap64 (n / 65536 % 281474976710656 * 256 + n / 256 % 256) = n / 256 % 72057594037927936 := by unfold wrap64; omega
  have e8 : wrap64 (n / 256 % 72057594037927936 * 256 + n % 256) = n := by unfold wrap64; omega
  unfold valB numB
  simp only [List.foldl_cons, List.foldl_nil]
  rw [e1, e2, e3, e4, e5, e6, e7, e8]
theorem read_long (n : Int) (r : List Int) (h0 : -9223372036854775808 ≤ n) (h1 : n ≤ 9223372036854775807) : pLong (numB n ++ r) = some (n, r) := by
  unfold pLong
  have hl : (numB n).length = 8 := rfl
  have ht : (numB n ++ r).take 8 = numB n := List.take_left' hl
  have hd : (numB n ++ r).drop 8 = r := List.drop_left' hl
  have hall : ∀ x ∈ numB n, 0 ≤ x ∧ x < 256 := by
    intro x hx
    unfold numB at hx
    simp only [List.mem_cons, List.not_mem_nil, or_false] at hx
    omega
  rw [ht, hd, if_pos ⟨hl, hall⟩, val_num n h0 h1]
end Go.Proofs.Ytophnhmlknbmeaa.Pure
