/- NodeOthers, over numbers and lists: messages and entries are written as the document says, and read again as they were. For every input. -/
import Derived.Test.YtophnhmlknbmeaaF4
import Derived.Test.YtophnhmlknbmeaaHO
import Derived.Test.YtophnhmlknbmeaaPRead
import Derived.Test.YtophnhmlknbmeaaPLab4
namespace Go.Proofs.Ytophnhmlknbmeaa.Pure
open Go.RowKit Go.Proofs.Ytophnhmlknbmeaa.X Go.Proofs.YtophnhmlknbmeaaW.PrintWords Go.Proofs.YtophnhmlknbmeaaW.PrintLast Go.Proofs.Ytophnhmlknbmeaa.Lib

theorem ref_text (l : List Int) (s : ByteArray) (hl : l.length ≤ 1000000) (hs : s.size ≤ 255) : donjonref10_text.f l s = some (l ++ encStr s) := by
  unfold donjonref10_text.f encStr
  rw [if_pos (by omega), Option.bind_some, if_pos (by rw [List.length_append, List.length_singleton]; omega), List.append_assoc]
  rfl
theorem ref_lab (l : List Int) (a b c d : Int) (hl : l.length ≤ 1000000) : donjonref10_lab.f l a b c d = some (l ++ encLab a b c d) := by
  unfold donjonref10_lab.f encLab
  rw [Option.bind_some, if_pos (by simp; omega)]
theorem ref_num (l : List Int) (n : Int) (hl : l.length ≤ 1000000) (k : Nat) : donjonref10_num.f (k + 9) l n = some (l ++ numB n) := by
  have w : ∀ i : Int, 0 ≤ i → i ≤ 8 → wrap64 (8 * i) = 8 * i ∧ wrap64 (i - 1) = i - 1 := fun i h0 h1 => ⟨wrap64_id (by omega) (by omega), wrap64_id (by omega) (by omega)⟩
  unfold donjonref10_num.f
  have hs : ∀ (i : Nat), i ≤ 63 → shr .u64 (IntKind.u64.wrap n) (i : Int) = n % 18446744073709551616 / 2 ^ i := by
    intro i hi
    unfold shr
    rw [u64_wrap, Int.toNat_natCast, Nat.min_eq_left (by show i ≤ 64; omega)]
  rw [donjonref10_num.l0, if_pos (by omega), (w 7 (by omega) (by omega)).1, if_pos (by omega), if_pos (by omega), (w 7 (by omega) (by omega)).2]
  rw [show (7 - 1 : Int) = 6 by omega, donjonref10_num.l0, if_pos (by omega), (w 6 (by omega) (by omega)).1, if_pos (by omega), if_pos (by simp; omega), (w 6 (by omega) (by omega)).2]
  rw [show (6 - 1 : Int) = 5 by omega, donjonref10_num.l0, if_pos (by omega), (w 5 (by omega) (by omega)).1, if_pos (by omega), if_pos (by simp; omega), (w 5 (by omega) (by omega)).2]
  rw [show (5 - 1 : Int) = 4 by omega, donjonref10_num.l0, if_pos (by omega), (w 4 (by omega) (by omega)).1, if_pos (by omega), if_pos (by simp; omega), (w 4 (by omega) (by omega)).2]
  rw [show (4 - 1 : Int) = 3 by omega, donjonref10_num.l0, if_pos (by omega), (w 3 (by omega) (by omega)).1, if_pos (by omega), if_pos (by simp; omega), (w 3 (by omega) (by omega)).2]
  rw [show (3 - 1 : Int) = 2 by omega, donjonref10_num.l0, if_pos (by omega), (w 2 (by omega) (by omega)).1, if_pos (by omega), if_pos (by simp; omega), (w 2 (by omega) (by omega)).2]
  rw [show (2 - 1 : Int) = 1 by omega, donjonref10_num.l0, if_pos (by omega), (w 1 (by omega) (by omega)).1, if_pos (by omega), if_pos (by simp; omega), (w 1 (by omega) (by omega)).2]
  rw [show (1 - 1 : Int) = 0 by omega, donjonref10_num.l0, if_pos (by omega), (w 0 (by omega) (by omega)).1, if_pos (by omega), if_pos (by simp; omega), (w 0 (by omega) (by omega)).2]
  rw [donjonref10_num.l0, if_neg (by omega)]
  have p7 : shr .u64 (IntKind.u64.wrap n) (8 * 7) % 256 = n / 72057594037927936 % 256 := by rw [show (8 * 7 : Int) = ((56 : Nat) : Int) by omega, hs 56 (by omega)]; omega
  have p6 : shr .u64 (IntKind.u64.wrap n) (8 * 6) % 256 = n / 281474976710656 % 256 := by rw [show (8 * 6 : Int) = ((48 : Nat) : Int) by omega, hs 48 (by omega)]; omega
  have p5 : shr .u64 (IntKind.u64.wrap n) (8 * 5) % 256 = n / 1099511627776 % 256 := by rw [show (8 * 5 : Int) = ((40 : Nat) : Int) by omega, hs 40 (by omega)]; omega
  have p4 : shr .u64 (IntKind.u64.wrap n) (8 * 4) % 256 = n / 4294967296 % 256 := by rw [show (8 * 4 : Int) = ((32 : Nat) : Int) by omega, hs 32 (by omega)]; omega
  have p3 : shr .u64 (IntKind.u64.wrap n) (8 * 3) % 256 = n / 16777216 % 256 := by rw [show (8 * 3 : Int) = ((24 : Nat) : Int) by omega, hs 24 (by omega)]; omega
  have p2 : shr .u64 (IntKind.u64.wrap n) (8 * 2) % 256 = n / 65536 % 256 := by rw [show (8 * 2 : Int) = ((16 : Nat) : Int) by omega, hs 16 (by omega)]; omega
  have p1 : shr .u64 (IntKind.u64.wrap n) (8 * 1) % 256 = n / 256 % 256 := by rw [show (8 * 1 : Int) = ((8 : Nat) : Int) by omega, hs 8 (by omega)]; omega
  have p0 : shr .u64 (IntKind.u64.wrap n) (8 * 0) % 256 = n % 256 := by rw [show (8 * 0 : Int) = ((0 : Nat) : Int) by omega, hs 0 (by omega)]; omega
  rw [p7, p6, p5, p4, p3, p2, p1, p0]
  unfold numB
  simp
theorem NodeOthers : ∀ (a0_0 : ByteArray) (a0_1 : Int) (a0_2 : Int) (a0_3 : Int) (a0_4 : Int) (a0_5 : ByteArray) (a0_6 : Int) (a0_7 : Int) (a0_8 : Int) (a0_9 : Int) (a0_10 : ByteArray) (a1_0 : Int) (a1_1 : Int) (a1_2 : Int) (a1_3 : Int) (a1_4 : Int) (a1_5 : ByteArray) (a1_6 : Int) (a1_7 : ByteArray) (a1_8 : Int), a0_0.size ≤ 140737488351232 → (Lit.int .i64 a0_1).wf = true → (Lit.int .i64 a0_2).wf = true → (Lit.int .i64 a0_3).wf = true → (Lit.int .i64 a0_4).wf = true → a0_5.size ≤ 140737488351232 → (Lit.int .i64 a0_6).wf = true → (Lit.int .i64 a0_7).wf = true → (Lit.int .i64 a0_8).wf = true → (Lit.int .i64 a0_9).wf = true → a0_10.size ≤ 140737488351232 → (Lit.int .i64 a1_0).wf = true → (Lit.int .i64 a1_1).wf = true → (Lit.int .i64 a1_2).wf = true → (Lit.int .i64 a1_3).wf = true → (Lit.int .i64 a1_4).wf = true → a1_5.size ≤ 140737488351232 → (Lit.int .i64 a1_6).wf = true → a1_7.size ≤ 140737488351232 → (Lit.int .i64 a1_8).wf = true → ∃ k, donjonlaw10_NodeOthers.f k a0_0 a0_1 a0_2 a0_3 a0_4 a0_5 a0_6 a0_7 a0_8 a0_9 a0_10 a1_0 a1_1 a1_2 a1_3 a1_4 a1_5 a1_6 a1_7 a1_8 = some true := by
  intro s1 x1 x2 x3 x4 s2 y1 y2 y3 y4 s3 q z1 z2 z3 z4 s4 v s5 u _ _ _ _ _ _ _ _ _ _ _ hq _ _ _ _ _ _ _ _
  refine ⟨20, ?_⟩
  have hq' : -9223372036854775808 ≤ q ∧ q ≤ 9223372036854775807 := by
    simp [Lit.wf, IntKind.min, IntKind.max, IntKind.bits, IntKind.signed] at hq
    omega
  obtain ⟨hq0, hq1⟩ := hq'
  unfold donjonlaw10_NodeOthers.f
  rw [show donjonlaw10_known.f = some true by decide +kernel, Option.bind_some, if_pos rfl]
  have hskip : ∀ k, donjonlaw10_NodeOthers.j0 (k + 1) true s1 x1 x2 x3 x4 s2 y1 y2 y3 y4 s3 q z1 z2 z3 z4 s4 v s5 u = some true := fun k => by rw [donjonlaw10_NodeOthers.j0, if_pos rfl]
  by_cases c1 : (s1.size : Int) > 255
  · rw [if_pos c1]; exact hskip 19
  rw [if_neg c1]
  by_cases c2 : (s2.size : Int) > 255
  · rw [if_pos c2]; exact hskip 19
  rw [if_neg c2]
  by_cases c3 : (s3.size : Int) > 255
  · rw [if_pos c3]; exact hskip 19
  rw [if_neg c3]
  by_cases c4 : (s4.size : Int) > 255
  · rw [if_pos c4]; exact hskip 19
  rw [if_neg c4]
  by_cases c5 : (s5.size : Int) > 255
  · rw [decide_eq_true c5]; exact hskip 19
  rw [decide_eq_false c5]
  obtain ⟨t, et, t0, t1, _⟩ := within_small (a := v) (n := 256) (by omega) (by omega)
  obtain ⟨r, er, r0, r1, _⟩ := within_small (a := u) (n := 256) (by omega) (by omega)
  rw [donjonlaw10_NodeOthers.j0, if_neg (by decide), good4_f, Option.bind_some, good4_f, Option.bind_some, good4_f, Option.bind_some, show donjonlaw10_within.f v 256 = some t from et, Option.bind_some, show donjonlaw10_within.f u 256 = some r from er, Option.bind_some]
  dsimp only
  have b1 : (0 ≤ x1 % 4 ∧ x1 % 4 < 256) ∧ (0 ≤ x2 % 256 ∧ x2 % 256 < 256) ∧ (0 ≤ x3 % 4 ∧ x3 % 4 < 256) ∧ (0 ≤ x4 % 256 ∧ x4 % 256 < 256) := by omega
  have b2 : (0 ≤ y1 % 4 ∧ y1 % 4 < 256) ∧ (0 ≤ y2 % 256 ∧ y2 % 256 < 256) ∧ (0 ≤ y3 % 4 ∧ y3 % 4 < 256) ∧ (0 ≤ y4 % 256 ∧ y4 % 256 < 256) := by omega
  have b3 : (0 ≤ z1 % 4 ∧ z1 % 4 < 256) ∧ (0 ≤ z2 % 256 ∧ z2 % 256 < 256) ∧ (0 ≤ z3 % 4 ∧ z3 % 4 < 256) ∧ (0 ≤ z4 % 256 ∧ z4 % 256 < 256) := by omega
  generalize x1 % 4 = a1 at b1 ⊢
  generalize x2 % 256 = a2 at b1 ⊢
  generalize x3 % 4 = a3 at b1 ⊢
  generalize x4 % 256 = a4 at b1 ⊢
  generalize y1 % 4 = a5 at b2 ⊢
  generalize y2 % 256 = a6 at b2 ⊢
  generalize y3 % 4 = a7 at b2 ⊢
  generalize y4 % 256 = a8 at b2 ⊢
  generalize z1 % 4 = d1 at b3 ⊢
  generalize z2 % 256 = d2 at b3 ⊢
  generalize z3 % 4 = d3 at b3 ⊢
  generalize z4 % 256 = d4 at b3 ⊢
  have l1 := encStr_length s1
  have l2 := encStr_length s2
  have l3 := encStr_length s3
  have l4 := encStr_length s4
  have l5 := encStr_length s5
  have hem : node_EncodeMessage.f s1 a1 a2 a3 a4 s2 a5 a6 a7 a8 s3 = some (encStr s1 ++ (encLab a1 a2 a3 a4 ++ (encStr s2 ++ (encLab a5 a6 a7 a8 ++ encStr s3)))) := by
    unfold node_EncodeMessage.f
    rw [if_pos (by omega)]
  have hee : node_EncodeEntry.f q d1 d2 d3 d4 s4 t s5 r = some (numB q ++ (encLab d1 d2 d3 d4 ++ (encStr s4 ++ (encB t ++ (encStr s5 ++ encB r))))) := by
    unfold node_EncodeEntry.f
    rw [if_pos (by omega)]
  have hpm : node_ParseMessage.f (encStr s1 ++ (encLab a1 a2 a3 a4 ++ (encStr s2 ++ (encLab a5 a6 a7 a8 ++ encStr s3)))) = some (s1, a1, a2, a3, a4, s2, a5, a6, a7, a8, s3, 0) := by
    have h3 := read_str s3 [] (by omega)
    rw [List.append_nil] at h3
    unfold node_ParseMessage.f
    rw [read_str s1 _ (by omega), Option.bind_some, read_lab a1 a2 a3 a4 _ b1.1 b1.2.1 b1.2.2.1 b1.2.2.2, Option.bind_some, read_str s2 _ (by omega), Option.bind_some, read_lab a5 a6 a7 a8 _ b2.1 b2.2.1 b2.2.2.1 b2.2.2.2, Option.bind_some, h3, Option.bind_some, if_pos ⟨rfl, by simp [l1, l2, l3, encLab]; omega⟩]
  have hpe : node_ParseEntry.f (numB q ++ (encLab d1 d2 d3 d4 ++ (encStr s4 ++ (encB t ++ (encStr s5 ++ encB r))))) = some (q, d1, d2, d3, d4, s4, t, s5, r, 0) := by
    have h3 := read_one r [] ⟨r0, r1⟩
    rw [List.append_nil] at h3
    unfold node_ParseEntry.f
    rw [read_long q _ hq0 hq1, Option.bind_some, read_lab d1 d2 d3 d4 _ b3.1 b3.2.1 b3.2.2.1 b3.2.2.2, Option.bind_some, read_str s4 _ (by omega), Option.bind_some, read_one t _ ⟨t0, t1⟩, Option.bind_some, read_str s5 _ (by omega), Option.bind_some, h3, Option.bind_some, if_pos ⟨rfl, by simp [l4, l5, encLab, encB, numB]; omega⟩]
  have hrm : donjonref10_EncodeMessage.f s1 a1 a2 a3 a4 s2 a5 a6 a7 a8 s3 = some (encStr s1 ++ (encLab a1 a2 a3 a4 ++ (encStr s2 ++ (encLab a5 a6 a7 a8 ++ encStr s3)))) := by
    unfold donjonref10_EncodeMessage.f
    rw [ref_text _ _ (by simp) (by omega), Option.bind_some, ref_lab _ _ _ _ _ (by simp [l1]; omega), Option.bind_some, ref_text _ _ (by simp [l1, encLab]; omega) (by omega), Option.bind_some, ref_lab _ _ _ _ _ (by simp [l1, l2, encLab]; omega), Option.bind_some, ref_text _ _ (by simp [l1, l2, encLab]; omega) (by omega), Option.bind_some]
    simp
  have hre : donjonref10_EncodeEntry.f 19 q d1 d2 d3 d4 s4 t s5 r = some (numB q ++ (encLab d1 d2 d3 d4 ++ (encStr s4 ++ (encB t ++ (encStr s5 ++ encB r))))) := by
    unfold donjonref10_EncodeEntry.f
    rw [ref_num [] q (by simp) 10, Option.bind_some, ref_lab _ _ _ _ _ (by simp [numB]), Option.bind_some, ref_text _ _ (by simp [numB, encLab]) (by omega), Option.bind_some, Option.bind_some, if_pos (by simp [numB, encLab, l4]; omega), ref_text _ _ (by simp [numB, encLab, l4]; omega) (by omega), Option.bind_some, Option.bind_some, if_pos (by simp [numB, encLab, l4, l5]; omega)]
    simp [encB]
  rw [hem, Option.bind_some, hee, Option.bind_some, hpm, Option.bind_some, hpe, Option.bind_some, hrm, Option.bind_some, if_pos rfl, hre, Option.bind_some, if_pos rfl]
  dsimp only
  rw [if_pos rfl, if_pos rfl, if_pos (by simp)]
  simp
end Go.Proofs.Ytophnhmlknbmeaa.Pure
