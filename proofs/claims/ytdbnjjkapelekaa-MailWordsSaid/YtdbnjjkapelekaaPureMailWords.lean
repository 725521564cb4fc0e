/- MailWords, over numbers and texts: a message is released just if its rule's word stands nowhere in its text. For every input. -/
import Derived.Test.YtdbnjjkapelekaaF7
import Derived.Test.YtdbnjjkapelekaaBits
import Derived.Test.YtdbnjjkapelekaaHO
namespace Go.Proofs.Ytdbnjjkapelekaa.Pure
open Go.RowKit Go.Proofs.Ytdbnjjkapelekaa.X Go.Proofs.YtdbnjjkapelekaaW.PrintWords Go.Proofs.YtdbnjjkapelekaaW.PrintLast Go.Proofs.Ytdbnjjkapelekaa.Lib

theorem index_iff (w : List UInt8) : ∀ s : List UInt8, 0 ≤ Lib.index s w ↔ ∃ i, i ≤ s.length ∧ w.isPrefixOf (s.drop i) = true
  | [] => by
    show 0 ≤ (if w.isEmpty = true then (0 : Int) else -1) ↔ _
    cases w with
    | nil => simp
    | cons c w => simp
  | b :: l => by
    have ih := index_iff w l
    have hge := Lib.index_ge l w
    show 0 ≤ (if w.isPrefixOf (b :: l) = true then (0 : Int) else if (Lib.index l w == -1) = true then -1 else Lib.index l w + 1) ↔ _
    by_cases h : w.isPrefixOf (b :: l) = true
    · rw [if_pos h]
      exact ⟨fun _ => ⟨0, Nat.zero_le _, h⟩, fun _ => Int.le_refl _⟩
    · rw [if_neg h]
      by_cases h2 : Lib.index l w = -1
      · rw [if_pos (beq_iff_eq.2 h2)]
        constructor
        · intro h3; omega
        · rintro ⟨i, hi, hp⟩
          cases i with
          | zero => exact absurd hp h
          | succ i =>
            have : 0 ≤ Lib.index l w := ih.2 ⟨i, by simpa using hi, hp⟩
            omega
      · rw [if_neg (by simpa using h2)]
        constructor
        · intro _
          obtain ⟨i, hi, hp⟩ := ih.1 (by omega)
          exact ⟨i + 1, by simpa using hi, hp⟩
        · intro _; omega
/-- Does the word stand at this place of the text? -/
def occW (t w : ByteArray) (i : Nat) : Bool := (t.extract i (i + w.size)).toList == w.toList
theorem occ_prefix (t w : ByteArray) (i : Nat) (_h : i + w.size ≤ t.size) : occW t w i = w.data.toList.isPrefixOf (t.data.toList.drop i) := by
  have e1 : (t.extract i (i + w.size)).toList = (t.data.toList.drop i).take w.data.toList.length := by
    rw [Lib.toList_data]
    simp [List.extract_eq_take_drop]
  unfold occW
  rw [e1, Lib.toList_data, Bool.eq_iff_iff, beq_iff_eq, List.isPrefixOf_iff_prefix, List.prefix_iff_eq_take]
  exact eq_comm
theorem contains_iff (t w : ByteArray) (hw : 0 < w.size) : Lib.contains t.data.toList w.data.toList = true ↔ ∃ j, j + w.size ≤ t.size ∧ occW t w j = true := by
  have ht : t.data.toList.length = t.size := by simp
  have hl : w.data.toList.length = w.size := by simp
  unfold Lib.contains
  rw [decide_eq_true_eq, index_iff]
  constructor
  · rintro ⟨i, hi, hp⟩
    have h2 : i + w.size ≤ t.size := by
      have := (List.isPrefixOf_iff_prefix.1 hp).length_le
      rw [List.length_drop] at this
      omega
    exact ⟨i, h2, by rw [occ_prefix t w i h2]; exact hp⟩
  · rintro ⟨j, h2, ho⟩
    exact ⟨j, by omega, by rw [← occ_prefix t w j h2]; exact ho⟩
theorem contains_mid (a b w : ByteArray) (_hw : 0 < w.size) : Lib.contains ((a ++ w) ++ b).data.toList w.data.toList = true := by
  unfold Lib.contains
  rw [decide_eq_true_eq, index_iff]
  refine ⟨a.data.toList.length, by simp, ?_⟩
  have e : ((a ++ w) ++ b).data.toList = a.data.toList ++ (w.data.toList ++ b.data.toList) := by simp
  rw [e, List.drop_left, List.isPrefixOf_iff_prefix]
  exact List.prefix_append _ _
theorem words_known : donjonlaw18_known.f 100 = some true := by decide +kernel
theorem rel_one (k : Nat) (word text : ByteArray) (h : text.size < 4294967281) : mail_Release.f (k + 1) [⟨⟨2, 0, 1, 0⟩, ⟨0, 0, 3, 255⟩, word⟩] (⟨#[97]⟩ : ByteArray) 2 0 1 0 (⟨#[98]⟩ : ByteArray) 0 0 3 255 text = some (if Lib.contains text.data.toList word.data.toList = true then 6 else 0) := by
  unfold mail_Release.f mail_Rule.f
  rw [if_pos h, mail_Rule.l0]
  rfl
open Classical in
theorem words_l0 (word text : ByteArray) (_hw : 0 < word.size) (hw2 : word.size ≤ 12) (ht : text.size ≤ 40) (d : Nat) : ∀ (k i : Nat) (is : Bool), i + d = text.size + 1 → d + 1 < k →
    donjonlaw18_MailWords.l0 k word [⟨⟨2, 0, 1, 0⟩, ⟨0, 0, 3, 255⟩, word⟩] is (i : Int) (⟨#[97]⟩ : ByteArray) 2 0 1 0 (⟨#[98]⟩ : ByteArray) 0 0 3 255 text = some (((if Lib.contains text.data.toList word.data.toList = true then (6 : Int) else 0) == 6) == (is || decide (∃ j, i ≤ j ∧ j + word.size ≤ text.size ∧ occW text word j = true))) := by
  induction d with
  | zero =>
    intro k i is hi hk
    obtain ⟨k, rfl⟩ : ∃ m, k = m + 2 := ⟨k - 2, by omega⟩
    have hwr : wrap64 ((i : Int) + (word.size : Int)) = ((i + word.size : Nat) : Int) := by rw [wrap64_id (by omega) (by omega)]; omega
    rw [donjonlaw18_MailWords.l0, hwr, if_neg (by omega), rel_one k word text (by omega), Option.bind_some, decide_eq_false (fun ⟨j, h1, h2, _⟩ => by omega), Bool.or_false]
  | succ d ih =>
    intro k i is hi hk
    obtain ⟨k, rfl⟩ : ∃ m, k = m + 2 := ⟨k - 2, by omega⟩
    have hwr : wrap64 ((i : Int) + (word.size : Int)) = ((i + word.size : Nat) : Int) := by rw [wrap64_id (by omega) (by omega)]; omega
    have hw1 : wrap64 ((i : Int) + 1) = ((i + 1 : Nat) : Int) := by rw [wrap64_id (by omega) (by omega)]; omega
    rw [donjonlaw18_MailWords.l0, hwr, hw1]
    by_cases h : i + word.size ≤ text.size
    · rw [if_pos (by omega)]
      cases is with
      | true => rw [if_pos rfl, ih (k + 1) (i + 1) true (by omega) (by omega)]; simp only [Bool.true_or]
      | false =>
        rw [if_neg (by decide), if_pos (by omega), if_pos (by omega), Int.toNat_natCast, Int.toNat_natCast, ih (k + 1) (i + 1) _ (by omega) (by omega), Bool.false_or]
        congr 2
        show (occW text word i || _) = _
        cases ho : occW text word i with
        | true => rw [Bool.true_or, decide_eq_true ⟨i, Nat.le_refl _, h, ho⟩]
        | false =>
          rw [Bool.false_or]
          refine Bool.eq_iff_iff.2 ?_
          rw [decide_eq_true_eq, decide_eq_true_eq]
          constructor
          · rintro ⟨j, h1, h2, h3⟩; exact ⟨j, by omega, h2, h3⟩
          · rintro ⟨j, h1, h2, h3⟩
            refine ⟨j, ?_, h2, h3⟩
            by_cases e : i = j
            · subst e; rw [ho] at h3; exact absurd h3 (by simp)
            · omega
    · rw [if_neg (by omega), rel_one k word text (by omega), Option.bind_some, decide_eq_false (fun ⟨j, h1, h2, _⟩ => by omega), Bool.or_false]
open Classical in
theorem MailWords : ∀ (a0 : ByteArray) (a1 : ByteArray) (a2 : ByteArray), a0.size ≤ 140737488351232 → a1.size ≤ 140737488351232 → a2.size ≤ 140737488351232 → ∃ k, donjonlaw18_MailWords.f k a0 a1 a2 = some true := by
  intro w a b hw0 ha0 hb0
  refine ⟨100, ?_⟩
  unfold donjonlaw18_MailWords.f
  rw [words_known, Option.bind_some, if_pos rfl]
  by_cases c1 : (w.size : Int) = 0
  · rw [if_pos c1, donjonlaw18_MailWords.j0, if_pos rfl]
  rw [if_neg c1]
  by_cases c2 : (w.size : Int) > 12
  · rw [if_pos c2, donjonlaw18_MailWords.j0, if_pos rfl]
  rw [if_neg c2]
  have hwr : wrap64 ((a.size : Int) + (b.size : Int)) = ((a.size + b.size : Nat) : Int) := by rw [wrap64_id (by omega) (by omega)]; omega
  rw [hwr]
  by_cases c3 : ((a.size + b.size : Nat) : Int) > 20
  · rw [decide_eq_true c3, donjonlaw18_MailWords.j0, if_pos rfl]
  rw [decide_eq_false c3, donjonlaw18_MailWords.j0, if_neg (by decide)]
  have hB : donjonref4_Bottom.f = some (0, 0, 3, 255) := rfl
  have s1 : (a ++ w).size = a.size + w.size := ByteArray.size_append
  have s2 : (a ++ w ++ b).size = a.size + w.size + b.size := by rw [ByteArray.size_append, s1]
  have s3 : (a ++ b).size = a.size + b.size := ByteArray.size_append
  rw [hB, Option.bind_some, Option.bind_some, if_pos (by omega), if_pos (by omega), Option.bind_some]
  dsimp only
  rw [rel_one 98 w _ (by omega), Option.bind_some, if_pos (contains_mid a b w (by omega)), if_pos rfl, if_pos (by omega)]
  have h := words_l0 w (a ++ b) (by omega) (by omega) (by omega) ((a ++ b).size + 1) 99 0 false (by omega) (by omega)
  rw [show ((0 : Nat) : Int) = 0 from rfl] at h
  rw [h, Bool.false_or]
  congr 1
  have hc := contains_iff (a ++ b) w (by omega)
  by_cases hx : Lib.contains (a ++ b).data.toList w.data.toList = true
  · obtain ⟨j, h1, h2⟩ := hc.1 hx
    rw [if_pos hx, decide_eq_true ⟨j, Nat.zero_le _, h1, h2⟩]
    rfl
  · rw [if_neg hx, decide_eq_false (fun ⟨j, _, h1, h2⟩ => hx (hc.2 ⟨j, h1, h2⟩))]
    rfl
end Go.Proofs.Ytdbnjjkapelekaa.Pure
