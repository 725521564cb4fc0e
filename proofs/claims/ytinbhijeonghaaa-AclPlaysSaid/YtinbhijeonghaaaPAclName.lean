/- The document's names, in plain numbers. -/
import Derived.Test.YtinbhijeonghaaaF29
import Derived.Test.YtinbhijeonghaaaPAcl
namespace Go.Proofs.Ytinbhijeonghaaa.Pure
open Go.RowKit Go.Proofs.Ytinbhijeonghaaa.X Go.Proofs.YtinbhijeonghaaaW.PrintWords Go.Proofs.YtinbhijeonghaaaW.PrintLast Go.Proofs.Ytinbhijeonghaaa.Lib

/-- The document's name, byte by byte. -/
theorem ref_name_l0 (s : ByteArray) (hs : s.size ≤ 9223372036854775806) (d : Nat) : ∀ (k i : Nat), i + d = s.size → d < k →
    donjonref5_Name.l0 k s (i : Int) = some (decide (∀ j : Nat, j < s.size → i ≤ j → okSign (bt s (j : Int)) = true) && (decide (1 ≤ s.size) && decide (s.size ≤ 12))) := by
  induction d with
  | zero =>
    intro k i hi hk
    obtain ⟨k, rfl⟩ : ∃ m, k = m + 1 := ⟨k - 1, by omega⟩
    rw [donjonref5_Name.l0, if_neg (by omega), decide_eq_true (fun j h1 h2 => by omega), Bool.true_and]
    by_cases h1 : 1 ≤ s.size
    · rw [if_pos (by omega), decide_eq_true h1, Bool.true_and]
      congr 1
      by_cases h2 : s.size ≤ 12
      · rw [decide_eq_true h2, decide_eq_true (by omega)]
      · rw [decide_eq_false h2, decide_eq_false (by omega)]
    · rw [if_neg (by omega), decide_eq_false h1, Bool.false_and]
  | succ d ih =>
    intro k i hi hk
    obtain ⟨k, rfl⟩ : ∃ m, k = m + 1 := ⟨k - 1, by omega⟩
    have hnext := ih k (i + 1) (by omega) (by omega)
    have hw : wrap64 ((i : Int) + 1) = ((i + 1 : Nat) : Int) := by rw [wrap64_id (by omega) (by omega)]; omega
    have hbad : okSign (bt s (i : Int)) = false → (some false : Option Bool) = some (decide (∀ j : Nat, j < s.size → i ≤ j → okSign (bt s (j : Int)) = true) && (decide (1 ≤ s.size) && decide (s.size ≤ 12))) := by
      intro hb
      rw [decide_eq_false (fun h => by rw [h i (by omega) (Nat.le_refl _)] at hb; exact absurd hb (by simp)), Bool.false_and]
    have hgood : okSign (bt s (i : Int)) = true → donjonref5_Name.l0 k s ((i + 1 : Nat) : Int) = some (decide (∀ j : Nat, j < s.size → i ≤ j → okSign (bt s (j : Int)) = true) && (decide (1 ≤ s.size) && decide (s.size ≤ 12))) := by
      intro hg
      rw [hnext]
      congr 2
      by_cases h : ∀ j : Nat, j < s.size → i + 1 ≤ j → okSign (bt s (j : Int)) = true
      · rw [decide_eq_true h, decide_eq_true (fun j h1 h2 => ?_)]
        by_cases e : i = j
        · subst e; exact hg
        · exact h j h1 (by omega)
      · rw [decide_eq_false h, decide_eq_false (fun h2 => h (fun j h3 h4 => h2 j h3 (by omega)))]
    rw [donjonref5_Name.l0, if_pos (by omega), if_pos (by omega), hw]
    by_cases c1 : bt s (i : Int) < 97
    · rw [if_pos c1]
      by_cases c2 : bt s (i : Int) < 48
      · rw [if_pos c2]
        exact hbad (by unfold okSign; simp; omega)
      · rw [if_neg c2]
        by_cases c3 : bt s (i : Int) > 57
        · rw [if_pos c3]
          exact hbad (by unfold okSign; simp; omega)
        · rw [if_neg c3]
          exact hgood (by unfold okSign; simp; omega)
    · rw [if_neg c1]
      by_cases c4 : bt s (i : Int) > 122
      · rw [if_pos c4]
        by_cases c2 : bt s (i : Int) < 48
        · omega
        · rw [if_neg c2, if_pos (by omega)]
          exact hbad (by unfold okSign; simp; omega)
      · rw [if_neg c4]
        exact hgood (by unfold okSign; simp; omega)
theorem ref_name_f (s : ByteArray) (hs : s.size ≤ 9223372036854775806) (k : Nat) (hk : s.size < k) : donjonref5_Name.f k s = some (okName s) := by
  unfold donjonref5_Name.f
  have h := ref_name_l0 s hs s.size k 0 (by omega) hk
  have e : ((0 : Nat) : Int) = 0 := rfl
  rw [e] at h
  rw [h]
  unfold okName
  congr 2
  by_cases hall : ∀ j : Nat, j < s.size → okSign (bt s (j : Int)) = true
  · rw [(path_Name.all_iff s).2 hall, decide_eq_true (fun j h1 _ => hall j h1)]
  · have h2 : (bytesOf s).all okSign = false := by
      rw [Bool.eq_false_iff]
      intro h3
      exact hall ((path_Name.all_iff s).1 h3)
    rw [h2, decide_eq_false (fun h3 => hall (fun j h1 => h3 j h1 (by omega)))]
theorem ref_who_f (s : ByteArray) (hs : s.size ≤ 9223372036854775806) (k : Nat) (hk : s.size < k) : donjonref5_who.f k s = some (whoB s) := by
  unfold donjonref5_who.f whoB
  by_cases h : s.toList = [42]
  · rw [if_pos h]
    simp [h]
  · rw [if_neg h, ref_name_f s hs k hk, Option.bind_some]
    have : (s.toList == [42]) = false := beq_eq_false_iff_ne.mpr h
    rw [this, Bool.false_or]
end Go.Proofs.Ytinbhijeonghaaa.Pure
