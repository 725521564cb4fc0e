/- What a check of users says, in plain numbers and texts. -/
import Derived.Test.YtknfjempngdhpaaF5
import Derived.Test.YtknfjempngdhpaaTxt
namespace Go.Proofs.Ytknfjempngdhpaa.Pure
open Go.RowKit Go.Proofs.Ytknfjempngdhpaa.X Go.Proofs.YtknfjempngdhpaaW.PrintWords Go.Proofs.YtknfjempngdhpaaW.PrintLast Go.Proofs.Ytknfjempngdhpaa.Lib

def keyC (l : List S39) (i : Nat) : List UInt8 := (rd_T39 l (i : Int)).f0.toList
def labB (s c i d : Int) : Bool := decide (0 ≤ s) && (decide (s ≤ 3) && (decide (0 ≤ c) && (decide (c ≤ 255) && (decide (0 ≤ i) && (decide (i ≤ 3) && (decide (0 ≤ d) && decide (d ≤ 255)))))))
theorem lcheck_f (s c i d : Int) : label_Check.f s c i d = some (if labB s c i d = true then 0 else 1) := by
  unfold label_Check.f label_level.f label_cats.f labB
  by_cases h1 : s ≥ 0
  · rw [if_pos h1, Option.bind_some]
    by_cases h2 : s ≤ 3
    · rw [decide_eq_true h2, if_pos rfl]
      by_cases h3 : i ≥ 0
      · rw [if_pos h3, Option.bind_some]
        by_cases h4 : i ≤ 3
        · rw [decide_eq_true h4, if_pos rfl]
          by_cases h5 : c ≥ 0
          · rw [if_pos h5, Option.bind_some]
            by_cases h6 : c ≤ 255
            · rw [decide_eq_true h6, if_pos rfl]
              by_cases h7 : d ≥ 0
              · rw [if_pos h7, Option.bind_some]
                by_cases h8 : d ≤ 255
                · rw [decide_eq_true h8, if_pos rfl, if_pos (by simp; omega)]
                · rw [decide_eq_false h8, if_neg (by simp), if_neg (by simp)]
              · rw [if_neg h7, Option.bind_some, if_neg (by simp), if_neg (by simp; omega)]
            · rw [decide_eq_false h6, if_neg (by simp), if_neg (by simp)]
          · rw [if_neg h5, Option.bind_some, if_neg (by simp), if_neg (by simp; omega)]
        · rw [decide_eq_false h4, if_neg (by simp), if_neg (by simp)]
      · rw [if_neg h3, Option.bind_some, if_neg (by simp), if_neg (by simp; omega)]
    · rw [decide_eq_false h2, if_neg (by simp), if_neg (by simp)]
  · rw [if_neg h1, Option.bind_some, if_neg (by simp), if_neg (by simp; omega)]
/-- Is the user at a place such as may be? -/
def goodC (l : List S39) (i : Nat) : Bool :=
  okName (rd_T39 l (i : Int)).f0 && ((decide (i = 0) || Op.bytesLess (keyC l (i - 1)) (keyC l i)) && labB (rd_T39 l (i : Int)).f3.f0 (rd_T39 l (i : Int)).f3.f1 (rd_T39 l (i : Int)).f3.f2 (rd_T39 l (i : Int)).f3.f3)
/-- What is wrong with users. -/
def ucheckV (l : List S39) : Int := if l.length > 16 then 4 else if (List.range l.length).all (goodC l) = true then 0 else 1
theorem goodC_split {l : List S39} {i : Nat} : goodC l i = true ↔ okName (rd_T39 l (i : Int)).f0 = true ∧ (i = 0 ∨ Op.bytesLess (keyC l (i - 1)) (keyC l i) = true) ∧ labB (rd_T39 l (i : Int)).f3.f0 (rd_T39 l (i : Int)).f3.f1 (rd_T39 l (i : Int)).f3.f2 (rd_T39 l (i : Int)).f3.f3 = true := by
  unfold goodC
  simp only [Bool.and_eq_true, Bool.or_eq_true, decide_eq_true_eq]
open Classical in
theorem ucheck_l0 (l : List S39) (hl : l.length ≤ 16) (d : Nat) : ∀ (k i : Nat), i + d = l.length → 2 * d < k →
    user_Check.l0 k l l (l.length : Int) (i : Int) = some (if ∀ j, i ≤ j → j < l.length → goodC l j = true then 0 else 1) := by
  induction d with
  | zero =>
    intro k i hi hk
    obtain ⟨k, rfl⟩ : ∃ m, k = m + 1 := ⟨k - 1, by omega⟩
    rw [user_Check.l0, if_neg (by omega), if_pos (fun j h1 h2 => by omega)]
  | succ d ih =>
    intro k i hi hk
    obtain ⟨k, rfl⟩ : ∃ m, k = m + 2 := ⟨k - 2, by omega⟩
    have hnext := ih k (i + 1) (by omega) (by omega)
    have ecast : ((i + 1 : Nat) : Int) = (i : Int) + 1 := by omega
    have hw : wrap64 ((i : Int) + 1) = ((i + 1 : Nat) : Int) := by rw [ecast]; exact wrap64_id (by omega) (by omega)
    have hbad : ¬ goodC l i = true → (if ∀ j, i ≤ j → j < l.length → goodC l j = true then (0 : Int) else 1) = 1 := by
      intro hb
      exact if_neg (fun h => hb (h i (by omega) (by omega)))
    have hgood : goodC l i = true → (if ∀ j, i ≤ j → j < l.length → goodC l j = true then (0 : Int) else 1) = (if ∀ j, i + 1 ≤ j → j < l.length → goodC l j = true then (0 : Int) else 1) := by
      intro hg
      by_cases h : ∀ j, i + 1 ≤ j → j < l.length → goodC l j = true
      · rw [if_pos h, if_pos (fun j h1 h2 => ?_)]
        by_cases e : i = j
        · subst e; exact hg
        · exact h j (by omega) h2
      · rw [if_neg h, if_neg (fun h2 => h (fun j h3 h4 => h2 j (by omega) h4))]
    have hj : ∀ b : Bool, (b = true → ¬ goodC l i = true) → (b = false → goodC l i = labB (rd_T39 l (i : Int)).f3.f0 (rd_T39 l (i : Int)).f3.f1 (rd_T39 l (i : Int)).f3.f2 (rd_T39 l (i : Int)).f3.f3) → user_Check.j1 (k + 1) l l (l.length : Int) (i : Int) b ((rd_T39 l (i : Int)).f0) ((rd_T39 l (i : Int)).f1) ((rd_T39 l (i : Int)).f2) ((rd_T39 l (i : Int)).f3.f0) ((rd_T39 l (i : Int)).f3.f1) ((rd_T39 l (i : Int)).f3.f2) ((rd_T39 l (i : Int)).f3.f3) ((rd_T39 l (i : Int)).f4) = some (if ∀ j, i ≤ j → j < l.length → goodC l j = true then 0 else 1) := by
      intro b h1 h2
      rw [user_Check.j1]
      cases b with
      | true => rw [if_pos rfl, hbad (h1 rfl)]
      | false =>
        have h3 := h2 rfl
        rw [if_neg (by simp), lcheck_f, Option.bind_some, hw, hnext]
        by_cases c : labB (rd_T39 l (i : Int)).f3.f0 (rd_T39 l (i : Int)).f3.f1 (rd_T39 l (i : Int)).f3.f2 (rd_T39 l (i : Int)).f3.f3 = true
        · rw [if_pos c, if_pos rfl, hgood (by rw [h3]; exact c)]
        · rw [if_neg c, if_neg (by decide), hbad (by rw [h3]; exact c)]
    rw [user_Check.l0, if_pos (by omega), if_pos (by omega), if_pos (by omega)]
    unfold path_Name.f
    rw [Option.bind_some]
    by_cases c1 : okName (rd_T39 l (i : Int)).f0 = true
    · rw [if_pos c1]
      by_cases c2 : (i : Int) > 0
      · have hp : wrap64 ((i : Int) - 1) = ((i - 1 : Nat) : Int) := by rw [wrap64_id (by omega) (by omega)]; omega
        rw [if_pos c2, hp, if_pos (by omega), if_pos (by omega)]
        refine hj _ (fun h h2 => ?_) (fun h => ?_)
        · have h3 := (goodC_split.1 h2).2.1
          unfold keyC at h3
          rcases h3 with h3 | h3
          · omega
          · rw [h3] at h
            exact absurd h (by simp)
        · have h3 : Op.bytesLess (keyC l (i - 1)) (keyC l i) = true := by unfold keyC; simpa using h
          unfold goodC
          rw [c1, h3, Bool.or_true, Bool.true_and, Bool.true_and]
      · rw [if_neg c2]
        refine hj false (fun h => absurd h (by simp)) (fun _ => ?_)
        unfold goodC
        rw [c1, decide_eq_true (by omega : i = 0), Bool.true_or, Bool.true_and, Bool.true_and]
    · rw [if_neg c1]
      refine hj true (fun _ h2 => c1 (goodC_split.1 h2).1) (fun h => absurd h (by simp))
open Classical in
theorem ucheckV_of (l : List S39) (hl : l.length ≤ 16) : ucheckV l = (if ∀ j, 0 ≤ j → j < l.length → goodC l j = true then 0 else 1) := by
  unfold ucheckV
  rw [if_neg (by omega)]
  by_cases h : ∀ j, 0 ≤ j → j < l.length → goodC l j = true
  · rw [if_pos h, if_pos (List.all_eq_true.2 (fun j hj => h j (by omega) (List.mem_range.1 hj)))]
  · rw [if_neg h, if_neg (fun h2 => h (fun j _ h3 => List.all_eq_true.1 h2 j (List.mem_range.2 h3)))]
open Classical in
theorem ucheck_f (l : List S39) (k : Nat) (hk : 40 < k) : user_Check.f k l = some (ucheckV l) := by
  unfold user_Check.f
  by_cases h : (l.length : Int) > 16
  · rw [if_pos h]
    unfold ucheckV
    rw [if_pos (by omega)]
  · rw [if_neg h, ucheckV_of l (by omega)]
    exact ucheck_l0 l (by omega) l.length k 0 (by omega) (by omega)
theorem ucheck_good {l : List S39} (h1 : l.length ≤ 16) (h2 : ∀ i, i < l.length → goodC l i = true) : ucheckV l = 0 := by
  unfold ucheckV
  rw [if_neg (by omega), if_pos (List.all_eq_true.2 (fun i hi => h2 i (List.mem_range.1 hi)))]
theorem ucheck_bad {l : List S39} (h1 : l.length ≤ 16) (i : Nat) (hi : i < l.length) (h2 : ¬ goodC l i = true) : ucheckV l = 1 := by
  unfold ucheckV
  rw [if_neg (by omega), if_neg (fun h => h2 (List.all_eq_true.1 h i (List.mem_range.2 hi)))]
theorem ucheck_many {l : List S39} (h1 : 16 < l.length) : ucheckV l = 4 := by
  unfold ucheckV
  rw [if_pos h1]
end Go.Proofs.Ytknfjempngdhpaa.Pure
