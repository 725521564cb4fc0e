/- UserChecks, over numbers, texts and lists: any users, any config are checked as the document says. For every input. -/
import Derived.Test.YtknfjempngdhpaaF3
import Derived.Test.YtknfjempngdhpaaPUserCheck
import Derived.Test.YtknfjempngdhpaaHO
namespace Go.Proofs.Ytknfjempngdhpaa.Pure
open Go.RowKit Go.Proofs.Ytknfjempngdhpaa.X Go.Proofs.YtknfjempngdhpaaW.PrintWords Go.Proofs.YtknfjempngdhpaaW.PrintLast Go.Proofs.Ytknfjempngdhpaa.Lib

theorem known9 (k : Nat) : donjonlaw9_known.f k = some true := by
  unfold donjonlaw9_known.f user_Enter.f user_Find.f
  rw [if_pos (by simp), if_pos (show partedU [] _ from fun i hi => by simp at hi), if_neg (fun h => by have := h.1; simp at this), Option.bind_some]
  exact (congrArg (fun x => Option.bind x _) (if_neg Bool.false_ne_true)).trans rfl
/-- The document's name, byte by byte. -/
theorem ref_name_l0 (s : ByteArray) (hs : s.size ≤ 9223372036854775806) (d : Nat) : ∀ (k i : Nat), i + d = s.size → d < k →
    donjonref7_Name.l0 k s (i : Int) = some (decide (∀ j : Nat, j < s.size → i ≤ j → okSign (bt s (j : Int)) = true) && (decide (1 ≤ s.size) && decide (s.size ≤ 12))) := by
  induction d with
  | zero =>
    intro k i hi hk
    obtain ⟨k, rfl⟩ : ∃ m, k = m + 1 := ⟨k - 1, by omega⟩
    rw [donjonref7_Name.l0, if_neg (by omega), decide_eq_true (fun j h1 h2 => by omega), Bool.true_and]
    by_cases h1 : 1 ≤ s.size
    · rw [if_pos (by omega), decide_eq_true h1, Bool.true_and]
      congr 1
      by_cases h2 : s.size ≤ 12
      · rw [decide_eq_true h2, decide_eq_true (by omega)]
      · rw [decide_eq_false h2, decide_eq_false (by omega)]
    · rw [if_neg (by omega), decide_eq_false h1, Bool.false_and]
  | succ d ih =>
    intro k i hi hk
    obtain ⟨k, rfl⟩ : ∃ m, k = m + 1 := ⟨k - 1, by omega⟩
    have hnext := ih k (i + 1) (by omega) (by omega)
    have hw : wrap64 ((i : Int) + 1) = ((i + 1 : Nat) : Int) := by rw [wrap64_id (by omega) (by omega)]; omega
    have hbad : okSign (bt s (i : Int)) = false → (some false : Option Bool) = some (decide (∀ j : Nat, j < s.size → i ≤ j → okSign (bt s (j : Int)) = true) && (decide (1 ≤ s.size) && decide (s.size ≤ 12))) := by
      intro hb
      rw [decide_eq_false (fun h => by rw [h i (by omega) (Nat.le_refl _)] at hb; exact absurd hb (by simp)), Bool.false_and]
    have hgood : okSign (bt s (i : Int)) = true → donjonref7_Name.l0 k s ((i + 1 : Nat) : Int) = some (decide (∀ j : Nat, j < s.size → i ≤ j → okSign (bt s (j : Int)) = true) && (decide (1 ≤ s.size) && decide (s.size ≤ 12))) := by
      intro hg
      rw [hnext]
      congr 2
      by_cases h : ∀ j : Nat, j < s.size → i + 1 ≤ j → okSign (bt s (j : Int)) = true
      · rw [decide_eq_true h, decide_eq_true (fun j h1 h2 => ?_)]
        by_cases e : i = j
        · subst e; exact hg
        · exact h j h1 (by omega)
      · rw [decide_eq_false h, decide_eq_false (fun h2 => h (fun j h3 h4 => h2 j h3 (by omega)))]
    rw [donjonref7_Name.l0, if_pos (by omega), if_pos (by omega), hw]
    by_cases c1 : bt s (i : Int) < 97
    · rw [if_pos c1]
      by_cases c2 : bt s (i : Int) < 48
      · rw [if_pos c2]
        exact hbad (by unfold okSign; simp; omega)
      · rw [if_neg c2]
        by_cases c3 : bt s (i : Int) > 57
        · rw [if_pos c3]
          exact hbad (by unfold okSign; simp; omega)
        · rw [if_neg c3]
          exact hgood (by unfold okSign; simp; omega)
    · rw [if_neg c1]
      by_cases c4 : bt s (i : Int) > 122
      · rw [if_pos c4]
        by_cases c2 : bt s (i : Int) < 48
        · omega
        · rw [if_neg c2, if_pos (by omega)]
          exact hbad (by unfold okSign; simp; omega)
      · rw [if_neg c4]
        exact hgood (by unfold okSign; simp; omega)
theorem ref_name_f (s : ByteArray) (hs : s.size ≤ 9223372036854775806) (k : Nat) (hk : s.size < k) : donjonref7_Name.f k s = some (okName s) := by
  unfold donjonref7_Name.f
  have h := ref_name_l0 s hs s.size k 0 (by omega) hk
  have e : ((0 : Nat) : Int) = 0 := rfl
  rw [e] at h
  rw [h]
  unfold okName
  congr 2
  by_cases hall : ∀ j : Nat, j < s.size → okSign (bt s (j : Int)) = true
  · rw [(path_Name.all_iff s).2 hall, decide_eq_true (fun j h1 _ => hall j h1)]
  · have h2 : (bytesOf s).all okSign = false := by
      rw [Bool.eq_false_iff]
      intro h3
      exact hall ((path_Name.all_iff s).1 h3)
    rw [h2, decide_eq_false (fun h3 => hall (fun j h1 => h3 j h1 (by omega)))]
theorem ref_lcheck_f (s c i d : Int) : donjonref4_Check.f s c i d = some (if labB s c i d = true then 0 else 1) := by
  unfold donjonref4_Check.f labB
  by_cases h1 : s < 0
  · rw [if_pos h1, if_neg (by simp; omega)]
  rw [if_neg h1]
  by_cases h2 : s > 3
  · rw [if_pos h2, if_neg (by simp; omega)]
  rw [if_neg h2]
  by_cases h3 : i < 0
  · rw [if_pos h3, if_neg (by simp; omega)]
  rw [if_neg h3]
  by_cases h4 : i > 3
  · rw [if_pos h4, if_neg (by simp; omega)]
  rw [if_neg h4]
  by_cases h5 : c < 0
  · rw [if_pos h5, if_neg (by simp; omega)]
  rw [if_neg h5]
  by_cases h6 : c > 255
  · rw [if_pos h6, if_neg (by simp; omega)]
  rw [if_neg h6]
  by_cases h7 : d < 0
  · rw [if_pos h7, if_neg (by simp; omega)]
  rw [if_neg h7]
  by_cases h8 : d > 255
  · rw [if_pos h8, if_neg (by simp; omega)]
  rw [if_neg h8, if_pos (by simp; omega)]

open Classical in
theorem ref_ucheck_l0 (l : List S39) (hl : l.length ≤ 16) (B : Nat) (hB : ∀ i : Nat, i < l.length → (rd_T39 l (i : Int)).f0.size ≤ B) (hB2 : B ≤ 9223372036854775806) (d : Nat) : ∀ (k i : Nat), i + d = l.length → d + B < k →
    donjonref9_Check.l0 k l (i : Int) = some (if ∀ j, i ≤ j → j < l.length → goodC l j = true then 0 else 1) := by
  induction d with
  | zero =>
    intro k i hi hk
    obtain ⟨k, rfl⟩ : ∃ m, k = m + 1 := ⟨k - 1, by omega⟩
    rw [donjonref9_Check.l0, if_neg (by omega), if_pos (fun j h1 h2 => by omega)]
  | succ d ih =>
    intro k i hi hk
    obtain ⟨k, rfl⟩ : ∃ m, k = m + 1 := ⟨k - 1, by omega⟩
    have hnext := ih k (i + 1) (by omega) (by omega)
    have ecast : ((i + 1 : Nat) : Int) = (i : Int) + 1 := by omega
    have hw : wrap64 ((i : Int) + 1) = ((i + 1 : Nat) : Int) := by rw [ecast]; exact wrap64_id (by omega) (by omega)
    have hbad : ¬ goodC l i = true → (if ∀ j, i ≤ j → j < l.length → goodC l j = true then (0 : Int) else 1) = 1 := by
      intro hb
      exact if_neg (fun h => hb (h i (by omega) (by omega)))
    have hgood : goodC l i = true → (if ∀ j, i ≤ j → j < l.length → goodC l j = true then (0 : Int) else 1) = (if ∀ j, i + 1 ≤ j → j < l.length → goodC l j = true then (0 : Int) else 1) := by
      intro hg
      by_cases h : ∀ j, i + 1 ≤ j → j < l.length → goodC l j = true
      · rw [if_pos h, if_pos (fun j h1 h2 => ?_)]
        by_cases e : i = j
        · subst e; exact hg
        · exact h j (by omega) h2
      · rw [if_neg h, if_neg (fun h2 => h (fun j h3 h4 => h2 j (by omega) h4))]
    have hsz := hB i (by omega)
    rw [donjonref9_Check.l0, if_pos (by omega), if_pos (by omega), ref_name_f _ (by omega) k (by omega), Option.bind_some]
    by_cases c1 : okName (rd_T39 l (i : Int)).f0 = true
    · rw [if_pos c1, ref_lcheck_f, Option.bind_some, hw, hnext]
      by_cases c2 : (i : Int) > 0
      · have hp : wrap64 ((i : Int) - 1) = ((i - 1 : Nat) : Int) := by rw [wrap64_id (by omega) (by omega)]; omega
        rw [if_pos c2, hp, if_pos (by omega), if_pos (by omega)]
        by_cases c3 : Op.bytesLess (keyC l (i - 1)) (keyC l i) = true
        · have c3' : Op.bytesLess (rd_T39 l ((i - 1 : Nat) : Int)).f0.toList (rd_T39 l (i : Int)).f0.toList = true := c3
          rw [if_pos c3']
          by_cases c4 : labB (rd_T39 l (i : Int)).f3.f0 (rd_T39 l (i : Int)).f3.f1 (rd_T39 l (i : Int)).f3.f2 (rd_T39 l (i : Int)).f3.f3 = true
          · rw [if_pos c4, if_pos rfl, hgood (goodC_split.2 ⟨c1, .inr c3, c4⟩)]
          · rw [if_neg c4, if_neg (by decide), hbad (fun h => c4 (goodC_split.1 h).2.2)]
        · have c3' : ¬ Op.bytesLess (rd_T39 l ((i - 1 : Nat) : Int)).f0.toList (rd_T39 l (i : Int)).f0.toList = true := c3
          rw [if_neg c3', hbad (fun h => by
            rcases (goodC_split.1 h).2.1 with h2 | h2
            · omega
            · exact c3 h2)]
      · rw [if_neg c2]
        by_cases c4 : labB (rd_T39 l (i : Int)).f3.f0 (rd_T39 l (i : Int)).f3.f1 (rd_T39 l (i : Int)).f3.f2 (rd_T39 l (i : Int)).f3.f3 = true
        · rw [if_pos c4, if_pos rfl, hgood (goodC_split.2 ⟨c1, .inl (by omega), c4⟩)]
        · rw [if_neg c4, if_neg (by decide), hbad (fun h => c4 (goodC_split.1 h).2.2)]
    · rw [if_neg c1, hbad (fun h => c1 (goodC_split.1 h).1)]
open Classical in
theorem ref_ucheck_f (l : List S39) (B : Nat) (hB : ∀ i : Nat, i < l.length → (rd_T39 l (i : Int)).f0.size ≤ B) (hB2 : B ≤ 9223372036854775806) (k : Nat) (hk : B + 40 < k) : donjonref9_Check.f k l = some (ucheckV l) := by
  unfold donjonref9_Check.f
  by_cases h : (l.length : Int) > 16
  · rw [if_pos h]
    unfold ucheckV
    rw [if_pos (by omega)]
  · rw [if_neg h, ucheckV_of l (by omega)]
    exact ref_ucheck_l0 l (by omega) B hB hB2 l.length k 0 (by omega) (by omega)

/-- Is the label at a place such as may be? -/
def labAt (l : List S36) (i : Nat) : Bool := labB (rd_T36 l (i : Int)).f0 (rd_T36 l (i : Int)).f1 (rd_T36 l (i : Int)).f2 (rd_T36 l (i : Int)).f3
open Classical in
theorem step_if (p : Nat → Bool) (n i : Nat) (hi : i < n) : (p i = true → (if ∀ j, i ≤ j → j < n → p j = true then (0 : Int) else 1) = (if ∀ j, i + 1 ≤ j → j < n → p j = true then (0 : Int) else 1)) ∧ (¬ p i = true → (if ∀ j, i ≤ j → j < n → p j = true then (0 : Int) else 1) = 1) := by
  refine ⟨fun hg => ?_, fun hb => if_neg (fun h => hb (h i (by omega) hi))⟩
  by_cases h : ∀ j, i + 1 ≤ j → j < n → p j = true
  · rw [if_pos h, if_pos (fun j h1 h2 => ?_)]
    by_cases e : i = j
    · subst e; exact hg
    · exact h j (by omega) h2
  · rw [if_neg h, if_neg (fun h2 => h (fun j h3 h4 => h2 j (by omega) h4))]
open Classical in
theorem labels_l0 (l : List S36) (hl : l.length ≤ 1000) (d : Nat) : ∀ (k i : Nat), i + d = l.length → d < k →
    user_labels.l0 k l (l.length : Int) (i : Int) = some (if ∀ j, i ≤ j → j < l.length → labAt l j = true then 0 else 1) := by
  induction d with
  | zero =>
    intro k i hi hk
    obtain ⟨k, rfl⟩ : ∃ m, k = m + 1 := ⟨k - 1, by omega⟩
    rw [user_labels.l0, if_neg (by omega), if_pos (fun j h1 h2 => by omega)]
  | succ d ih =>
    intro k i hi hk
    obtain ⟨k, rfl⟩ : ∃ m, k = m + 1 := ⟨k - 1, by omega⟩
    have hnext := ih k (i + 1) (by omega) (by omega)
    have hw : wrap64 ((i : Int) + 1) = ((i + 1 : Nat) : Int) := by rw [wrap64_id (by omega) (by omega)]; omega
    obtain ⟨hgood, hbad⟩ := step_if (labAt l) l.length i (by omega)
    rw [user_labels.l0, if_pos (by omega), if_pos (by omega), if_pos (by omega), lcheck_f, Option.bind_some, hw, hnext]
    by_cases c : labAt l i = true
    · have c' : labB (rd_T36 l (i : Int)).f0 (rd_T36 l (i : Int)).f1 (rd_T36 l (i : Int)).f2 (rd_T36 l (i : Int)).f3 = true := c
      rw [if_pos c', if_pos rfl, hgood c]
    · have c' : ¬ labB (rd_T36 l (i : Int)).f0 (rd_T36 l (i : Int)).f1 (rd_T36 l (i : Int)).f2 (rd_T36 l (i : Int)).f3 = true := c
      rw [if_neg c', if_neg (by decide), hbad c]
open Classical in
theorem labels_f (l : List S36) (hl : l.length ≤ 1000) (k : Nat) (hk : l.length < k) : user_labels.f k l = some (if ∀ j, 0 ≤ j → j < l.length → labAt l j = true then 0 else 1) := by
  unfold user_labels.f
  exact labels_l0 l hl l.length k 0 (by omega) hk
/-- Is the rule at a place such as may be? -/
def ruleAt (l : List S45) (i : Nat) : Bool :=
  labB (rd_T45 l (i : Int)).f0.f0 (rd_T45 l (i : Int)).f0.f1 (rd_T45 l (i : Int)).f0.f2 (rd_T45 l (i : Int)).f0.f3 &&
  (labB (rd_T45 l (i : Int)).f1.f0 (rd_T45 l (i : Int)).f1.f1 (rd_T45 l (i : Int)).f1.f2 (rd_T45 l (i : Int)).f1.f3 && okName (rd_T45 l (i : Int)).f2)
theorem ruleAt_split {l : List S45} {i : Nat} : ruleAt l i = true ↔ labB (rd_T45 l (i : Int)).f0.f0 (rd_T45 l (i : Int)).f0.f1 (rd_T45 l (i : Int)).f0.f2 (rd_T45 l (i : Int)).f0.f3 = true ∧
    labB (rd_T45 l (i : Int)).f1.f0 (rd_T45 l (i : Int)).f1.f1 (rd_T45 l (i : Int)).f1.f2 (rd_T45 l (i : Int)).f1.f3 = true ∧ okName (rd_T45 l (i : Int)).f2 = true := by
  unfold ruleAt
  simp only [Bool.and_eq_true]
open Classical in
theorem rules_l0 (l : List S45) (hl : l.length ≤ 8) (d : Nat) : ∀ (k i : Nat), i + d = l.length → d + 4 < k →
    user_Config.l0 k l (l.length : Int) (i : Int) = some (if ∀ j, i ≤ j → j < l.length → ruleAt l j = true then 0 else 1) := by
  induction d with
  | zero =>
    intro k i hi hk
    obtain ⟨k, rfl⟩ : ∃ m, k = m + 1 := ⟨k - 1, by omega⟩
    rw [user_Config.l0, if_neg (by omega), if_pos (fun j h1 h2 => by omega)]
  | succ d ih =>
    intro k i hi hk
    obtain ⟨k, rfl⟩ : ∃ m, k = m + 1 := ⟨k - 1, by omega⟩
    have hnext := ih k (i + 1) (by omega) (by omega)
    have hw : wrap64 ((i : Int) + 1) = ((i + 1 : Nat) : Int) := by rw [wrap64_id (by omega) (by omega)]; omega
    obtain ⟨hgood, hbad⟩ := step_if (ruleAt l) l.length i (by omega)
    rw [user_Config.l0, if_pos (by omega), if_pos (by omega), if_pos (by omega), labels_f _ (by simp) k (by simp; omega), Option.bind_some, hw, hnext]
    have two : ∀ x y : S36, (∀ j, 0 ≤ j → j < [x, y].length → labAt [x, y] j = true) ↔ labB x.f0 x.f1 x.f2 x.f3 = true ∧ labB y.f0 y.f1 y.f2 y.f3 = true := by
      intro x y
      constructor
      · intro h
        exact ⟨h 0 (by omega) (by simp), h 1 (by omega) (by simp)⟩
      · intro h j _ h2
        have : j = 0 ∨ j = 1 := by simp at h2; omega
        rcases this with rfl | rfl
        · exact h.1
        · exact h.2
    by_cases c : ∀ j, 0 ≤ j → j < ([(⟨(rd_T45 l (i : Int)).f0.f0, (rd_T45 l (i : Int)).f0.f1, (rd_T45 l (i : Int)).f0.f2, (rd_T45 l (i : Int)).f0.f3⟩ : S36), (⟨(rd_T45 l (i : Int)).f1.f0, (rd_T45 l (i : Int)).f1.f1, (rd_T45 l (i : Int)).f1.f2, (rd_T45 l (i : Int)).f1.f3⟩ : S36)] : List S36).length → labAt [(⟨(rd_T45 l (i : Int)).f0.f0, (rd_T45 l (i : Int)).f0.f1, (rd_T45 l (i : Int)).f0.f2, (rd_T45 l (i : Int)).f0.f3⟩ : S36), (⟨(rd_T45 l (i : Int)).f1.f0, (rd_T45 l (i : Int)).f1.f1, (rd_T45 l (i : Int)).f1.f2, (rd_T45 l (i : Int)).f1.f3⟩ : S36)] j = true
    · rw [if_pos c, if_pos rfl]
      have c2 := (two _ _).1 c
      unfold path_Name.f
      rw [Option.bind_some]
      by_cases c3 : okName (rd_T45 l (i : Int)).f2 = true
      · rw [if_pos c3, hgood (ruleAt_split.2 ⟨c2.1, c2.2, c3⟩)]
      · rw [if_neg c3, hbad (fun h => c3 (ruleAt_split.1 h).2.2)]
    · rw [if_neg c, if_neg (by decide), hbad (fun h => c ((two _ _).2 ⟨(ruleAt_split.1 h).1, (ruleAt_split.1 h).2.1⟩))]
open Classical in
/-- What is wrong with a config. -/
noncomputable def configV (t : List S36) (u : List S39) (r : List S45) : Int :=
  if t.length < 1 ∨ 8 < t.length then 4 else if ∀ j, 0 ≤ j → j < t.length → labAt t j = true then (if ucheckV u = 0 then (if 8 < r.length then 4 else if ∀ j, 0 ≤ j → j < r.length → ruleAt r j = true then 0 else 1) else ucheckV u) else 1
open Classical in
theorem config_f (t : List S36) (u : List S39) (r : List S45) (k : Nat) (hk : 100 < k) : user_Config.f k t u r = some (configV t u r) := by
  obtain ⟨k, rfl⟩ : ∃ m, k = m + 1 := ⟨k - 1, by omega⟩
  unfold user_Config.f configV
  by_cases c1 : (t.length : Int) < 1
  · rw [if_pos c1, user_Config.j0, if_pos rfl, if_pos (.inl (by omega))]
  rw [if_neg c1]
  by_cases c2 : (t.length : Int) > 8
  · rw [decide_eq_true c2, user_Config.j0, if_pos rfl, if_pos (.inr (by omega))]
  rw [decide_eq_false c2, user_Config.j0, if_neg (by decide), if_neg (by omega : ¬ (t.length < 1 ∨ 8 < t.length)), if_pos (by omega), if_pos (by omega), if_pos (by simp), labels_f t (by omega) k (by omega), Option.bind_some]
  by_cases c3 : ∀ j, 0 ≤ j → j < t.length → labAt t j = true
  · rw [if_pos c3, if_pos rfl, ucheck_f u k (by omega), Option.bind_some, if_pos c3]
    by_cases c4 : ucheckV u = 0
    · rw [if_pos c4, if_pos c4]
      by_cases c5 : (r.length : Int) > 8
      · rw [if_pos c5, if_pos (by omega)]
      · rw [if_neg c5, if_neg (by omega)]
        exact rules_l0 r (by omega) r.length k 0 (by omega) (by omega)
    · rw [if_neg c4, if_neg c4]
  · rw [if_neg c3, if_neg (by decide), if_neg c3]
open Classical in
theorem ref_rules_l1 (t : List S36) (u : List S39) (l : List S45) (hl : l.length ≤ 8) (B : Nat) (hB : ∀ i : Nat, i < l.length → (rd_T45 l (i : Int)).f2.size ≤ B) (hB2 : B ≤ 9223372036854775806) (d : Nat) : ∀ (k i : Nat), i + d = l.length → d + B + 4 < k →
    donjonref9_Config.l1 k (i : Int) t u l = some (if ∀ j, i ≤ j → j < l.length → ruleAt l j = true then 0 else 1) := by
  induction d with
  | zero =>
    intro k i hi hk
    obtain ⟨k, rfl⟩ : ∃ m, k = m + 1 := ⟨k - 1, by omega⟩
    rw [donjonref9_Config.l1, if_neg (by omega), if_pos (fun j h1 h2 => by omega)]
  | succ d ih =>
    intro k i hi hk
    obtain ⟨k, rfl⟩ : ∃ m, k = m + 1 := ⟨k - 1, by omega⟩
    have hnext := ih k (i + 1) (by omega) (by omega)
    have hw : wrap64 ((i : Int) + 1) = ((i + 1 : Nat) : Int) := by rw [wrap64_id (by omega) (by omega)]; omega
    obtain ⟨hgood, hbad⟩ := step_if (ruleAt l) l.length i (by omega)
    have hsz := hB i (by omega)
    rw [donjonref9_Config.l1, if_pos (by omega), if_pos (by omega), ref_lcheck_f, Option.bind_some, ref_lcheck_f, Option.bind_some, ref_name_f _ (by omega) k (by omega), Option.bind_some, hw, hnext]
    by_cases c1 : labB (rd_T45 l (i : Int)).f0.f0 (rd_T45 l (i : Int)).f0.f1 (rd_T45 l (i : Int)).f0.f2 (rd_T45 l (i : Int)).f0.f3 = true
    · rw [if_pos c1, if_pos rfl]
      by_cases c2 : labB (rd_T45 l (i : Int)).f1.f0 (rd_T45 l (i : Int)).f1.f1 (rd_T45 l (i : Int)).f1.f2 (rd_T45 l (i : Int)).f1.f3 = true
      · rw [if_pos c2, if_pos rfl]
        by_cases c3 : okName (rd_T45 l (i : Int)).f2 = true
        · rw [if_pos c3, hgood (ruleAt_split.2 ⟨c1, c2, c3⟩)]
        · rw [if_neg c3, hbad (fun h => c3 (ruleAt_split.1 h).2.2)]
      · rw [if_neg c2, if_neg (by decide), hbad (fun h => c2 (ruleAt_split.1 h).2.1)]
    · rw [if_neg c1, if_neg (by decide), hbad (fun h => c1 (ruleAt_split.1 h).1)]
open Classical in
theorem ref_terms_l0 (t : List S36) (ht : t.length ≤ 8) (u : List S39) (r : List S45) (B : Nat) (hBu : ∀ i : Nat, i < u.length → (rd_T39 u (i : Int)).f0.size ≤ B) (hBr : ∀ i : Nat, i < r.length → (rd_T45 r (i : Int)).f2.size ≤ B) (hB2 : B ≤ 9223372036854775806) (d : Nat) : ∀ (k i : Nat), i + d = t.length → d + B + 60 < k →
    donjonref9_Config.l0 k (i : Int) t u r = some (if ∀ j, i ≤ j → j < t.length → labAt t j = true then (if ucheckV u = 0 then (if 8 < r.length then 4 else if ∀ j, 0 ≤ j → j < r.length → ruleAt r j = true then 0 else 1) else ucheckV u) else 1) := by
  induction d with
  | zero =>
    intro k i hi hk
    obtain ⟨k, rfl⟩ : ∃ m, k = m + 1 := ⟨k - 1, by omega⟩
    rw [donjonref9_Config.l0, if_neg (by omega), if_pos (fun j h1 h2 => by omega), ref_ucheck_f u B hBu hB2 k (by omega), Option.bind_some]
    by_cases c4 : ucheckV u = 0
    · rw [if_pos c4, if_pos c4]
      by_cases c5 : (r.length : Int) > 8
      · rw [if_pos c5, if_pos (by omega)]
      · rw [if_neg c5, if_neg (by omega)]
        exact ref_rules_l1 t u r (by omega) B hBr hB2 r.length k 0 (by omega) (by omega)
    · rw [if_neg c4, if_neg c4, Option.bind_some]
  | succ d ih =>
    intro k i hi hk
    obtain ⟨k, rfl⟩ : ∃ m, k = m + 1 := ⟨k - 1, by omega⟩
    have hnext := ih k (i + 1) (by omega) (by omega)
    have hw : wrap64 ((i : Int) + 1) = ((i + 1 : Nat) : Int) := by rw [wrap64_id (by omega) (by omega)]; omega
    rw [donjonref9_Config.l0, if_pos (by omega), if_pos (by omega), ref_lcheck_f, Option.bind_some, hw, hnext]
    by_cases c : labB (rd_T36 t (i : Int)).f0 (rd_T36 t (i : Int)).f1 (rd_T36 t (i : Int)).f2 (rd_T36 t (i : Int)).f3 = true
    · rw [if_pos c, if_pos rfl]
      by_cases h : ∀ j, i + 1 ≤ j → j < t.length → labAt t j = true
      · have hh : ∀ j, i ≤ j → j < t.length → labAt t j = true := fun j h1 h2 => by
          by_cases e : i = j
          · subst e; exact c
          · exact h j (by omega) h2
        rw [if_pos h, if_pos hh]
      · have hh : ¬ ∀ j, i ≤ j → j < t.length → labAt t j = true := fun h2 => h (fun j h3 h4 => h2 j (by omega) h4)
        rw [if_neg h, if_neg hh]
    · have hh : ¬ ∀ j, i ≤ j → j < t.length → labAt t j = true := fun h => c (h i (by omega) (by omega))
      rw [if_neg c, if_neg (by decide), if_neg hh]
theorem ref_config_f (t : List S36) (u : List S39) (r : List S45) (B : Nat) (hBu : ∀ i : Nat, i < u.length → (rd_T39 u (i : Int)).f0.size ≤ B) (hBr : ∀ i : Nat, i < r.length → (rd_T45 r (i : Int)).f2.size ≤ B) (hB2 : B ≤ 9223372036854775806) (k : Nat) (hk : B + 80 < k) : donjonref9_Config.f k t u r = some (configV t u r) := by
  obtain ⟨k, rfl⟩ : ∃ m, k = m + 1 := ⟨k - 1, by omega⟩
  unfold donjonref9_Config.f configV
  by_cases c1 : (t.length : Int) < 1
  · rw [if_pos c1, donjonref9_Config.j0, if_pos rfl, if_pos (.inl (by omega))]
  rw [if_neg c1]
  by_cases c2 : (t.length : Int) > 8
  · rw [decide_eq_true c2, donjonref9_Config.j0, if_pos rfl, if_pos (.inr (by omega))]
  rw [decide_eq_false c2, donjonref9_Config.j0, if_neg (by decide), if_neg (by omega : ¬ (t.length < 1 ∨ 8 < t.length))]
  exact ref_terms_l0 t (by omega) u r B hBu hBr hB2 t.length k 0 (by omega) (by omega)

theorem rdU_get' {l : List S39} {i : Nat} (h : i < l.length) : rd_T39 l (i : Int) = l[i] := by
  unfold rd_T39
  simp [List.getD_eq_getElem?_getD, h]
theorem rdR_get' {l : List S45} {i : Nat} (h : i < l.length) : rd_T45 l (i : Int) = l[i] := by
  unfold rd_T45
  simp [List.getD_eq_getElem?_getD, h]
theorem UserChecks : ∀ (l0_0 : List (S36)) (l0_1 : List (S39)) (l0_2 : List (S45)), (l0_0.length ≤ maxLen ∧ l0_0.length * 32 ≤ 140737488351232 ∧ ∀ x ∈ l0_0, g_T36 x) → (l0_1.length ≤ maxLen ∧ l0_1.length * 72 ≤ 140737488351232 ∧ ∀ x ∈ l0_1, g_T39 x) → (l0_2.length ≤ maxLen ∧ l0_2.length * 80 ≤ 140737488351232 ∧ ∀ x ∈ l0_2, g_T45 x) → ∃ k, donjonlaw9_UserChecks.f k l0_0 l0_1 l0_2 = some true := by
  intro t u r _ ⟨_, _, hu⟩ ⟨_, _, hr⟩
  obtain ⟨B, hB⟩ : ∃ B : Nat, B = 140737488351232 := ⟨_, rfl⟩
  have hBu : ∀ i : Nat, i < u.length → (rd_T39 u (i : Int)).f0.size ≤ B := by
    intro i hi
    rw [rdU_get' hi, hB]
    exact (hu u[i] (List.getElem_mem hi)).1
  have hBr : ∀ i : Nat, i < r.length → (rd_T45 r (i : Int)).f2.size ≤ B := by
    intro i hi
    rw [rdR_get' hi, hB]
    exact (hr r[i] (List.getElem_mem hi)).2.2
  have hB2 : B ≤ 9223372036854775806 := by omega
  clear hB hu hr
  obtain ⟨K, hK⟩ : ∃ K : Nat, B + 200 < K := ⟨B + 201, by omega⟩
  refine ⟨K + 1, ?_⟩
  unfold donjonlaw9_UserChecks.f
  rw [known9, Option.bind_some, if_pos rfl]
  by_cases c1 : (t.length : Int) > 20
  · rw [if_pos c1, donjonlaw9_UserChecks.j0, if_pos rfl]
  rw [if_neg c1]
  by_cases c2 : (u.length : Int) > 40
  · rw [if_pos c2, donjonlaw9_UserChecks.j0, if_pos rfl]
  rw [if_neg c2]
  by_cases c3 : (r.length : Int) > 20
  · rw [decide_eq_true c3, donjonlaw9_UserChecks.j0, if_pos rfl]
  rw [decide_eq_false c3, donjonlaw9_UserChecks.j0, if_neg (by decide), ucheck_f u K (by omega), Option.bind_some, ref_ucheck_f u B hBu hB2 K (by omega), Option.bind_some, if_pos rfl, config_f t u r K (by omega), Option.bind_some, ref_config_f t u r B hBu hBr hB2 K (by omega), Option.bind_some]
  simp
end Go.Proofs.Ytknfjempngdhpaa.Pure
