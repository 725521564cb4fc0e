/- AclChecks, over numbers and lists: any list is checked as the document says; of one that may be each user's modes are told as it says. For every input. -/
import Derived.Test.YtcjkekdmmjfgeaaF13
import Derived.Test.YtcjkekdmmjfgeaaPAcl
import Derived.Test.YtcjkekdmmjfgeaaHO
namespace Go.Proofs.Ytcjkekdmmjfgeaa.Pure
open Go.RowKit Go.Proofs.Ytcjkekdmmjfgeaa.X Go.Proofs.YtcjkekdmmjfgeaaW.PrintWords Go.Proofs.YtcjkekdmmjfgeaaW.PrintLast Go.Proofs.Ytcjkekdmmjfgeaa.Lib

/-- The document's name, byte by byte. -/
theorem ref_name_l0 (s : ByteArray) (hs : s.size ≤ 9223372036854775806) (d : Nat) : ∀ (k i : Nat), i + d = s.size → d < k →
    donjonref5_Name.l0 k s (i : Int) = some (decide (∀ j : Nat, j < s.size → i ≤ j → okSign (bt s (j : Int)) = true) && (decide (1 ≤ s.size) && decide (s.size ≤ 12))) := by
  induction d with
  | zero =>
    intro k i hi hk
    obtain ⟨k, rfl⟩ : ∃ m, k = m + 1 := ⟨k - 1, by omega⟩
    rw [donjonref5_Name.l0, if_neg (by omega), decide_eq_true (fun j h1 h2 => by omega), Bool.true_and]
    by_cases h1 : 1 ≤ s.size
    · rw [if_pos (by omega), decide_eq_true h1, Bool.true_and]
      congr 1
      by_cases h2 : s.size ≤ 12
      · rw [decide_eq_true h2, decide_eq_true (by omega)]
      · rw [decide_eq_false h2, decide_eq_false (by omega)]
    · rw [if_neg (by omega), decide_eq_false h1, Bool.false_and]
  | succ d ih =>
    intro k i hi hk
    obtain ⟨k, rfl⟩ : ∃ m, k = m + 1 := ⟨k - 1, by omega⟩
    have hnext := ih k (i + 1) (by omega) (by omega)
    have hw : wrap64 ((i : Int) + 1) = ((i + 1 : Nat) : Int) := by rw [wrap64_id (by omega) (by omega)]; omega
    have hbad : okSign (bt s (i : Int)) = false → (some false : Option Bool) = some (decide (∀ j : Nat, j < s.size → i ≤ j → okSign (bt s (j : Int)) = true) && (decide (1 ≤ s.size) && decide (s.size ≤ 12))) := by
      intro hb
      rw [decide_eq_false (fun h => by rw [h i (by omega) (Nat.le_refl _)] at hb; exact absurd hb (by simp)), Bool.false_and]
    have hgood : okSign (bt s (i : Int)) = true → donjonref5_Name.l0 k s ((i + 1 : Nat) : Int) = some (decide (∀ j : Nat, j < s.size → i ≤ j → okSign (bt s (j : Int)) = true) && (decide (1 ≤ s.size) && decide (s.size ≤ 12))) := by
      intro hg
      rw [hnext]
      congr 2
      by_cases h : ∀ j : Nat, j < s.size → i + 1 ≤ j → okSign (bt s (j : Int)) = true
      · rw [decide_eq_true h, decide_eq_true (fun j h1 h2 => ?_)]
        by_cases e : i = j
        · subst e; exact hg
        · exact h j h1 (by omega)
      · rw [decide_eq_false h, decide_eq_false (fun h2 => h (fun j h3 h4 => h2 j h3 (by omega)))]
    rw [donjonref5_Name.l0, if_pos (by omega), if_pos (by omega), hw]
    by_cases c1 : bt s (i : Int) < 97
    · rw [if_pos c1]
      by_cases c2 : bt s (i : Int) < 48
      · rw [if_pos c2]
        exact hbad (by unfold okSign; simp; omega)
      · rw [if_neg c2]
        by_cases c3 : bt s (i : Int) > 57
        · rw [if_pos c3]
          exact hbad (by unfold okSign; simp; omega)
        · rw [if_neg c3]
          exact hgood (by unfold okSign; simp; omega)
    · rw [if_neg c1]
      by_cases c4 : bt s (i : Int) > 122
      · rw [if_pos c4]
        by_cases c2 : bt s (i : Int) < 48
        · omega
        · rw [if_neg c2, if_pos (by omega)]
          exact hbad (by unfold okSign; simp; omega)
      · rw [if_neg c4]
        exact hgood (by unfold okSign; simp; omega)
theorem ref_name_f (s : ByteArray) (hs : s.size ≤ 9223372036854775806) (k : Nat) (hk : s.size < k) : donjonref5_Name.f k s = some (okName s) := by
  unfold donjonref5_Name.f
  have h := ref_name_l0 s hs s.size k 0 (by omega) hk
  have e : ((0 : Nat) : Int) = 0 := rfl
  rw [e] at h
  rw [h]
  unfold okName
  congr 2
  by_cases hall : ∀ j : Nat, j < s.size → okSign (bt s (j : Int)) = true
  · rw [(path_Name.all_iff s).2 hall, decide_eq_true (fun j h1 _ => hall j h1)]
  · have h2 : (bytesOf s).all okSign = false := by
      rw [Bool.eq_false_iff]
      intro h3
      exact hall ((path_Name.all_iff s).1 h3)
    rw [h2, decide_eq_false (fun h3 => hall (fun j h1 => h3 j h1 (by omega)))]
theorem ref_who_f (s : ByteArray) (hs : s.size ≤ 9223372036854775806) (k : Nat) (hk : s.size < k) : donjonref5_who.f k s = some (whoB s) := by
  unfold donjonref5_who.f whoB
  by_cases h : s.toList = [42]
  · rw [if_pos h]
    simp [h]
  · rw [if_neg h, ref_name_f s hs k hk, Option.bind_some]
    have : (s.toList == [42]) = false := beq_eq_false_iff_ne.mpr h
    rw [this, Bool.false_or]
open Classical in
theorem ref_check_l0 (l : List S78) (hl : l.length ≤ 4) (B : Nat) (hB : ∀ i : Nat, i < l.length → (rd_T78 l (i : Int)).f0.size ≤ B) (hB2 : B ≤ 9223372036854775806) (d : Nat) : ∀ (k i : Nat), i + d = l.length → d + B + 1 < k →
    donjonref5_Check.l0 k l (i : Int) = some (if ∀ j, i ≤ j → j < l.length → goodAt l j = true then 0 else 1) := by
  induction d with
  | zero =>
    intro k i hi hk
    obtain ⟨k, rfl⟩ : ∃ m, k = m + 1 := ⟨k - 1, by omega⟩
    rw [donjonref5_Check.l0, if_neg (by omega), if_pos (fun j h1 h2 => by omega)]
  | succ d ih =>
    intro k i hi hk
    obtain ⟨k, rfl⟩ : ∃ m, k = m + 1 := ⟨k - 1, by omega⟩
    have hnext := ih k (i + 1) (by omega) (by omega)
    have ecast : ((i + 1 : Nat) : Int) = (i : Int) + 1 := by omega
    have hw : wrap64 ((i : Int) + 1) = ((i + 1 : Nat) : Int) := by rw [ecast]; exact wrap64_id (by omega) (by omega)
    have hbad : goodAt l i = false → (if ∀ j, i ≤ j → j < l.length → goodAt l j = true then (0 : Int) else 1) = 1 := by
      intro hb
      refine if_neg (fun h => ?_)
      rw [h i (by omega) (by omega)] at hb
      exact absurd hb (by simp)
    have hgood : goodAt l i = true → (if ∀ j, i ≤ j → j < l.length → goodAt l j = true then (0 : Int) else 1) = (if ∀ j, i + 1 ≤ j → j < l.length → goodAt l j = true then (0 : Int) else 1) := by
      intro hg
      by_cases h : ∀ j, i + 1 ≤ j → j < l.length → goodAt l j = true
      · rw [if_pos h, if_pos (fun j h1 h2 => ?_)]
        by_cases e : i = j
        · subst e; exact hg
        · exact h j (by omega) h2
      · rw [if_neg h, if_neg (fun h2 => h (fun j h3 h4 => h2 j (by omega) h4))]
    have hsz := hB i (by omega)
    rw [donjonref5_Check.l0, if_pos (by omega), if_pos (by omega), ref_who_f _ (by omega) k (by omega), Option.bind_some, hw, hnext]
    by_cases c1 : whoB (rd_T78 l (i : Int)).f0 = true
    · rw [if_pos c1]
      by_cases c2 : (i : Int) > 0
      · have hp : wrap64 ((i : Int) - 1) = ((i - 1 : Nat) : Int) := by rw [wrap64_id (by omega) (by omega)]; omega
        rw [if_pos c2, hp, if_pos (by omega), if_pos (by omega)]
        by_cases c3 : Op.bytesLess (keyG l (i - 1)) (keyG l i) = true
        · have c3' : Op.bytesLess (rd_T78 l ((i - 1 : Nat) : Int)).f0.toList (rd_T78 l (i : Int)).f0.toList = true := c3
          rw [if_pos c3']
          by_cases c4 : (rd_T78 l (i : Int)).f1 < 1
          · rw [if_pos c4, hbad (by unfold goodAt; simp; omega)]
          · rw [if_neg c4]
            by_cases c5 : (rd_T78 l (i : Int)).f1 > 7
            · rw [if_pos c5, hbad (by unfold goodAt; simp; omega)]
            · rw [if_neg c5, hgood (by unfold goodAt; rw [c1, c3]; simp; omega)]
        · have c3' : ¬ Op.bytesLess (rd_T78 l ((i - 1 : Nat) : Int)).f0.toList (rd_T78 l (i : Int)).f0.toList = true := c3
          have hi0 : ¬ i = 0 := by omega
          rw [if_neg c3', hbad (by unfold goodAt; simp [c3, hi0])]
      · have hi0 : i = 0 := by omega
        rw [if_neg c2]
        by_cases c4 : (rd_T78 l (i : Int)).f1 < 1
        · rw [if_pos c4, hbad (by unfold goodAt; simp; omega)]
        · rw [if_neg c4]
          by_cases c5 : (rd_T78 l (i : Int)).f1 > 7
          · rw [if_pos c5, hbad (by unfold goodAt; simp; omega)]
          · rw [if_neg c5, hgood (by unfold goodAt; rw [c1, decide_eq_true hi0]; simp; omega)]
    · rw [if_neg c1, hbad (by unfold goodAt; simp [c1])]
open Classical in
theorem ref_check_f (l : List S78) (B : Nat) (hB : ∀ i : Nat, i < l.length → (rd_T78 l (i : Int)).f0.size ≤ B) (hB2 : B ≤ 9223372036854775806) (k : Nat) (hk : B + 6 < k) : donjonref5_Check.f k l = some (checkV l) := by
  unfold donjonref5_Check.f
  by_cases h : (l.length : Int) > 4
  · rw [if_pos h]
    unfold checkV
    rw [if_pos (by omega)]
  · rw [if_neg h, checkV_of l (by omega)]
    exact ref_check_l0 l (by omega) B hB hB2 l.length k 0 (by omega) (by omega)
/-- The document's modes from a place on. -/
theorem ref_modes_l0 (l : List S78) (hl : l.length ≤ 4) (hr : Rising (keyG l) l.length) (u : ByteArray) (d : Nat) : ∀ (k i : Nat) (all : Int), i + d = l.length → d < k →
    (∀ j, j < i → keyG l j = u.toList → u.toList = [42]) → (all = (grantOf (l.take i) [42]).getD 0) → donjonref5_Modes.l0 k l u all (i : Int) = some (modesV l u.toList) := by
  have htake : ∀ i, i < l.length → ∀ v : List UInt8, grantOf (l.take (i + 1)) v = if keyG l i = v then some ((grantOf (l.take i) v).getD (rd_T78 l (i : Int)).f1) else grantOf (l.take i) v := by
    intro i hi v
    unfold grantOf
    rw [List.take_succ_eq_append_getElem hi, List.find?_append]
    have hk : keyG l i = (l[i]).f0.toList := by unfold keyG; rw [rd_get hi]
    by_cases e : keyG l i = v
    · rw [if_pos e]
      have : [l[i]].find? (fun g => g.f0.toList == v) = some l[i] := by simp [← e, hk]
      rw [this]
      cases (l.take i).find? (fun g => g.f0.toList == v) with
      | none => simp [rd_get hi]
      | some g => simp
    · rw [if_neg e]
      have : [l[i]].find? (fun g => g.f0.toList == v) = none := by simp [← hk, e]
      rw [this]
      cases (l.take i).find? (fun g => g.f0.toList == v) <;> rfl
  have hnone : ∀ i, i ≤ l.length → ∀ v : List UInt8, (∀ j, j < i → keyG l j ≠ v) → grantOf (l.take i) v = none := by
    intro i
    induction i with
    | zero => intro _ v _; rfl
    | succ i ih =>
      intro hi v hv
      rw [htake i (by omega) v, if_neg (hv i (by omega))]
      exact ih (by omega) v (fun j hj => hv j (by omega))
  induction d with
  | zero =>
    intro k i all hi hk hj hall
    obtain ⟨k, rfl⟩ : ∃ m, k = m + 1 := ⟨k - 1, by omega⟩
    rw [donjonref5_Modes.l0, if_neg (by omega)]
    have e : l.take i = l := List.take_of_length_le (by omega)
    rw [e] at hall
    unfold modesV
    by_cases hu : u.toList = [42]
    · rw [hu]
      cases hg : grantOf l [42] with
      | none => rw [hall, hg]; rfl
      | some m => rw [hall, hg]; rfl
    · rw [grantOf_none (fun j h1 h2 => hu (hj j (by omega) h2)), hall]
      rfl
  | succ d ih =>
    intro k i all hi hk hj hall
    obtain ⟨k, rfl⟩ : ∃ m, k = m + 1 := ⟨k - 1, by omega⟩
    have hlt : i < l.length := by omega
    have hw : wrap64 ((i : Int) + 1) = ((i + 1 : Nat) : Int) := by rw [wrap64_id (by omega) (by omega)]; omega
    rw [donjonref5_Modes.l0, if_pos (by omega), if_pos (by omega), hw]
    by_cases c1 : (rd_T78 l (i : Int)).f0.toList = [42]
    · rw [if_pos c1]
      have ck : keyG l i = [42] := c1
      refine ih k (i + 1) _ (by omega) (by omega) (fun j h1 h2 => ?_) ?_
      · by_cases e : j = i
        · subst e; rw [← h2]; exact ck
        · exact hj j (by omega) h2
      · rw [htake i hlt, if_pos ck, hnone i (by omega) [42] (fun j h1 h2 => by have := rising_inj hr (by omega) hlt (h2.trans ck.symm); omega)]
        rfl
    · rw [if_neg c1]
      have ck : keyG l i ≠ [42] := c1
      by_cases c2 : (rd_T78 l (i : Int)).f0.toList = u.toList
      · have ck2 : keyG l i = u.toList := c2
        rw [if_pos c2]
        unfold modesV
        rw [← ck2, grantOf_at hr hlt]
        rfl
      · rw [if_neg c2]
        refine ih k (i + 1) _ (by omega) (by omega) (fun j h1 h2 => ?_) ?_
        · by_cases e : j = i
          · subst e; exact absurd h2 c2
          · exact hj j (by omega) h2
        · rw [htake i hlt, if_neg ck]
          exact hall
theorem ref_modes_f (l : List S78) (hl : l.length ≤ 4) (hr : Rising (keyG l) l.length) (u : ByteArray) (k : Nat) (hk : 5 < k) : donjonref5_Modes.f k l u = some (modesV l u.toList) := by
  unfold donjonref5_Modes.f
  exact ref_modes_l0 l hl hr u l.length k 0 0 (by omega) (by omega) (fun j hj => by omega) rfl
theorem checks_known : donjonlaw5_known.f = some true := by decide +kernel
/-- Each user's modes. -/
theorem checks_l0 (l : List S78) (hl : l.length ≤ 4) (hr : Rising (keyG l) l.length) (us : List ByteArray) (hu : us.length ≤ 20) (d : Nat) : ∀ (k i : Nat), i + d = us.length → d + 6 < k → donjonlaw5_AclChecks.l0 k l us (i : Int) = some true := by
  induction d with
  | zero =>
    intro k i hi hk
    obtain ⟨k, rfl⟩ : ∃ m, k = m + 1 := ⟨k - 1, by omega⟩
    rw [donjonlaw5_AclChecks.l0, if_neg (by omega)]
  | succ d ih =>
    intro k i hi hk
    obtain ⟨k, rfl⟩ : ∃ m, k = m + 1 := ⟨k - 1, by omega⟩
    have hw : wrap64 ((i : Int) + 1) = ((i + 1 : Nat) : Int) := by rw [wrap64_id (by omega) (by omega)]; omega
    rw [donjonlaw5_AclChecks.l0, if_pos (by omega), if_pos (by omega), hw, ih k (i + 1) (by omega) (by omega)]
    by_cases c : ((rdOf ByteArray.empty us (i : Int)).size : Int) < 200
    · rw [if_pos c, modes_f (by omega) hr, Option.bind_some, ref_modes_f l hl hr _ k (by omega), Option.bind_some, if_pos rfl]
    · rw [if_neg c]

theorem AclChecks : ∀ (l0 : List (S78)) (l1 : List ByteArray), (l0.length ≤ maxLen ∧ l0.length * 24 ≤ 140737488351232 ∧ ∀ x ∈ l0, g_T78 x) → (l1.length ≤ maxLen ∧ l1.length * 16 ≤ 140737488351232 ∧ ∀ x ∈ l1, x.size ≤ 140737488351232) → ∃ k, donjonlaw5_AclChecks.f k l0 l1 = some true := by
  intro l us ⟨_, _, hg⟩ _
  obtain ⟨K, hK⟩ : ∃ K : Nat, 140737488351232 + 100 < K := ⟨140737488351232 + 101, by omega⟩
  refine ⟨K + 1, ?_⟩
  unfold donjonlaw5_AclChecks.f
  rw [checks_known, Option.bind_some, if_pos rfl]
  have hB : ∀ i : Nat, i < l.length → (rd_T78 l (i : Int)).f0.size ≤ 140737488351232 := by
    intro i hi
    rw [rd_get hi]
    exact (hg l[i] (List.getElem_mem hi)).1
  by_cases c1 : (l.length : Int) > 20
  · rw [if_pos c1, donjonlaw5_AclChecks.j0, if_pos rfl]
  rw [if_neg c1]
  by_cases c2 : (us.length : Int) > 20
  · rw [decide_eq_true c2, donjonlaw5_AclChecks.j0, if_pos rfl]
  rw [decide_eq_false c2, donjonlaw5_AclChecks.j0, if_neg (by simp), check_f K (by omega) l, Option.bind_some, ref_check_f l _ hB (by omega) K (by omega), Option.bind_some, if_pos rfl, Option.bind_some]
  by_cases c3 : checkV l = 0
  · rw [if_pos c3]
    obtain ⟨h1, h2⟩ := good_of_check c3
    exact checks_l0 l h1 (rising_of_good h2) us (by omega) us.length K 0 (by omega) (by omega)
  · rw [if_neg c3]
end Go.Proofs.Ytcjkekdmmjfgeaa.Pure
