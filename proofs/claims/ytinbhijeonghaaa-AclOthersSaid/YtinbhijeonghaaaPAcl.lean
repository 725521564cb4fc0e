/- Lists of who may, in plain numbers and texts: what a check says, where a grant stands, what modes a user has. -/
import Derived.Test.YtinbhijeonghaaaF14
import Derived.Test.YtinbhijeonghaaaF11
import Derived.Test.YtinbhijeonghaaaTxt
namespace Go.Proofs.Ytinbhijeonghaaa.Pure
open Go.RowKit Go.Proofs.Ytinbhijeonghaaa.X Go.Proofs.YtinbhijeonghaaaW.PrintWords Go.Proofs.YtinbhijeonghaaaW.PrintLast Go.Proofs.Ytinbhijeonghaaa.Lib

/-- The user that stands at a place. -/
def keyG (l : List S31) (i : Nat) : List UInt8 := (rd_T31 l (i : Int)).f0.toList
def whoB (s : ByteArray) : Bool := s.toList == [42] || okName s
/-- Is the grant at a place such as may be? -/
def goodAt (l : List S31) (i : Nat) : Bool :=
  whoB (rd_T31 l (i : Int)).f0 && ((decide (i = 0) || Op.bytesLess (keyG l (i - 1)) (keyG l i)) && (decide (1 ≤ (rd_T31 l (i : Int)).f1) && decide ((rd_T31 l (i : Int)).f1 ≤ 7)))
/-- What is wrong with a list. -/
def checkV (l : List S31) : Int := if l.length > 4 then 4 else if (List.range l.length).all (goodAt l) = true then 0 else 1
theorem who_f (s : ByteArray) : acl_who.f s = some (whoB s) := by
  unfold acl_who.f whoB path_Name.f
  by_cases h : s.toList = [42]
  · rw [if_pos h]
    simp [h]
  · rw [if_neg h, Option.bind_some]
    have : (s.toList == [42]) = false := beq_eq_false_iff_ne.mpr h
    rw [this, Bool.false_or]
open Classical in
/-- From a place on: is every grant such as may be? -/
theorem check_l0 (l : List S31) (hl : l.length ≤ 4) (d : Nat) : ∀ (k i : Nat), i + d = l.length → d < k →
    acl_Check.l0 k l l (l.length : Int) (i : Int) = some (if ∀ j, i ≤ j → j < l.length → goodAt l j = true then 0 else 1) := by
  induction d with
  | zero =>
    intro k i hi hk
    obtain ⟨k, rfl⟩ : ∃ m, k = m + 1 := ⟨k - 1, by omega⟩
    rw [acl_Check.l0, if_neg (by omega), if_pos (fun j h1 h2 => by omega)]
  | succ d ih =>
    intro k i hi hk
    obtain ⟨k, rfl⟩ : ∃ m, k = m + 1 := ⟨k - 1, by omega⟩
    have hnext := ih k (i + 1) (by omega) (by omega)
    have ecast : ((i + 1 : Nat) : Int) = (i : Int) + 1 := by omega
    have hw : wrap64 ((i : Int) + 1) = ((i + 1 : Nat) : Int) := by rw [ecast]; exact wrap64_id (by omega) (by omega)
    have hbad : goodAt l i = false → (if ∀ j, i ≤ j → j < l.length → goodAt l j = true then (0 : Int) else 1) = 1 := by
      intro hb
      refine if_neg (fun h => ?_)
      rw [h i (by omega) (by omega)] at hb
      exact absurd hb (by simp)
    have hgood : goodAt l i = true → (if ∀ j, i ≤ j → j < l.length → goodAt l j = true then (0 : Int) else 1) = (if ∀ j, i + 1 ≤ j → j < l.length → goodAt l j = true then (0 : Int) else 1) := by
      intro hg
      by_cases h : ∀ j, i + 1 ≤ j → j < l.length → goodAt l j = true
      · rw [if_pos h, if_pos (fun j h1 h2 => ?_)]
        by_cases e : i = j
        · subst e; exact hg
        · exact h j (by omega) h2
      · rw [if_neg h, if_neg (fun h2 => h (fun j h3 h4 => h2 j (by omega) h4))]
    rw [acl_Check.l0, if_pos (by omega), if_pos (by omega), if_pos (by omega), who_f, Option.bind_some, hw, hnext]
    by_cases c1 : whoB (rd_T31 l (i : Int)).f0 = true
    · rw [if_pos c1]
      by_cases c2 : (i : Int) > 0
      · have hp : wrap64 ((i : Int) - 1) = ((i - 1 : Nat) : Int) := by rw [wrap64_id (by omega) (by omega)]; omega
        rw [if_pos c2, hp, if_pos (by omega), if_pos (by omega)]
        by_cases c3 : Op.bytesLess (keyG l (i - 1)) (keyG l i) = true
        · have c3' : Op.bytesLess (rd_T31 l ((i - 1 : Nat) : Int)).f0.toList (rd_T31 l (i : Int)).f0.toList = true := c3
          rw [if_pos c3']
          by_cases c4 : (rd_T31 l (i : Int)).f1 < 1
          · rw [if_pos c4, hbad (by unfold goodAt; simp; omega)]
          · rw [if_neg c4]
            by_cases c5 : (rd_T31 l (i : Int)).f1 > 7
            · rw [if_pos c5, hbad (by unfold goodAt; simp; omega)]
            · rw [if_neg c5, hgood (by unfold goodAt; rw [c1, c3]; simp; omega)]
        · have c3' : ¬ Op.bytesLess (rd_T31 l ((i - 1 : Nat) : Int)).f0.toList (rd_T31 l (i : Int)).f0.toList = true := c3
          have hi0 : ¬ i = 0 := by omega
          rw [if_neg c3', hbad (by unfold goodAt; simp [c3, hi0])]
      · have hi0 : i = 0 := by omega
        rw [if_neg c2]
        by_cases c4 : (rd_T31 l (i : Int)).f1 < 1
        · rw [if_pos c4, hbad (by unfold goodAt; simp; omega)]
        · rw [if_neg c4]
          by_cases c5 : (rd_T31 l (i : Int)).f1 > 7
          · rw [if_pos c5, hbad (by unfold goodAt; simp; omega)]
          · rw [if_neg c5, hgood (by unfold goodAt; rw [c1, decide_eq_true hi0]; simp; omega)]
    · rw [if_neg c1, hbad (by unfold goodAt; simp [c1])]
open Classical in
theorem checkV_of (l : List S31) (hl : l.length ≤ 4) : checkV l = (if ∀ j, 0 ≤ j → j < l.length → goodAt l j = true then 0 else 1) := by
  unfold checkV
  rw [if_neg (by omega)]
  by_cases h : ∀ j, 0 ≤ j → j < l.length → goodAt l j = true
  · rw [if_pos h, if_pos (List.all_eq_true.2 (fun j hj => h j (by omega) (List.mem_range.1 hj)))]
  · rw [if_neg h, if_neg (fun h2 => h (fun j _ h3 => List.all_eq_true.1 h2 j (List.mem_range.2 h3)))]
open Classical in
theorem check_f (k : Nat) (hk : 5 < k) (l : List S31) : acl_Check.f k l = some (checkV l) := by
  unfold acl_Check.f
  by_cases h : (l.length : Int) > 4
  · rw [if_pos h]
    unfold checkV
    rw [if_pos (by omega)]
  · rw [if_neg h, checkV_of l (by omega)]
    exact check_l0 l (by omega) l.length k 0 (by omega) (by omega)
/-- What a list is that may be. -/
theorem good_of_check {l : List S31} (h : checkV l = 0) : l.length ≤ 4 ∧ ∀ i, i < l.length → goodAt l i = true := by
  unfold checkV at h
  by_cases h1 : l.length > 4
  · rw [if_pos h1] at h
    exact absurd h (by decide)
  · rw [if_neg h1] at h
    by_cases h2 : (List.range l.length).all (goodAt l) = true
    · exact ⟨by omega, fun i hi => List.all_eq_true.1 h2 i (List.mem_range.2 hi)⟩
    · rw [if_neg h2] at h
      exact absurd h (by decide)
theorem check_of_good {l : List S31} (h1 : l.length ≤ 4) (h2 : ∀ i, i < l.length → goodAt l i = true) : checkV l = 0 := by
  unfold checkV
  rw [if_neg (by omega), if_pos (List.all_eq_true.2 (fun i hi => h2 i (List.mem_range.1 hi)))]
theorem rising_of_good {l : List S31} (h : ∀ i, i < l.length → goodAt l i = true) : Rising (keyG l) l.length := by
  refine rising_of_steps _ _ (fun i h0 hi => ?_)
  have := h i hi
  unfold goodAt at this
  simp only [Bool.and_eq_true, Bool.or_eq_true, decide_eq_true_eq] at this
  rcases this.2.1 with h1 | h1
  · omega
  · exact h1
theorem who_of_good {l : List S31} {i : Nat} (h : goodAt l i = true) : whoB (rd_T31 l (i : Int)).f0 = true := by
  unfold goodAt at h
  simp only [Bool.and_eq_true] at h
  exact h.1
theorem modes_of_good {l : List S31} {i : Nat} (h : goodAt l i = true) : 1 ≤ (rd_T31 l (i : Int)).f1 ∧ (rd_T31 l (i : Int)).f1 ≤ 7 := by
  unfold goodAt at h
  simp only [Bool.and_eq_true, decide_eq_true_eq] at h
  exact h.2.2

/-- Where a user's grant stands, or would. -/
theorem place_f {l : List S31} (hl : l.length ≤ 1000000) (hr : Rising (keyG l) l.length) (u : ByteArray) :
    ∃ (m : Nat) (is : Bool), acl_place.f l u = some ((m : Int), is) ∧ m ≤ l.length ∧ (∀ i, i < m → Op.bytesLess (keyG l i) u.toList = true) ∧ (∀ i, m ≤ i → i < l.length → Op.bytesLess (keyG l i) u.toList = false) ∧
      (is = true → m < l.length ∧ keyG l m = u.toList) ∧ (is = false → ∀ i, i < l.length → keyG l i ≠ u.toList) := by
  obtain ⟨m, hm, h1, h2⟩ := rising_cut hr u.toList
  have hp : placeG l u = m := count_prefix _ m l.length hm h1 h2
  refine ⟨m, (if m < l.length then ((rd_T31 l (m : Int)).f0.toList == u.toList) else false), ?_, hm, h1, h2, ?_, ?_⟩
  · have hc : sortedG l = true ∧ (∀ i : Nat, i < l.length → ∀ j : Nat, j < l.length → i ≤ j → txtLt (rd_T31 l (i : Int)).f0 u = false → txtLt (rd_T31 l (j : Int)).f0 u = false) := by
      refine ⟨?_, fun i hi j hj hij hlt => rising_parted hr u.toList i j hij hj hlt⟩
      unfold sortedG
      exact decide_eq_true (fun a ha b hb hab => blt_asymm _ _ (hr a b hab hb))
    unfold acl_place.f
    rw [if_pos hl, if_pos hc, hp]
  · intro h
    by_cases hlt : m < l.length
    · rw [if_pos hlt] at h
      exact ⟨hlt, beq_iff_eq.1 h⟩
    · rw [if_neg hlt] at h
      exact absurd h (by simp)
  · intro h i hi e
    have hi2 : i = m := by
      have h3 := rising_place hr hi e
      have h4 : (List.range l.length).countP (fun i => Op.bytesLess (keyG l i) u.toList) = m := hp
      omega
    subst hi2
    rw [if_pos hi] at h
    exact absurd e (beq_eq_false_iff_ne.1 h)
/-- The modes that stand for a user, if any do. -/
def grantOf (l : List S31) (u : List UInt8) : Option Int := (l.find? (fun g => g.f0.toList == u)).map (fun g => g.f1)
def modesV (l : List S31) (u : List UInt8) : Int := (grantOf l u).getD ((grantOf l [42]).getD 0)
theorem rd_get {l : List S31} {i : Nat} (h : i < l.length) : rd_T31 l (i : Int) = l[i] := by
  unfold rd_T31
  simp [List.getD_eq_getElem?_getD, h]
theorem grantOf_at {l : List S31} (hr : Rising (keyG l) l.length) {i : Nat} (hi : i < l.length) : grantOf l (keyG l i) = some (rd_T31 l (i : Int)).f1 := by
  unfold grantOf
  have : l.find? (fun g => g.f0.toList == keyG l i) = some (rd_T31 l (i : Int)) := by
    rw [rd_get hi, List.find?_eq_some_iff_getElem]
    refine ⟨?_, i, hi, rfl, fun j hj => ?_⟩
    · unfold keyG
      rw [rd_get hi]
      simp
    · have hne : keyG l j ≠ keyG l i := fun e => by have := rising_inj hr (by omega) hi e; omega
      unfold keyG at hne
      rw [rd_get (by omega : j < l.length), rd_get hi] at hne
      unfold keyG
      rw [rd_get hi]
      simpa using hne
  rw [this]
  rfl
theorem grantOf_none {l : List S31} {u : List UInt8} (h : ∀ i, i < l.length → keyG l i ≠ u) : grantOf l u = none := by
  unfold grantOf
  have : l.find? (fun g => g.f0.toList == u) = none := by
    rw [List.find?_eq_none]
    intro x hx
    obtain ⟨i, hi, rfl⟩ := List.mem_iff_getElem.1 hx
    have := h i hi
    unfold keyG at this
    rw [rd_get hi] at this
    simpa using this
  rw [this]
  rfl
theorem modes_f {l : List S31} (hl : l.length ≤ 1000000) (hr : Rising (keyG l) l.length) (u : ByteArray) : acl_Modes.f l u = some (modesV l u.toList) := by
  obtain ⟨m, is, hp, hm, _, _, h1, h2⟩ := place_f hl hr u
  obtain ⟨m', is', hp', hm', _, _, h1', h2'⟩ := place_f hl hr (⟨#[42]⟩ : ByteArray)
  have es : (⟨#[42]⟩ : ByteArray).toList = [42] := by decide +kernel
  rw [es] at h1' h2'
  unfold acl_Modes.f modesV
  rw [hp, Option.bind_some]
  cases is with
  | true =>
    obtain ⟨hlt, hk⟩ := h1 rfl
    rw [if_pos rfl, if_pos (by omega), if_pos (by show (m : Int) < _; omega), ← hk, grantOf_at hr hlt]
    rfl
  | false =>
    rw [if_neg (by simp), hp', Option.bind_some, grantOf_none (h2 rfl)]
    cases is' with
    | true =>
      obtain ⟨hlt, hk⟩ := h1' rfl
      rw [if_pos rfl, if_pos (by omega), if_pos (by show (m' : Int) < _; omega), ← hk, grantOf_at hr hlt]
      rfl
    | false =>
      rw [if_neg (by simp), grantOf_none (h2' rfl)]
      rfl
end Go.Proofs.Ytinbhijeonghaaa.Pure
