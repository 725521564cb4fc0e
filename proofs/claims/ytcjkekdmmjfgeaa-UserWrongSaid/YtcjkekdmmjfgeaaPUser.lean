/- Users in plain numbers and texts: some users, who is found, who may enter. -/
import Derived.Test.YtcjkekdmmjfgeaaF35
import Derived.Test.YtcjkekdmmjfgeaaF31
import Derived.Test.YtcjkekdmmjfgeaaF32
import Derived.Test.YtcjkekdmmjfgeaaPHashOf
import Derived.Test.YtcjkekdmmjfgeaaPLab
namespace Go.Proofs.Ytcjkekdmmjfgeaa.Pure
open Go.RowKit Go.Proofs.Ytcjkekdmmjfgeaa.X Go.Proofs.YtcjkekdmmjfgeaaW.PrintWords Go.Proofs.YtcjkekdmmjfgeaaW.PrintLast Go.Proofs.Ytcjkekdmmjfgeaa.Lib

def keyU (l : List S58) (i : Nat) : List UInt8 := (rd_T58 l (i : Int)).f0.toList
theorem rdU_get {l : List S58} {i : Nat} (h : i < l.length) : rd_T58 l (i : Int) = l[i] := by
  unfold rd_T58
  simp [List.getD_eq_getElem?_getD, h]
theorem parted_of {l : List S58} (hr : Rising (keyU l) l.length) (name : ByteArray) : partedU l name := by
  intro i hi j hj hij hlt
  exact rising_parted hr name.toList i j hij hj hlt
theorem find_is {l : List S58} (hl : l.length ≤ 1000000) (hr : Rising (keyU l) l.length) (name : ByteArray) (i : Nat) (hi : i < l.length) (e : keyU l i = name.toList) : user_Find.f l name = some (userParts (rd_T58 l (i : Int)) true) := by
  have hp : placeU l name = i := rising_place hr hi e
  unfold user_Find.f
  rw [if_pos hl, if_pos (parted_of hr name), hp, if_pos ⟨hi, e⟩]
theorem find_not {l : List S58} (hl : l.length ≤ 1000000) (hr : Rising (keyU l) l.length) (name : ByteArray) (h : ∀ i, i < l.length → keyU l i ≠ name.toList) : user_Find.f l name = some (userParts z58 false) := by
  unfold user_Find.f
  rw [if_pos hl, if_pos (parted_of hr name), if_neg (fun h2 => h _ h2.1 h2.2)]

/-- The names of some users. -/
def nmB (i : Nat) : ByteArray := strOfNums [(97 + (i : Int)) % 256]
def goodL (x : S54) : S54 := ⟨x.f0 % 4, x.f1 % 256, x.f2 % 4, x.f3 % 256⟩
def mkU (l : List S54) (i : Nat) : S58 := ⟨nmB i, (i : Int) * 7, ofV ((i : Int) * 7) (nmB i ++ nmB i), goodL (rd_T54 l (i : Int)), (Int.tmod (i : Int) 2 == 0)⟩
/-- Users a, b, .. whose words are theirs twice, of labels. -/
def usersV (l : List S54) : List S58 := (List.range (min l.length 8)).map (mkU l)
theorem usersV_length (l : List S54) : (usersV l).length = min l.length 8 := by simp [usersV]
theorem usersV_get (l : List S54) {i : Nat} (h : i < (usersV l).length) : rd_T58 (usersV l) (i : Int) = mkU l i := by
  rw [rdU_get h]
  simp [usersV]
theorem nmB_size (i : Nat) : (nmB i).size = 1 := rfl
theorem nmB2_size (i : Nat) : (nmB i ++ nmB i).size = 2 := by rw [ByteArray.size_append]; rfl
theorem some_l0 (l : List S54) (d : Nat) : ∀ (k i : Nat), i + d = min l.length 8 → 2 * d + 30 < k → donjonlaw9_Some.l0 k l ((List.range i).map (mkU l)) (i : Int) = some (usersV l) := by
  induction d with
  | zero =>
    intro k i hi hk
    obtain ⟨k, rfl⟩ : ∃ m, k = m + 2 := ⟨k - 2, by omega⟩
    have hend : donjonlaw9_Some.j1 (k + 1) l ((List.range i).map (mkU l)) (i : Int) false = some (usersV l) := by
      rw [donjonlaw9_Some.j1, if_neg (by simp)]
      have : i = min l.length 8 := by omega
      rw [this]
      rfl
    rw [donjonlaw9_Some.l0]
    by_cases h : (i : Int) < (l.length : Int)
    · rw [if_pos h, decide_eq_false (by omega)]
      exact hend
    · rw [if_neg h]
      exact hend
  | succ d ih =>
    intro k i hi hk
    obtain ⟨k, rfl⟩ : ∃ m, k = m + 2 := ⟨k - 2, by omega⟩
    have hi8 : i < 8 := by omega
    have hil : i < l.length := by omega
    have w1 : wrap64 (97 + (i : Int)) = 97 + (i : Int) := wrap64_id (by omega) (by omega)
    have w2 : wrap64 ((i : Int) * 7) = (i : Int) * 7 := wrap64_id (by omega) (by omega)
    have w3 : wrap64 ((i : Int) + 1) = ((i + 1 : Nat) : Int) := by rw [wrap64_id (by omega) (by omega)]; omega
    have hn : strOfNums [(97 + (i : Int)) % 256] = nmB i := rfl
    rw [donjonlaw9_Some.l0, if_pos (by omega), decide_eq_true (by omega), donjonlaw9_Some.j1, if_pos rfl, Option.bind_some, w1, w2, w3, hn, nmB_size, if_pos (by decide), ref_of_f _ _ (by rw [nmB2_size]; decide) k (by rw [nmB2_size]; omega), Option.bind_some, if_pos (by omega), if_pos (by omega), good4_f, Option.bind_some,
      if_pos (by rw [List.length_map, List.length_range]; omega)]
    have hnext := ih k (i + 1) (by omega) (by omega)
    rw [List.range_succ, List.map_append] at hnext
    exact hnext
theorem some_f (l : List S54) (k : Nat) (hk : 50 < k) : donjonlaw9_Some.f k l = some (usersV l) := by
  unfold donjonlaw9_Some.f
  exact some_l0 l (min l.length 8) k 0 (by omega) (by omega)
theorem nmB_rises : ∀ i j : Fin 8, i < j → Op.bytesLess (nmB i.val).toList (nmB j.val).toList = true := by decide +kernel
theorem users_rising (l : List S54) : Rising (keyU (usersV l)) (usersV l).length := by
  intro i j hij hj
  have hl := usersV_length l
  unfold keyU
  rw [usersV_get l (by omega), usersV_get l hj]
  exact nmB_rises ⟨i, by omega⟩ ⟨j, by omega⟩ hij
theorem users_le (l : List S54) : (usersV l).length ≤ 8 := by rw [usersV_length]; omega
/-- Whether a word is a user's, and a label is one that they are cleared for. -/
def enterV (u : S58) (word : ByteArray) (s c i d : Int) : Int := if ofV u.f1 word = u.f2 ∧ overV u.f3.f0 u.f3.f1 u.f3.f2 u.f3.f3 s c i d = true then 0 else 21
theorem enter_is {l : List S58} (hl : l.length ≤ 1000000) (hr : Rising (keyU l) l.length) (name word : ByteArray) (hw : word.size ≤ 140737488355000) (p : Nat) (hp : p < l.length) (e : keyU l p = name.toList) {s c i d : Int}
    (hu : Lab (rd_T58 l (p : Int)).f3.f0 (rd_T58 l (p : Int)).f3.f1 (rd_T58 l (p : Int)).f3.f2 (rd_T58 l (p : Int)).f3.f3) (ha : Lab s c i d) (k : Nat) (hk : 17 + word.size < k) :
    user_Enter.f k l name word s c i d = some (enterV (rd_T58 l (p : Int)) word s c i d) := by
  unfold user_Enter.f enterV
  rw [find_is hl hr name p hp e, Option.bind_some]
  refine (if_pos rfl).trans ?_
  show (hash_Of.f k (rd_T58 l (p : Int)).f1 word).bind _ = _
  rw [of_f _ _ hw k hk, Option.bind_some]
  by_cases h : ofV (rd_T58 l (p : Int)).f1 word = (rd_T58 l (p : Int)).f2
  · refine (if_pos h).trans ?_
    show (label_Over.f (rd_T58 l (p : Int)).f3.f0 (rd_T58 l (p : Int)).f3.f1 (rd_T58 l (p : Int)).f3.f2 (rd_T58 l (p : Int)).f3.f3 s c i d).bind _ = _
    rw [over_f hu ha, Option.bind_some]
    by_cases h2 : overV (rd_T58 l (p : Int)).f3.f0 (rd_T58 l (p : Int)).f3.f1 (rd_T58 l (p : Int)).f3.f2 (rd_T58 l (p : Int)).f3.f3 s c i d = true
    · rw [if_pos h2, if_pos ⟨h, h2⟩]
    · rw [if_neg h2, if_neg (fun h3 => h2 h3.2)]
  · refine (if_neg h).trans ?_
    rw [if_neg (fun h3 => h h3.1)]
theorem enter_not {l : List S58} (hl : l.length ≤ 1000000) (hr : Rising (keyU l) l.length) (name word : ByteArray) (h : ∀ i, i < l.length → keyU l i ≠ name.toList) (s c i d : Int) (k : Nat) : user_Enter.f k l name word s c i d = some 21 := by
  unfold user_Enter.f
  rw [find_not hl hr name h, Option.bind_some]
  exact if_neg Bool.false_ne_true
theorem known9 (k : Nat) : donjonlaw9_known.f k = some true := by
  unfold donjonlaw9_known.f
  rw [enter_not (l := []) (by simp) (fun i j _ hj => by simp at hj) _ _ (fun i hi => by simp at hi)]
  rfl
theorem mkU_lab (l : List S54) (i : Nat) : Lab (mkU l i).f3.f0 (mkU l i).f3.f1 (mkU l i).f3.f2 (mkU l i).f3.f3 := lab_good _ _ _ _
end Go.Proofs.Ytcjkekdmmjfgeaa.Pure
