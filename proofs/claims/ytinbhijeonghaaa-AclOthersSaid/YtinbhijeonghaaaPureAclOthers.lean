/- AclOthers, over numbers and lists: what was set for one changes nobody else's modes, but what was set for all that of those who have none. For every input. -/
import Derived.Test.YtinbhijeonghaaaF3
import Derived.Test.YtinbhijeonghaaaPAclSet
import Derived.Test.YtinbhijeonghaaaHO
namespace Go.Proofs.Ytinbhijeonghaaa.Pure
open Go.RowKit Go.Proofs.Ytinbhijeonghaaa.X Go.Proofs.YtinbhijeonghaaaW.PrintWords Go.Proofs.YtinbhijeonghaaaW.PrintLast Go.Proofs.Ytinbhijeonghaaa.Lib

theorem wNextO {i : Nat} (h : i < 1000000) : wrap64 ((i : Int) + 1) = ((i + 1 : Nat) : Int) := by rw [wrap64_id (by omega) (by omega)]; omega
theorem star_list : (⟨#[42]⟩ : ByteArray).toList = [42] := by decide +kernel
theorem grantOf_app (X Y : List Gr) (v : List UInt8) : grantOf (X ++ Y) v = (grantOf X v).or (grantOf Y v) := by
  unfold grantOf
  rw [List.find?_append]
  cases X.find? (fun g => g.f0.toList == v) <;> rfl
theorem grantOf_one (u : ByteArray) (m : Int) (v : List UInt8) : grantOf [(⟨u, m⟩ : Gr)] v = if u.toList = v then some m else none := by
  unfold grantOf
  by_cases h : u.toList = v
  · rw [if_pos h, List.find?_cons_of_pos (by simp [h])]
    rfl
  · rw [if_neg h, List.find?_cons_of_neg (by simp [h])]
    rfl
theorem grantOf_less {A : List Gr} {u : List UInt8} (h : ∀ x ∈ A, x.f0.toList ≠ u) : grantOf A u = none := by
  unfold grantOf
  rw [List.find?_eq_none.2 (fun x hx => by have := h x hx; simpa using this)]
  rfl
section
variable {l : List Gr} {u : ByteArray} {m : Int} {A M B : List Gr} (hP : Parts l u A M B)
include hP
theorem A_none : grantOf A u.toList = none := grantOf_less (fun x hx e => by have := hP.less x hx; rw [e, blt_irrefl] at this; exact absurd this (by simp))
theorem B_none : grantOf B u.toList = none := grantOf_less (fun x hx e => by have := hP.more x hx; rw [e, blt_irrefl] at this; exact absurd this (by simp))
/-- Who is not the one keeps what they had. -/
theorem grant_other {v : List UInt8} (hv : v ≠ u.toList) (he : (setV u m A M B).2 = 0) : grantOf (setV u m A M B).1 v = grantOf l v := by
  have hM : grantOf M v = none := by
    rcases hP.mid with rfl | ⟨x, rfl⟩
    · rfl
    · rw [grantOf_one, if_neg (fun e => hv e.symm)]
  have hl : grantOf l v = (grantOf A v).or (grantOf B v) := by rw [hP.all, grantOf_app, grantOf_app, hM, Option.or_none]
  unfold setV at he ⊢
  by_cases h1 : whoB u = false ∨ m < 0 ∨ m > 7
  · rw [if_pos h1] at he
    exact absurd he (by simp)
  · rw [if_neg h1] at he ⊢
    by_cases h2 : m = 0
    · rw [if_pos h2] at he ⊢
      by_cases h3 : M = []
      · rw [if_pos h3] at he
        exact absurd he (by simp)
      · rw [if_neg h3, hl]
        exact grantOf_app _ _ _
    · rw [if_neg h2] at he ⊢
      by_cases h3 : (A ++ B).length ≥ 4
      · rw [if_pos h3] at he
        exact absurd he (by simp)
      · rw [if_neg h3, hl]
        show grantOf (A ++ [(⟨u, m⟩ : Gr)] ++ B) v = _
        rw [grantOf_app, grantOf_app, grantOf_one, if_neg (fun e => hv e.symm), Option.or_none]
/-- The one has what was set. -/
theorem grant_self (he : (setV u m A M B).2 = 0) : grantOf (setV u m A M B).1 u.toList = if m = 0 then none else some m := by
  unfold setV at he ⊢
  by_cases h1 : whoB u = false ∨ m < 0 ∨ m > 7
  · rw [if_pos h1] at he
    exact absurd he (by simp)
  · rw [if_neg h1] at he ⊢
    by_cases h2 : m = 0
    · rw [if_pos h2] at he ⊢
      by_cases h3 : M = []
      · rw [if_pos h3] at he
        exact absurd he (by simp)
      · rw [if_neg h3, if_pos h2]
        show grantOf (A ++ B) u.toList = none
        rw [grantOf_app, A_none hP, B_none hP]
        rfl
    · rw [if_neg h2] at he ⊢
      by_cases h3 : (A ++ B).length ≥ 4
      · rw [if_pos h3] at he
        exact absurd he (by simp)
      · rw [if_neg h3, if_neg h2]
        show grantOf (A ++ [(⟨u, m⟩ : Gr)] ++ B) u.toList = _
        rw [grantOf_app, grantOf_app, grantOf_one, if_pos rfl, A_none hP, B_none hP]
        rfl
end
theorem modes_ok {l : List Gr} (hl : checkV l = 0) (u : ByteArray) : acl_Modes.f l u = some (modesV l u.toList) := by
  obtain ⟨h4, hg⟩ := good_of_check hl
  exact modes_f (by omega) (rising_of_good hg) u
theorem own_of_any (l : List Gr) (v : List UInt8) : (l.any (fun x => x.f0.toList == v) = true) ↔ (grantOf l v).isSome = true := by
  unfold grantOf
  rw [Option.isSome_map, List.find?_isSome, List.any_eq_true]
theorem others_end {l R : List Gr} (hl : checkV l = 0) (hR : checkV R = 0) {u : ByteArray} {m : Int} {v : ByteArray} (hv : v.toList ≠ u.toList) (_h0 : 0 ≤ m) (hself : grantOf R u.toList = if m = 0 then none else some m) (hother : ∀ w, w ≠ u.toList → grantOf R w = grantOf l w) :
    ∀ (n i : Nat) (k : Nat), i + n = l.length → n + 4 < k → donjonlaw5_AclOthers.l1 k u m v l R ((l.take i).any (fun x => x.f0.toList == v.toList)) (i : Int) = some true := by
  have h4 := checkV_le hl
  have hvv : grantOf R v.toList = grantOf l v.toList := hother _ hv
  have fin : ∀ k, 3 < k → (if u.toList = ([42] : List UInt8) then (if l.any (fun x => x.f0.toList == v.toList) = true then (donjonlaw5_AclOthers.j4 k u m v l R (v.toList == ([42] : List UInt8))) else (donjonlaw5_AclOthers.j4 k u m v l R true)) else (donjonlaw5_AclOthers.j4 k u m v l R false)) = some true := by
    intro k hk
    obtain ⟨k, rfl⟩ : ∃ q, k = q + 2 := ⟨k - 2, by omega⟩
    by_cases hu : u.toList = [42]
    · rw [if_pos hu]
      have hv42 : (v.toList == ([42] : List UInt8)) = false := beq_eq_false_iff_ne.2 (fun e => hv (e.trans hu.symm))
      by_cases ha : l.any (fun x => x.f0.toList == v.toList) = true
      · obtain ⟨q, hq⟩ := Option.isSome_iff_exists.1 ((own_of_any l v.toList).1 ha)
        rw [if_pos ha, hv42, donjonlaw5_AclOthers.j4, if_neg (by simp), if_pos hu, donjonlaw5_AclOthers.j5, if_neg (by simp), modes_ok hR, Option.bind_some, modes_ok hl, Option.bind_some]
        unfold modesV
        rw [hvv, hq]
        simp
      · have hn : grantOf l v.toList = none := by
          cases hq : grantOf l v.toList with
          | none => rfl
          | some q => exact absurd ((own_of_any l v.toList).2 (by rw [hq]; rfl)) ha
        rw [if_neg ha, donjonlaw5_AclOthers.j4, if_pos rfl, modes_ok hR, Option.bind_some]
        unfold modesV
        rw [hvv, hn, ← hu, hself]
        by_cases hm : m = 0
        · rw [if_pos hm, hm]
          rfl
        · rw [if_neg hm]
          simp
    · rw [if_neg hu, donjonlaw5_AclOthers.j4, if_neg (by simp), if_neg hu]
      have hlast : ∀ b, b = false → donjonlaw5_AclOthers.j5 (k + 1) v l R b = some true := by
        rintro b rfl
        rw [donjonlaw5_AclOthers.j5, if_neg (by simp), modes_ok hR, Option.bind_some, modes_ok hl, Option.bind_some]
        unfold modesV
        rw [hvv, hother [42] (fun e => hu e.symm)]
        simp
      by_cases hm : m > 0
      · rw [if_pos hm, modes_ok hR, Option.bind_some]
        refine hlast _ ?_
        unfold modesV
        rw [hself, if_neg (by omega)]
        simp
      · rw [if_neg hm]
        exact hlast _ rfl
  intro n
  induction n with
  | zero =>
    intro i k hi hk
    obtain ⟨k, rfl⟩ : ∃ q, k = q + 1 := ⟨k - 1, by omega⟩
    rw [donjonlaw5_AclOthers.l1, if_neg (by omega), List.take_of_length_le (by omega)]
    exact fin k (by omega)
  | succ n ih =>
    intro i k hi hk
    obtain ⟨k, rfl⟩ : ∃ q, k = q + 1 := ⟨k - 1, by omega⟩
    have hlt : i < l.length := by omega
    have hr := ih (i + 1) k (by omega) (by omega)
    rw [show l.take (i + 1) = l.take i ++ [l[i]] by rw [List.take_add_one, List.getElem?_eq_getElem hlt]; rfl, List.any_append, List.any_cons, List.any_nil, Bool.or_false] at hr
    rw [donjonlaw5_AclOthers.l1, if_pos (by omega), wNextO (by omega), rd_get hlt]
    by_cases ha : (l.take i).any (fun x => x.f0.toList == v.toList) = true
    · rw [if_pos ha]
      rw [ha, Bool.true_or] at hr
      exact hr
    · rw [if_neg ha, if_pos (by omega)]
      rw [Bool.eq_false_iff.2 ha, Bool.false_or] at hr
      exact hr
theorem others_l (x0 : List S29) (u : ByteArray) (m : Int) (v : ByteArray) : ∀ (n i : Nat) (l : List Gr), i + n = 20 → checkV l = 0 → ∀ k, 40 + 2 * n < k → donjonlaw5_AclOthers.l0 k x0 u m v l (i : Int) = some true := by
  have hend : ∀ (i : Int) (l : List Gr), checkV l = 0 → ∀ k, 38 < k → donjonlaw5_AclOthers.j1 k x0 u m v l i false = some true := by
    intro i l hl k hk
    obtain ⟨k, rfl⟩ : ∃ q, k = q + 2 := ⟨k - 2, by omega⟩
    obtain ⟨t, et, t0, t1, _⟩ := within_small (a := m) (n := 8) (by omega) (by omega)
    obtain ⟨A, M, B, hP, hp⟩ := parts_f hl u
    have hj : donjonlaw5_AclOthers.j2 (k + 1) u t v l (setV u t A M B).1 true = some true := by rw [donjonlaw5_AclOthers.j2, if_pos rfl]
    rw [donjonlaw5_AclOthers.j1, if_neg (by simp), show donjonlaw5_within.f m 8 = some t from et, Option.bind_some, set_f (k + 1) (by omega) hl u t hP hp, Option.bind_some]
    by_cases he : (setV u t A M B).2 = 0
    · rw [if_pos he]
      by_cases hv : v.toList = u.toList
      · rw [if_pos hv]
        exact hj
      · rw [if_neg hv]
        by_cases hs : (v.size : Int) > 200
        · rw [decide_eq_true hs]
          exact hj
        · rw [decide_eq_false hs, donjonlaw5_AclOthers.j2, if_neg (by simp)]
          have h := others_end hl (set_good hl hP he) hv t0 (grant_self hP he) (fun w hw => grant_other hP hw he) l.length 0 k (by omega) (by have := checkV_le hl; omega)
          exact h
    · rw [if_neg he]
      exact hj
  intro n
  induction n with
  | zero =>
    intro i l hi hl k hk
    obtain ⟨k, rfl⟩ : ∃ q, k = q + 1 := ⟨k - 1, by omega⟩
    rw [donjonlaw5_AclOthers.l0, decide_eq_false (by omega), ite_self]
    exact hend _ l hl k (by omega)
  | succ n ih =>
    intro i l hi hl k hk
    obtain ⟨k, rfl⟩ : ∃ q, k = q + 2 := ⟨k - 2, by omega⟩
    rw [donjonlaw5_AclOthers.l0, decide_eq_true (by omega)]
    by_cases h0 : (i : Int) < (x0.length : Int)
    · obtain ⟨A, M, B, hP, hp⟩ := parts_f hl (rd_T29 x0 (i : Int)).f0
      rw [if_pos h0, donjonlaw5_AclOthers.j1, if_pos rfl, if_pos (by omega), if_pos h0, wNextO (by omega), set_f k (by omega) hl _ _ hP hp, Option.bind_some]
      by_cases he : (setV (rd_T29 x0 (i : Int)).f0 (rd_T29 x0 (i : Int)).f1 A M B).2 = 0
      · rw [if_pos he]
        exact ih (i + 1) _ (by omega) (set_good hl hP he) k (by omega)
      · rw [if_neg he]
        exact ih (i + 1) l (by omega) hl k (by omega)
    · rw [if_neg h0]
      exact hend _ l hl (k + 1) (by omega)
theorem AclOthers : ∀ (l0 : List (S29)) (a1 : ByteArray) (a2 : Int) (a3 : ByteArray), (l0.length ≤ maxLen ∧ l0.length * 24 ≤ 140737488351232 ∧ ∀ y_ ∈ l0, g_T29 y_) → a1.size ≤ 140737488351232 → (Lit.int .i64 a2).wf = true → a3.size ≤ 140737488351232 → ∃ k, donjonlaw5_AclOthers.f k l0 a1 a2 a3 = some true := by
  intro l0 a1 a2 a3 _ _ _ _
  refine ⟨100, ?_⟩
  unfold donjonlaw5_AclOthers.f
  rw [show donjonlaw5_known.f = some true by decide +kernel, Option.bind_some, if_pos rfl]
  exact others_l l0 a1 a2 a3 20 0 [] (by omega) (by decide +kernel) 100 (by omega)
end Go.Proofs.Ytinbhijeonghaaa.Pure
