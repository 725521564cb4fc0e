/- AclPlays, over numbers and lists: whatever is set, one behind the other, such as may not be, too, the list is the document's, and may be; the one ahead stays as it was. For every input. -/
import Derived.Test.YtinbhijeonghaaaF5
import Derived.Test.YtinbhijeonghaaaPAclSet
import Derived.Test.YtinbhijeonghaaaPAclName
import Derived.Test.YtinbhijeonghaaaHO
namespace Go.Proofs.Ytinbhijeonghaaa.Pure
open Go.RowKit Go.Proofs.Ytinbhijeonghaaa.X Go.Proofs.YtinbhijeonghaaaW.PrintWords Go.Proofs.YtinbhijeonghaaaW.PrintLast Go.Proofs.Ytinbhijeonghaaa.Lib

theorem wNextG {i : Nat} (h : i < 1000000) : wrap64 ((i : Int) + 1) = ((i + 1 : Nat) : Int) := by rw [wrap64_id (by omega) (by omega)]; omega
theorem same_l (L : List Gr) (hL : L.length ≤ 1000) : ∀ (n i : Nat), i + n = L.length → ∀ k, n < k → donjonlaw5_same.l0 k L L (i : Int) = some true := by
  intro n
  induction n with
  | zero =>
    intro i hi k hk
    obtain ⟨k, rfl⟩ : ∃ q, k = q + 1 := ⟨k - 1, by omega⟩
    rw [donjonlaw5_same.l0, if_neg (by omega)]
  | succ n ih =>
    intro i hi k hk
    obtain ⟨k, rfl⟩ : ∃ q, k = q + 1 := ⟨k - 1, by omega⟩
    rw [donjonlaw5_same.l0, if_pos (by omega), if_pos (by omega), if_pos (by omega), if_neg (by simp), wNextG (by omega)]
    exact ih (i + 1) (by omega) k (by omega)
theorem same_f (L : List Gr) (hL : L.length ≤ 1000) (k : Nat) (hk : L.length < k) : donjonlaw5_same.f k L L = some true := by
  unfold donjonlaw5_same.f
  rw [if_pos rfl]
  exact same_l L hL L.length 0 (by omega) k hk
/-- The document's: all but the user's own grant. -/
def restOf (u : ByteArray) (l : List Gr) : List Gr := l.filter (fun x => !(x.f0.toList == u.toList))
theorem rset_l1 (u : ByteArray) (m : Int) (A B : List Gr) (hA : ∀ x ∈ A, Op.bytesLess x.f0.toList u.toList = true) (hB : ∀ x ∈ B, Op.bytesLess u.toList x.f0.toList = true) (hl : (A ++ B).length ≤ 4) : ∀ (n i : Nat), i + n = A.length → ∀ k, n < k →
    donjonref5_Set.l1 k u m (A ++ B) (i : Int) = some (A ++ [⟨u, m⟩] ++ B, 0) := by
  have hAl : A.length ≤ 4 := by simp at hl; omega
  have hBl : B.length ≤ 4 := by simp at hl; omega
  intro n
  induction n with
  | zero =>
    intro i hi k hk
    obtain ⟨k, rfl⟩ : ∃ q, k = q + 1 := ⟨k - 1, by omega⟩
    obtain rfl : i = A.length := by omega
    have ht : (A ++ B).take A.length = A := List.take_left' rfl
    have hd : (A ++ B).drop A.length = B := List.drop_left' rfl
    have hle : (A.length : Int) ≤ ((A ++ B).length : Int) := by simp only [List.length_append]; omega
    have hfin : (if (A.length : Int) ≤ ((A ++ B).length : Int) then ((some ((A ++ B).take (A.length : Int).toNat : List Gr)).bind fun y108 => (if ([] : List Gr).length + y108.length < 5864062014805 then ((some (([] : List Gr) ++ y108 : List Gr)).bind fun y112 => (if y112.length < 5864062014805 then ((some (y112 ++ [(⟨u, m⟩ : Gr)] : List Gr)).bind fun y115 => ((some ((A ++ B).drop (A.length : Int).toNat : List Gr)).bind fun y118 => (if y115.length + y118.length < 5864062014805 then (some ((y115 ++ y118), (0 : Int))) else (none)))) else (none))) else (none))) else (none)) = some (A ++ [⟨u, m⟩] ++ B, 0) := by
      rw [if_pos hle, Int.toNat_natCast, ht, Option.bind_some, if_pos (by simp; omega), Option.bind_some, List.nil_append, if_pos (by omega), Option.bind_some, hd, Option.bind_some, if_pos (by simp; omega)]
    rw [donjonref5_Set.l1]
    by_cases hlt : (A.length : Int) < ((A ++ B).length : Int)
    · rw [if_pos hlt, if_pos (by omega)]
      have hn : A.length < (A ++ B).length := by omega
      have hb : (A ++ B)[A.length] ∈ B := by
        have : A.length - A.length < B.length := by simp at hn; omega
        rw [List.getElem_append_right (Nat.le_refl _)]
        exact List.getElem_mem this
      rw [rd_get hn, if_neg (by rw [blt_asymm _ _ (hB _ hb)]; simp)]
      exact hfin
    · rw [if_neg hlt, if_pos (by omega)]
      exact hfin
  | succ n ih =>
    intro i hi k hk
    obtain ⟨k, rfl⟩ : ∃ q, k = q + 1 := ⟨k - 1, by omega⟩
    have hn : i < (A ++ B).length := by simp; omega
    have ha : (A ++ B)[i] ∈ A := by
      rw [List.getElem_append_left (by omega)]
      exact List.getElem_mem _
    rw [donjonref5_Set.l1, if_pos (by omega), if_pos (by omega), rd_get hn, if_pos (hA _ ha), wNextG (by omega)]
    exact ih (i + 1) (by omega) k (by omega)
theorem rset_l0 (l : List Gr) (h4 : l.length ≤ 4) (u : ByteArray) (m : Int) (R : List Gr × Int) (K : Nat)
    (hend : ∀ k, K ≤ k → (if m = 0 then (if l.any (fun x => x.f0.toList == u.toList) = true then (some (restOf u l, (0 : Int))) else (some (([] : List Gr), 2))) else (if ((restOf u l).length : Int) ≥ 4 then (some (([] : List Gr), 4)) else (donjonref5_Set.l1 k u m (restOf u l) 0))) = some R) : ∀ (n i : Nat), i + n = l.length → ∀ k, K + n < k →
    donjonref5_Set.l0 k l u m (restOf u (l.take i)) ((l.take i).any (fun x => x.f0.toList == u.toList)) (i : Int) = some R := by
  intro n
  induction n with
  | zero =>
    intro i hi k hk
    obtain ⟨k, rfl⟩ : ∃ q, k = q + 1 := ⟨k - 1, by omega⟩
    rw [donjonref5_Set.l0, if_neg (by omega), List.take_of_length_le (by omega)]
    exact hend k (by omega)
  | succ n ih =>
    intro i hi k hk
    obtain ⟨k, rfl⟩ : ∃ q, k = q + 1 := ⟨k - 1, by omega⟩
    have hlt : i < l.length := by omega
    have ht : l.take (i + 1) = l.take i ++ [l[i]] := by rw [List.take_add_one, List.getElem?_eq_getElem hlt]; rfl
    have hr := ih (i + 1) (by omega) k (by omega)
    have hrl : (restOf u (l.take i)).length ≤ 4 := by
      have h1 := List.length_filter_le (fun x : Gr => !(x.f0.toList == u.toList)) (l.take i)
      rw [List.length_take] at h1
      show (List.filter _ _).length ≤ 4
      omega
    rw [ht] at hr
    rw [donjonref5_Set.l0, if_pos (by omega), if_pos (by omega), rd_get hlt, wNextG (by omega)]
    by_cases he : l[i].f0.toList = u.toList
    · rw [if_pos he]
      have e1 : restOf u (l.take i ++ [l[i]]) = restOf u (l.take i) := by
        unfold restOf
        rw [List.filter_append]
        simp [he]
      have e2 : (l.take i ++ [l[i]]).any (fun x => x.f0.toList == u.toList) = true := by rw [List.any_append, List.any_cons, beq_iff_eq.2 he, Bool.true_or, Bool.or_true]
      rw [e1, e2] at hr
      exact hr
    · rw [if_neg he, if_pos (by omega)]
      have e1 : restOf u (l.take i ++ [l[i]]) = restOf u (l.take i) ++ [l[i]] := by
        unfold restOf
        rw [List.filter_append]
        simp [he]
      have e2 : (l.take i ++ [l[i]]).any (fun x => x.f0.toList == u.toList) = (l.take i).any (fun x => x.f0.toList == u.toList) := by rw [List.any_append, List.any_cons, beq_eq_false_iff_ne.2 he, List.any_nil, Bool.false_or, Bool.or_false]
      rw [e1, e2] at hr
      exact hr
theorem rset_f (k : Nat) {l : List Gr} (hl : checkV l = 0) (u : ByteArray) (hu : u.size ≤ 200) (hk : 220 < k) (m : Int) {A M B : List Gr} (hP : Parts l u A M B) : donjonref5_Set.f k l u m = some (setV u m A M B) := by
  have h4 := checkV_le hl
  have hbad : donjonref5_Set.j0 k l u m true = some ([], 1) := by
    obtain ⟨k, rfl⟩ : ∃ q, k = q + 1 := ⟨k - 1, by omega⟩
    rw [donjonref5_Set.j0, if_pos rfl]
  unfold donjonref5_Set.f
  rw [ref_who_f u (by omega) k (by omega), Option.bind_some]
  by_cases hw : whoB u = true
  · rw [if_pos hw]
    by_cases h0 : m < 0
    · rw [if_pos h0, hbad]
      unfold setV
      rw [if_pos (.inr (.inl h0))]
    · rw [if_neg h0]
      by_cases h7 : m > 7
      · rw [decide_eq_true h7, hbad]
        unfold setV
        rw [if_pos (.inr (.inr h7))]
      · have hn : ¬ (whoB u = false ∨ m < 0 ∨ m > 7) := by rintro (h | h | h); rw [hw] at h; exact absurd h (by simp); exact h0 h; exact h7 h
        obtain ⟨k, rfl⟩ : ∃ q, k = q + 1 := ⟨k - 1, by omega⟩
        rw [decide_eq_false h7, donjonref5_Set.j0, if_neg (by simp)]
        have hall := hP.all
        have hA0 : ∀ x ∈ A, (!(x.f0.toList == u.toList)) = true := fun x hx => by
          have := hP.less x hx
          simp only [Bool.not_eq_true', beq_eq_false_iff_ne]
          intro e
          rw [e, blt_irrefl] at this
          exact absurd this (by simp)
        have hB0 : ∀ x ∈ B, (!(x.f0.toList == u.toList)) = true := fun x hx => by
          have := hP.more x hx
          simp only [Bool.not_eq_true', beq_eq_false_iff_ne]
          intro e
          rw [e, blt_irrefl] at this
          exact absurd this (by simp)
        have hM0 : M.filter (fun x => !(x.f0.toList == u.toList)) = [] := by
          rcases hP.mid with rfl | ⟨x, rfl⟩
          · rfl
          · simp
        have hrest : restOf u l = A ++ B := by
          unfold restOf
          rw [hall, List.filter_append, List.filter_append, List.filter_eq_self.2 hA0, List.filter_eq_self.2 hB0, hM0, List.append_nil]
        have hany : l.any (fun x => x.f0.toList == u.toList) = !M.isEmpty := by
          have a1 : A.any (fun x => x.f0.toList == u.toList) = false := List.any_eq_false.2 (fun x hx => by have := hA0 x hx; simpa using this)
          have a2 : B.any (fun x => x.f0.toList == u.toList) = false := List.any_eq_false.2 (fun x hx => by have := hB0 x hx; simpa using this)
          rw [hall, List.any_append, List.any_append, a1, a2]
          rcases hP.mid with rfl | ⟨x, rfl⟩
          · rfl
          · simp
        have hAB : (A ++ B).length ≤ 4 := by
          rw [hall] at h4
          simp at h4 ⊢
          omega
        have h := rset_l0 l h4 u m (setV u m A M B) 10 (fun k hk => by
          rw [hrest, hany]
          unfold setV
          rw [if_neg hn]
          by_cases hm : m = 0
          · rw [if_pos hm, if_pos hm]
            rcases hP.mid with rfl | ⟨x, rfl⟩
            · rw [if_neg (by simp), if_pos rfl]
            · rw [if_pos (by simp), if_neg (by simp)]
          · rw [if_neg hm, if_neg hm]
            by_cases hf : (A ++ B).length ≥ 4
            · rw [if_pos (by omega), if_pos hf]
            · rw [if_neg (by omega), if_neg hf]
              exact rset_l1 u m A B hP.less hP.more hAB A.length 0 (by omega) k (by simp at hAB; omega)) l.length 0 (by omega) k (by omega)
        rw [List.take_zero] at h
        exact h
  · rw [if_neg hw, hbad]
    unfold setV
    rw [if_pos (.inl (by simpa using hw))]
theorem plays_l (x0 : List S29) : ∀ (n i : Nat) (l : List Gr), i + n = 60 → checkV l = 0 → ∀ k, 300 + 3 * n < k → donjonlaw5_AclPlays.l0 k x0 l (i : Int) = some true := by
  intro n
  induction n with
  | zero =>
    intro i l hi hl k hk
    obtain ⟨k, rfl⟩ : ∃ q, k = q + 2 := ⟨k - 2, by omega⟩
    rw [donjonlaw5_AclPlays.l0, decide_eq_false (by omega), ite_self, donjonlaw5_AclPlays.j1, if_neg (by simp)]
  | succ n ih =>
    intro i l hi hl k hk
    obtain ⟨k, rfl⟩ : ∃ q, k = q + 3 := ⟨k - 3, by omega⟩
    have h4 := checkV_le hl
    rw [donjonlaw5_AclPlays.l0, decide_eq_true (by omega)]
    by_cases h0 : (i : Int) < (x0.length : Int)
    · rw [if_pos h0, donjonlaw5_AclPlays.j1, if_pos rfl, if_pos (by omega), if_pos h0, wNextG (by omega)]
      by_cases hs : ((rd_T29 x0 (i : Int)).f0.size : Int) > 200
      · rw [if_pos hs]
        exact ih (i + 1) l (by omega) hl (k + 1) (by omega)
      · obtain ⟨A, M, B, hP, hp⟩ := parts_f hl (rd_T29 x0 (i : Int)).f0
        rw [if_neg hs, Option.bind_some, if_pos (by simp; omega), Option.bind_some, List.nil_append, set_f (k + 1) (by omega) hl _ _ hP hp, Option.bind_some, rset_f (k + 1) hl _ (by omega) (by omega) _ hP, Option.bind_some, if_pos rfl]
        have hg := fun he => set_good hl hP (m := (rd_T29 x0 (i : Int)).f1) he
        have hlen : (setV (rd_T29 x0 (i : Int)).f0 (rd_T29 x0 (i : Int)).f1 A M B).1.length ≤ 12 := by
          have hall := hP.all
          rw [hall] at h4
          simp at h4
          unfold setV
          split
          · simp
          · split
            · split
              · simp
              · simp; omega
            · split
              · simp
              · simp; omega
        generalize setV (rd_T29 x0 (i : Int)).f0 (rd_T29 x0 (i : Int)).f1 A M B = R at hg hlen ⊢
        rw [same_f R.1 (by omega) (k + 1) (by omega), Option.bind_some, if_pos rfl, same_f l (by omega) (k + 1) (by omega), Option.bind_some, donjonlaw5_AclPlays.j2, if_neg (by simp), wNextG (by omega)]
        by_cases he : R.2 = 0
        · rw [if_pos he, check_f k (by omega), hg he, Option.bind_some, if_pos rfl]
          exact ih (i + 1) R.1 (by omega) (hg he) k (by omega)
        · rw [if_neg he, check_f k (by omega), hl, Option.bind_some, if_pos rfl]
          exact ih (i + 1) l (by omega) hl k (by omega)
    · rw [if_neg h0, donjonlaw5_AclPlays.j1, if_neg (by simp)]
theorem AclPlays : ∀ (l0 : List (S29)), (l0.length ≤ maxLen ∧ l0.length * 24 ≤ 140737488351232 ∧ ∀ y_ ∈ l0, g_T29 y_) → ∃ k, donjonlaw5_AclPlays.f k l0 = some true := by
  intro l0 _
  refine ⟨1000, ?_⟩
  unfold donjonlaw5_AclPlays.f
  rw [show donjonlaw5_known.f = some true by decide +kernel, Option.bind_some, if_pos rfl]
  exact plays_l l0 60 0 [] (by omega) (by decide +kernel) 1000 (by omega)
end Go.Proofs.Ytinbhijeonghaaa.Pure
