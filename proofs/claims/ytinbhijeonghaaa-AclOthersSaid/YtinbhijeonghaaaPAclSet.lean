/- Lists of who may, in plain numbers and texts: what becomes of a list when a user is given modes. -/
import Derived.Test.YtinbhijeonghaaaF9
import Derived.Test.YtinbhijeonghaaaPAcl
namespace Go.Proofs.Ytinbhijeonghaaa.Pure
open Go.RowKit Go.Proofs.Ytinbhijeonghaaa.X Go.Proofs.YtinbhijeonghaaaW.PrintWords Go.Proofs.YtinbhijeonghaaaW.PrintLast Go.Proofs.Ytinbhijeonghaaa.Lib

abbrev Gr := S31
theorem bytes_inj {a b : ByteArray} (h : a.toList = b.toList) : a = b := by
  have e : ∀ x : ByteArray, x.toList = x.data.toList := fun x => Go.ByteArray.toList_eq x
  rw [e, e] at h
  cases a
  cases b
  simp at h
  rw [h]
theorem checkV_le {l : List Gr} (h : checkV l = 0) : l.length ≤ 4 := (good_of_check h).1
/-- A list in three: who stands ahead of a user, the user's grant if there is one, who stands behind. -/
structure Parts (l : List Gr) (u : ByteArray) (A M B : List Gr) : Prop where
  all : l = A ++ M ++ B
  less : ∀ x ∈ A, Op.bytesLess x.f0.toList u.toList = true
  more : ∀ x ∈ B, Op.bytesLess u.toList x.f0.toList = true
  mid : M = [] ∨ ∃ x, M = [⟨u, x⟩]
theorem parts_f {l : List Gr} (hl : checkV l = 0) (u : ByteArray) :
    ∃ A M B, Parts l u A M B ∧ acl_place.f l u = some ((A.length : Int), !M.isEmpty) := by
  obtain ⟨h4, hg⟩ := good_of_check hl
  have hr := rising_of_good hg
  obtain ⟨m, is, hp, hm, h1, h2, h3, h5⟩ := place_f (by omega) hr u
  have hA : ∀ x ∈ l.take m, Op.bytesLess x.f0.toList u.toList = true := by
    intro x hx
    obtain ⟨i, hi, rfl⟩ := List.mem_iff_getElem.1 hx
    rw [List.length_take] at hi
    have := h1 i (by omega)
    unfold keyG at this
    rw [rd_get (by omega)] at this
    rw [List.getElem_take]
    exact this
  have hlen : (l.take m).length = m := by rw [List.length_take]; omega
  cases is with
  | true =>
    obtain ⟨hlt, hk⟩ := h3 rfl
    unfold keyG at hk
    rw [rd_get hlt] at hk
    have hu := bytes_inj hk
    refine ⟨l.take m, [⟨u, l[m].f1⟩], l.drop (m + 1), ⟨?_, hA, ?_, .inr ⟨_, rfl⟩⟩, by rw [hlen]; exact hp⟩
    · rw [← hu, List.append_assoc, List.singleton_append]
      have : (⟨l[m].f0, l[m].f1⟩ : Gr) = l[m] := rfl
      rw [this, ← List.drop_eq_getElem_cons hlt, List.take_append_drop]
    · intro x hx
      obtain ⟨i, hi, rfl⟩ := List.mem_iff_getElem.1 hx
      rw [List.length_drop] at hi
      rw [List.getElem_drop]
      have := hr m (m + 1 + i) (by omega) (by omega)
      unfold keyG at this
      rw [rd_get hlt, rd_get (by omega), hk] at this
      exact this
  | false =>
    refine ⟨l.take m, [], l.drop m, ⟨by simp, hA, ?_, .inl rfl⟩, by rw [hlen]; exact hp⟩
    intro x hx
    obtain ⟨i, hi, rfl⟩ := List.mem_iff_getElem.1 hx
    rw [List.length_drop] at hi
    rw [List.getElem_drop]
    have a1 := h2 (m + i) (by omega) (by omega)
    have a2 := h5 rfl (m + i) (by omega)
    unfold keyG at a1 a2
    rw [rd_get (by omega)] at a1 a2
    cases hb : Op.bytesLess u.toList l[m + i].f0.toList with
    | true => rfl
    | false => exact absurd (blt_total _ _ a1 hb) a2
def setV (u : ByteArray) (m : Int) (A M B : List Gr) : List Gr × Int :=
  if whoB u = false ∨ m < 0 ∨ m > 7 then ([], 1)
  else if m = 0 then (if M = [] then ([], 2) else (A ++ B, 0))
  else if (A ++ B).length ≥ 4 then ([], 4) else (A ++ [⟨u, m⟩] ++ B, 0)
theorem set_f (k : Nat) (hk : 3 < k) {l : List Gr} (hl : checkV l = 0) (u : ByteArray) (m : Int) {A M B : List Gr} (hP : Parts l u A M B) (hp : acl_place.f l u = some ((A.length : Int), !M.isEmpty)) : acl_Set.f k l u m = some (setV u m A M B) := by
  obtain ⟨k, rfl⟩ : ∃ q, k = q + 4 := ⟨k - 4, by omega⟩
  have h4 := checkV_le hl
  have hbad : acl_Set.j0 (k + 4) l u m true = some ([], 1) := by rw [acl_Set.j0, if_pos rfl]
  unfold acl_Set.f
  rw [who_f, Option.bind_some]
  by_cases hw : whoB u = true
  · rw [if_pos hw]
    by_cases h0 : m < 0
    · rw [if_pos h0, hbad]
      unfold setV
      rw [if_pos (.inr (.inl h0))]
    · rw [if_neg h0]
      by_cases h7 : m > 7
      · rw [decide_eq_true h7, hbad]
        unfold setV
        rw [if_pos (.inr (.inr h7))]
      · have hn : ¬ (whoB u = false ∨ m < 0 ∨ m > 7) := by rintro (h | h | h); rw [hw] at h; exact absurd h (by simp); exact h0 h; exact h7 h
        rw [decide_eq_false h7, acl_Set.j0, if_neg (by simp), if_pos (by omega), if_pos (by omega), if_pos (by simp), Option.bind_some, hp, Option.bind_some]
        unfold setV
        rw [if_neg hn]
        have hall := hP.all
        rcases hP.mid with rfl | ⟨x, rfl⟩
        · have hlA : l = A ++ B := by rw [hall]; simp
          by_cases hm : m = 0
          · rw [if_pos hm, if_pos hm, if_pos rfl, acl_Set.j1, if_pos (by simp)]
          · rw [if_neg hm, if_neg hm, acl_Set.j1, if_neg (by simp), if_neg hm, if_neg (by simp), acl_Set.j2]
            by_cases hf : (A ++ B).length ≥ 4
            · rw [if_pos hf, if_pos (by rw [hlA]; simp only [decide_eq_true_eq]; omega)]
            · rw [if_neg hf, if_neg (by rw [hlA]; simp only [decide_eq_true_eq]; omega), if_neg (by simp)]
              have hAl : A.length ≤ l.length := by rw [hlA]; simp
              rw [show api_Grant_28.f l (A.length : Int) [(⟨u, m⟩ : Gr)] = some (A ++ [⟨u, m⟩] ++ B) by
                unfold api_Grant_28.f
                rw [if_pos ⟨by omega, by omega, rfl, by omega⟩, Int.toNat_natCast, hlA, List.take_left' rfl, List.drop_left' rfl]]
              rfl
        · have hlt : A.length < l.length := by rw [hall]; simp
          by_cases hm : m = 0
          · rw [if_pos hm, if_pos hm, if_neg (by simp), acl_Set.j1, if_neg (by simp), if_pos hm]
            rw [show api_Grant_27.f l (A.length : Int) (wrap64 ((A.length : Int) + 1)) = some (A ++ B) by
              unfold api_Grant_27.f
              rw [if_pos ⟨by omega, by omega, rfl⟩, Int.toNat_natCast, hall, List.eraseIdx_append_of_lt_length (by simp), List.eraseIdx_append_of_length_le (Nat.le_refl _)]
              simp]
            rfl
          · rw [if_neg hm, if_neg hm, acl_Set.j1, if_neg (by simp), if_neg hm, if_pos (by simp), acl_Set.j2, if_neg (by simp), if_pos (by simp), if_pos (by omega), if_pos (by omega)]
            have hf : ¬ (A ++ B).length ≥ 4 := by
              rw [hall] at h4
              simp at h4 ⊢
              omega
            rw [if_neg hf, Int.toNat_natCast, rd_get hlt]
            have hg : l[A.length].f0 = u := by simp [hall]
            rw [hg, hall, List.append_assoc, List.set_append_right _ _ (Nat.le_refl _), Nat.sub_self, List.singleton_append, List.set_cons_zero, List.append_assoc, List.singleton_append]
  · rw [if_neg hw, hbad]
    unfold setV
    rw [if_pos (.inl (by simpa using hw))]
/-- What rises, in one: a list such as may be. -/
theorem good_iff {l : List Gr} : checkV l = 0 ↔ l.length ≤ 4 ∧ l.Pairwise (fun x y => Op.bytesLess x.f0.toList y.f0.toList = true) ∧ ∀ x ∈ l, whoB x.f0 = true ∧ 1 ≤ x.f1 ∧ x.f1 ≤ 7 := by
  constructor
  · intro h
    obtain ⟨h4, hg⟩ := good_of_check h
    have hr := rising_of_good hg
    refine ⟨h4, ?_, fun x hx => ?_⟩
    · rw [List.pairwise_iff_getElem]
      intro i j hi hj hij
      have := hr i j hij hj
      unfold keyG at this
      rw [rd_get hi, rd_get hj] at this
      exact this
    · obtain ⟨i, hi, rfl⟩ := List.mem_iff_getElem.1 hx
      have a1 := who_of_good (hg i hi)
      have a2 := modes_of_good (hg i hi)
      rw [rd_get hi] at a1 a2
      exact ⟨a1, a2⟩
  · rintro ⟨h4, hp, hx⟩
    refine check_of_good h4 (fun i hi => ?_)
    obtain ⟨a1, a2, a3⟩ := hx l[i] (List.getElem_mem hi)
    unfold goodAt keyG
    rw [rd_get hi, a1, decide_eq_true a2, decide_eq_true a3]
    by_cases h0 : i = 0
    · rw [decide_eq_true h0]
      rfl
    · have := List.pairwise_iff_getElem.1 hp (i - 1) i (by omega) hi (by omega)
      rw [rd_get (by omega : i - 1 < l.length), this]
      simp
theorem set_good {l : List Gr} (hl : checkV l = 0) {u : ByteArray} {m : Int} {A M B : List Gr} (hP : Parts l u A M B) (he : (setV u m A M B).2 = 0) : checkV (setV u m A M B).1 = 0 := by
  obtain ⟨h4, hp, hx⟩ := good_iff.1 hl
  have hall := hP.all
  have hAB : (A ++ B).Pairwise (fun x y => Op.bytesLess x.f0.toList y.f0.toList = true) := by
    rw [hall] at hp
    refine hp.sublist ?_
    rw [List.append_assoc]
    exact List.Sublist.append (List.Sublist.refl _) (List.sublist_append_right _ _)
  have hxAB : ∀ x ∈ A ++ B, whoB x.f0 = true ∧ 1 ≤ x.f1 ∧ x.f1 ≤ 7 := fun x h => hx x (by
    rw [hall]
    rcases List.mem_append.1 h with h | h
    · simp [h]
    · simp [h])
  have hlen : (A ++ B).length ≤ l.length := by rw [hall]; simp
  unfold setV at he ⊢
  by_cases h1 : whoB u = false ∨ m < 0 ∨ m > 7
  · rw [if_pos h1] at he
    exact absurd he (by simp)
  · rw [if_neg h1] at he ⊢
    by_cases h2 : m = 0
    · rw [if_pos h2] at he ⊢
      by_cases h3 : M = []
      · rw [if_pos h3] at he
        exact absurd he (by simp)
      · rw [if_neg h3]
        exact good_iff.2 ⟨by show (A ++ B).length ≤ 4; omega, hAB, hxAB⟩
    · rw [if_neg h2] at he ⊢
      by_cases h3 : (A ++ B).length ≥ 4
      · rw [if_pos h3] at he
        exact absurd he (by simp)
      · rw [if_neg h3]
        obtain ⟨pA, pB, pAB⟩ := List.pairwise_append.1 hAB
        refine good_iff.2 ⟨?_, ?_, ?_⟩
        · show (A ++ [(⟨u, m⟩ : Gr)] ++ B).length ≤ 4
          simp at h3 ⊢
          omega
        · show (A ++ [(⟨u, m⟩ : Gr)] ++ B).Pairwise _
          rw [List.append_assoc, List.singleton_append, List.pairwise_append]
          refine ⟨pA, List.pairwise_cons.2 ⟨fun y hy => hP.more y hy, pB⟩, fun x hx y hy => ?_⟩
          rcases List.mem_cons.1 hy with rfl | hy
          · exact hP.less x hx
          · exact pAB x hx y hy
        · intro x hx
          have hx' : x ∈ A ++ [(⟨u, m⟩ : Gr)] ++ B := hx
          rw [List.append_assoc, List.singleton_append] at hx'
          rcases List.mem_append.1 hx' with h | h
          · exact hxAB x (List.mem_append_left _ h)
          · rcases List.mem_cons.1 h with rfl | h
            · refine ⟨?_, ?_, ?_⟩
              · cases hw : whoB u with
                | true => rfl
                | false => exact absurd (.inl hw) h1
              · show 1 ≤ m
                by_cases h0 : m < 0
                · exact absurd (.inr (.inl h0)) h1
                · omega
              · show m ≤ 7
                by_cases h7 : m > 7
                · exact absurd (.inr (.inr h7)) h1
                · omega
            · exact hxAB x (List.mem_append_right _ h)
end Go.Proofs.Ytinbhijeonghaaa.Pure
