/- UserLower, over numbers and lists: who may enter at a label may at every one that it is over. For every input. -/
import Derived.Test.YtcjkekdmmjfgeaaF9
import Derived.Test.YtcjkekdmmjfgeaaPUser
import Derived.Test.YtcjkekdmmjfgeaaHO
namespace Go.Proofs.Ytcjkekdmmjfgeaa.Pure
open Go.RowKit Go.Proofs.Ytcjkekdmmjfgeaa.X Go.Proofs.YtcjkekdmmjfgeaaW.PrintWords Go.Proofs.YtcjkekdmmjfgeaaW.PrintLast Go.Proofs.Ytcjkekdmmjfgeaa.Lib Go.Proofs.YtcjkekdmmjfgeaaW.PrintMore

theorem nat_and_down (c a l : Nat) (h : c &&& a = a) : c &&& (a &&& l) = a &&& l := by rw [← Nat.and_assoc, h]
theorem nat_or_up (d a l : Nat) (h : d &&& a = d) : d &&& (a ||| l) = d := by
  apply Nat.eq_of_testBit_eq
  intro i
  have hi : (d &&& a).testBit i = d.testBit i := by rw [h]
  simp at hi ⊢
  intro hd
  exact .inl (hi hd)
theorem meet_lab {s c i d s' c' i' d' : Int} (h : Lab s c i d) (h' : Lab s' c' i' d') : Lab (mn s s') (Go.bits .and .i64 c c') (mx i i') (Go.bits .or .i64 d d') := by
  obtain ⟨a1, a2, a3, a4, a5, a6, a7, a8⟩ := h
  obtain ⟨b1, b2, b3, b4, b5, b6, b7, b8⟩ := h'
  rw [and_i64 a3 (by omega) b3 (by omega), or_i64 a7 (by omega) b7 (by omega)]
  have h1 : c.toNat &&& c'.toNat ≤ c.toNat := Nat.and_le_left
  have h2 : d.toNat ||| d'.toNat < 2 ^ 8 := Nat.or_lt_two_pow (by omega) (by omega)
  refine ⟨?_, ?_, by omega, by omega, ?_, ?_, by omega, by omega⟩ <;> first | (unfold mn; split <;> omega) | (unfold mx; split <;> omega)
theorem over_meet {s c i d s1 c1 i1 d1 s2 c2 i2 d2 : Int} (h1 : Lab s1 c1 i1 d1) (h2 : Lab s2 c2 i2 d2) (h : overV s c i d s1 c1 i1 d1 = true) : overV s c i d (mn s1 s2) (Go.bits .and .i64 c1 c2) (mx i1 i2) (Go.bits .or .i64 d1 d2) = true := by
  obtain ⟨a1, a2, a3, a4, a5, a6, a7, a8⟩ := h1
  obtain ⟨b1, b2, b3, b4, b5, b6, b7, b8⟩ := h2
  unfold overV at h ⊢
  simp only [Bool.and_eq_true, decide_eq_true_eq] at h ⊢
  obtain ⟨g1, g2, g3, g4⟩ := h
  rw [and_i64 a3 (by omega) b3 (by omega), or_i64 a7 (by omega) b7 (by omega), Int.toNat_natCast, Int.toNat_natCast]
  refine ⟨?_, nat_and_down _ _ _ g2, ?_, nat_or_up _ _ _ g4⟩
  · unfold mn; split <;> omega
  · unfold mx; split <;> omega

theorem UserLower : ∀ (l0 : List (S54)) (a1 : Int) (a2_0 : Int) (a2_1 : Int) (a2_2 : Int) (a2_3 : Int) (a3_0 : Int) (a3_1 : Int) (a3_2 : Int) (a3_3 : Int), (l0.length ≤ maxLen ∧ l0.length * 32 ≤ 140737488351232 ∧ ∀ x ∈ l0, g_T54 x) → (Lit.int .i64 a1).wf = true → (Lit.int .i64 a2_0).wf = true → (Lit.int .i64 a2_1).wf = true → (Lit.int .i64 a2_2).wf = true → (Lit.int .i64 a2_3).wf = true → (Lit.int .i64 a3_0).wf = true → (Lit.int .i64 a3_1).wf = true → (Lit.int .i64 a3_2).wf = true → (Lit.int .i64 a3_3).wf = true → ∃ k, donjonlaw9_UserLower.f k l0 a1 a2_0 a2_1 a2_2 a2_3 a3_0 a3_1 a3_2 a3_3 = some true := by
  intro l k1 a b c d a' b' c' d' _ _ _ _ _ _ _ _ _ _
  obtain ⟨K, hK⟩ : ∃ K : Nat, 100 < K := ⟨101, by omega⟩
  refine ⟨K + 1, ?_⟩
  unfold donjonlaw9_UserLower.f
  rw [known9, Option.bind_some, if_pos rfl, some_f l (K + 1) (by omega), Option.bind_some]
  have hlen := users_le l
  by_cases c1 : ((usersV l).length : Int) = 0
  · rw [if_pos c1, donjonlaw9_UserLower.j0, if_pos rfl]
  rw [if_neg c1]
  by_cases c2 : k1 < 0
  · rw [decide_eq_true c2, donjonlaw9_UserLower.j0, if_pos rfl]
  have ht : Int.tmod k1 ((usersV l).length : Int) = k1 % ((usersV l).length : Int) := Int.tmod_eq_emod_of_nonneg (by omega)
  have h1 := Int.emod_nonneg k1 c1
  have h2 := Int.emod_lt_of_pos k1 (by omega : (0 : Int) < ((usersV l).length : Int))
  obtain ⟨p, hp⟩ : ∃ p : Nat, k1 % ((usersV l).length : Int) = (p : Int) := ⟨(k1 % ((usersV l).length : Int)).toNat, by omega⟩
  have hpl : p < (usersV l).length := by omega
  rw [decide_eq_false c2, donjonlaw9_UserLower.j0, if_neg (by simp), if_neg c1, ht, hp, if_pos (by omega), if_pos (by omega), good4_f, Option.bind_some, good4_f, Option.bind_some]
  unfold donjonref4_Meet.f
  rw [Option.bind_some, usersV_get l hpl]
  have hn : (mkU l p).f0 = nmB p := rfl
  rw [hn, nmB_size, if_pos (by decide)]
  have hg := usersV_get l hpl
  have hk : keyU (usersV l) p = (nmB p).toList := by unfold keyU; rw [hg]; rfl
  have hu : Lab (rd_T58 (usersV l) (p : Int)).f3.f0 (rd_T58 (usersV l) (p : Int)).f3.f1 (rd_T58 (usersV l) (p : Int)).f3.f2 (rd_T58 (usersV l) (p : Int)).f3.f3 := by rw [hg]; exact mkU_lab l p
  have hA := lab_good a b c d
  have hB := lab_good a' b' c' d'
  rw [enter_is (by omega) (users_rising l) (nmB p) (nmB p ++ nmB p) (by rw [nmB2_size]; decide) p hpl hk hu hA K (by rw [nmB2_size]; omega), Option.bind_some]
  by_cases c3 : enterV (rd_T58 (usersV l) (p : Int)) (nmB p ++ nmB p) (a % 4) (b % 256) (c % 4) (d % 256) = 0
  · rw [if_pos c3, enter_is (by omega) (users_rising l) (nmB p) (nmB p ++ nmB p) (by rw [nmB2_size]; decide) p hpl hk hu (meet_lab hA hB) K (by rw [nmB2_size]; omega), Option.bind_some]
    have c4 : ofV (rd_T58 (usersV l) (p : Int)).f1 (nmB p ++ nmB p) = (rd_T58 (usersV l) (p : Int)).f2 ∧ overV (rd_T58 (usersV l) (p : Int)).f3.f0 (rd_T58 (usersV l) (p : Int)).f3.f1 (rd_T58 (usersV l) (p : Int)).f3.f2 (rd_T58 (usersV l) (p : Int)).f3.f3 (a % 4) (b % 256) (c % 4) (d % 256) = true := by
      unfold enterV at c3
      by_cases h : ofV (rd_T58 (usersV l) (p : Int)).f1 (nmB p ++ nmB p) = (rd_T58 (usersV l) (p : Int)).f2 ∧ overV (rd_T58 (usersV l) (p : Int)).f3.f0 (rd_T58 (usersV l) (p : Int)).f3.f1 (rd_T58 (usersV l) (p : Int)).f3.f2 (rd_T58 (usersV l) (p : Int)).f3.f3 (a % 4) (b % 256) (c % 4) (d % 256) = true
      · exact h
      · rw [if_neg h] at c3
        exact absurd c3 (by decide)
    unfold enterV
    rw [if_pos ⟨c4.1, over_meet hA hB c4.2⟩]
    rfl
  · rw [if_neg c3]
end Go.Proofs.Ytcjkekdmmjfgeaa.Pure
