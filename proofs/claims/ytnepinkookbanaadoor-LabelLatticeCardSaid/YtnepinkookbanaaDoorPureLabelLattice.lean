/- LabelLattice, over numbers: a join is over both, and whatever is over both is over it; a meet likewise, the other way about. For every input. -/
import Derived.Test.YtnepinkookbanaaDoorF6
import Derived.Test.YtnepinkookbanaaDoorPLabOrd
import Derived.Test.YtnepinkookbanaaDoorHO
namespace Go.Proofs.YtnepinkookbanaaDoor.Pure
open Go.RowKit Go.Proofs.YtnepinkookbanaaDoor.X Go.Proofs.YtnepinkookbanaaDoorW.PrintWords Go.Proofs.YtnepinkookbanaaDoorW.PrintLast Go.Proofs.YtnepinkookbanaaDoor.Lib Go.Proofs.YtnepinkookbanaaDoorW.PrintMore

theorem lev_f (a : Int) : label_level.f a = some (decide (0 ≤ a) && decide (a ≤ 3)) := by
  unfold label_level.f
  by_cases h1 : 0 ≤ a <;> by_cases h2 : a ≤ 3 <;> simp [h1, h2]
theorem cat_f (a : Int) : label_cats.f a = some (decide (0 ≤ a) && decide (a ≤ 255)) := by
  unfold label_cats.f
  by_cases h1 : 0 ≤ a <;> by_cases h2 : a ≤ 255 <;> simp [h1, h2]
theorem check_lab {s c i d : Int} (h : Lab s c i d) : label_Check.f s c i d = some 0 := by
  obtain ⟨a1, a2, a3, a4, a5, a6, a7, a8⟩ := h
  unfold label_Check.f
  rw [lev_f s, lev_f i, cat_f c, cat_f d, decide_eq_true a1, decide_eq_true (by omega : s ≤ 3), decide_eq_true a3, decide_eq_true (by omega : c ≤ 255), decide_eq_true a5, decide_eq_true (by omega : i ≤ 3), decide_eq_true a7, decide_eq_true (by omega : d ≤ 255)]
  rfl
theorem or_and_l (a b : Nat) : (a ||| b) &&& a = a := by
  apply Nat.eq_of_testBit_eq
  intro i
  simp only [Nat.testBit_and, Nat.testBit_or]
  cases a.testBit i <;> cases b.testBit i <;> rfl
theorem and_or_l (a b : Nat) : a &&& (a ||| b) = a := by rw [Nat.and_comm]; exact or_and_l a b
theorem or_and_r (a b : Nat) : (a ||| b) &&& b = b := by rw [Nat.or_comm]; exact or_and_l b a
theorem or_self_and (a b : Nat) : a ||| (a &&& b) = a := by
  apply Nat.eq_of_testBit_eq
  intro i
  simp only [Nat.testBit_and, Nat.testBit_or]
  cases a.testBit i <;> cases b.testBit i <;> rfl
theorem and_and_l (a b : Nat) : (a &&& b) &&& a = a &&& b := by
  apply Nat.eq_of_testBit_eq
  intro i
  simp only [Nat.testBit_and]
  cases a.testBit i <;> cases b.testBit i <;> rfl
theorem and_and_r (a b : Nat) : (a &&& b) &&& b = a &&& b := by rw [Nat.and_comm a b]; exact and_and_l b a
theorem and_or_of {a b c : Nat} (h1 : c &&& a = a) (h2 : c &&& b = b) : c &&& (a ||| b) = a ||| b := by
  apply Nat.eq_of_testBit_eq
  intro i
  have e1 : (c &&& a).testBit i = a.testBit i := by rw [h1]
  have e2 : (c &&& b).testBit i = b.testBit i := by rw [h2]
  simp only [Nat.testBit_and, Nat.testBit_or] at e1 e2 ⊢
  revert e1 e2
  cases a.testBit i <;> cases b.testBit i <;> cases c.testBit i <;> simp
theorem and_and_of {a b c : Nat} (h1 : a &&& c = c) (h2 : b &&& c = c) : (a &&& b) &&& c = c := by rw [Nat.and_assoc, h2, h1]
theorem or_small {a b : Nat} (h1 : a < 256) (h2 : b < 256) : a ||| b < 256 := Nat.or_lt_two_pow (n := 8) h1 h2
theorem and_small {a b : Nat} (h1 : a < 256) : a &&& b < 256 := Nat.lt_of_le_of_lt Nat.and_le_left h1
section
variable {s c i d s' c' i' d' : Int}
theorem join_lab (h : Lab s c i d) (h' : Lab s' c' i' d') : Lab (mx s s') ((c.toNat ||| c'.toNat : Nat) : Int) (mn i i') ((d.toNat &&& d'.toNat : Nat) : Int) := by
  obtain ⟨a1, a2, a3, a4, a5, a6, a7, a8⟩ := h
  obtain ⟨b1, b2, b3, b4, b5, b6, b7, b8⟩ := h'
  have ho := or_small (a := c.toNat) (b := c'.toNat) (by omega) (by omega)
  have ha := and_small (a := d.toNat) (b := d'.toNat) (by omega)
  refine ⟨?_, ?_, by omega, by omega, ?_, ?_, by omega, by omega⟩ <;> first | (unfold mx; split <;> omega) | (unfold mn; split <;> omega)
theorem meet_lab (h : Lab s c i d) (h' : Lab s' c' i' d') : Lab (mn s s') ((c.toNat &&& c'.toNat : Nat) : Int) (mx i i') ((d.toNat ||| d'.toNat : Nat) : Int) := by
  obtain ⟨a1, a2, a3, a4, a5, a6, a7, a8⟩ := h
  obtain ⟨b1, b2, b3, b4, b5, b6, b7, b8⟩ := h'
  have ho := or_small (a := d.toNat) (b := d'.toNat) (by omega) (by omega)
  have ha := and_small (a := c.toNat) (b := c'.toNat) (by omega)
  refine ⟨?_, ?_, by omega, by omega, ?_, ?_, by omega, by omega⟩ <;> first | (unfold mx; split <;> omega) | (unfold mn; split <;> omega)
theorem join_f (h : Lab s c i d) (h' : Lab s' c' i' d') : label_Join.f s c i d s' c' i' d' = some (mx s s', ((c.toNat ||| c'.toNat : Nat) : Int), mn i i', ((d.toNat &&& d'.toNat : Nat) : Int)) := by
  obtain ⟨a1, a2, a3, a4, a5, a6, a7, a8⟩ := h
  obtain ⟨b1, b2, b3, b4, b5, b6, b7, b8⟩ := h'
  unfold label_Join.f
  rw [or_i64 a3 (by omega) b3 (by omega), and_i64 a7 (by omega) b7 (by omega)]
theorem meet_f (h : Lab s c i d) (h' : Lab s' c' i' d') : label_Meet.f s c i d s' c' i' d' = some (mn s s', ((c.toNat &&& c'.toNat : Nat) : Int), mx i i', ((d.toNat ||| d'.toNat : Nat) : Int)) := by
  obtain ⟨a1, a2, a3, a4, a5, a6, a7, a8⟩ := h
  obtain ⟨b1, b2, b3, b4, b5, b6, b7, b8⟩ := h'
  unfold label_Meet.f
  rw [and_i64 a3 (by omega) b3 (by omega), or_i64 a7 (by omega) b7 (by omega)]
theorem mx_l (a b : Int) : a ≤ mx a b ∧ b ≤ mx a b := by unfold mx; split <;> omega
theorem mn_l (a b : Int) : mn a b ≤ a ∧ mn a b ≤ b := by unfold mn; split <;> omega
theorem join_over_l : overV (mx s s') ((c.toNat ||| c'.toNat : Nat) : Int) (mn i i') ((d.toNat &&& d'.toNat : Nat) : Int) s c i d = true :=
  overV_iff.2 ⟨(mx_l s s').1, by rw [Int.toNat_natCast]; exact or_and_l _ _, (mn_l i i').1, by rw [Int.toNat_natCast]; exact and_and_l _ _⟩
theorem join_over_r : overV (mx s s') ((c.toNat ||| c'.toNat : Nat) : Int) (mn i i') ((d.toNat &&& d'.toNat : Nat) : Int) s' c' i' d' = true :=
  overV_iff.2 ⟨(mx_l s s').2, by rw [Int.toNat_natCast]; exact or_and_r _ _, (mn_l i i').2, by rw [Int.toNat_natCast]; exact and_and_r _ _⟩
theorem meet_under_l : overV s c i d (mn s s') ((c.toNat &&& c'.toNat : Nat) : Int) (mx i i') ((d.toNat ||| d'.toNat : Nat) : Int) = true :=
  overV_iff.2 ⟨(mn_l s s').1, by rw [Int.toNat_natCast, Nat.and_comm c.toNat (c.toNat &&& c'.toNat)]; exact and_and_l _ _, (mx_l i i').1, by rw [Int.toNat_natCast]; exact and_or_l _ _⟩
theorem meet_under_r : overV s' c' i' d' (mn s s') ((c.toNat &&& c'.toNat : Nat) : Int) (mx i i') ((d.toNat ||| d'.toNat : Nat) : Int) = true :=
  overV_iff.2 ⟨(mn_l s s').2, by rw [Int.toNat_natCast, Nat.and_comm c'.toNat (c.toNat &&& c'.toNat)]; exact and_and_r _ _, (mx_l i i').2, by rw [Int.toNat_natCast, Nat.or_comm]; exact and_or_l _ _⟩
theorem join_least {s2 c2 i2 d2 : Int} (h1 : overV s2 c2 i2 d2 s c i d = true) (h2 : overV s2 c2 i2 d2 s' c' i' d' = true) : overV s2 c2 i2 d2 (mx s s') ((c.toNat ||| c'.toNat : Nat) : Int) (mn i i') ((d.toNat &&& d'.toNat : Nat) : Int) = true := by
  obtain ⟨p1, p2, p3, p4⟩ := overV_iff.1 h1
  obtain ⟨q1, q2, q3, q4⟩ := overV_iff.1 h2
  refine overV_iff.2 ⟨by unfold mx; split <;> omega, by rw [Int.toNat_natCast]; exact and_or_of p2 q2, by unfold mn; split <;> omega, ?_⟩
  rw [Int.toNat_natCast, ← Nat.and_assoc, p4, q4]
theorem meet_most {s2 c2 i2 d2 : Int} (h1 : overV s c i d s2 c2 i2 d2 = true) (h2 : overV s' c' i' d' s2 c2 i2 d2 = true) : overV (mn s s') ((c.toNat &&& c'.toNat : Nat) : Int) (mx i i') ((d.toNat ||| d'.toNat : Nat) : Int) s2 c2 i2 d2 = true := by
  obtain ⟨p1, p2, p3, p4⟩ := overV_iff.1 h1
  obtain ⟨q1, q2, q3, q4⟩ := overV_iff.1 h2
  refine overV_iff.2 ⟨by unfold mn; split <;> omega, by rw [Int.toNat_natCast]; exact and_and_of p2 q2, by unfold mx; split <;> omega, ?_⟩
  rw [Int.toNat_natCast, Nat.and_comm]
  exact and_or_of (by rw [Nat.and_comm]; exact p4) (by rw [Nat.and_comm]; exact q4)
theorem mx_comm (a b : Int) : mx a b = mx b a := by unfold mx; split <;> split <;> omega
theorem mn_comm (a b : Int) : mn a b = mn b a := by unfold mn; split <;> split <;> omega
theorem mx_mn (a b : Int) : mx a (mn a b) = a := by unfold mx mn; split <;> split at * <;> omega
theorem mn_mx (a b : Int) : mn a (mx a b) = a := by unfold mx mn; split <;> split at * <;> omega
/-- Over, told by the join, and by the meet. -/
theorem over_join (h : Lab s c i d) : overV s c i d s' c' i' d' = (mx s s' == s && (((c.toNat ||| c'.toNat : Nat) : Int) == c && (mn i i' == i && ((d.toNat &&& d'.toNat : Nat) : Int) == d))) := by
  obtain ⟨a1, a2, a3, a4, a5, a6, a7, a8⟩ := h
  rw [Bool.eq_iff_iff, overV_iff, Bool.and_eq_true, Bool.and_eq_true, Bool.and_eq_true, mx_eq, mn_eq]
  simp only [beq_iff_eq, decide_eq_true_eq]
  rw [← nat_or_iff]
  omega
theorem over_meet (h' : Lab s' c' i' d') : overV s c i d s' c' i' d' = (mn s s' == s' && (((c.toNat &&& c'.toNat : Nat) : Int) == c' && (mx i i' == i' && ((d.toNat ||| d'.toNat : Nat) : Int) == d'))) := by
  obtain ⟨a1, a2, a3, a4, a5, a6, a7, a8⟩ := h'
  rw [Bool.eq_iff_iff, overV_iff, Bool.and_eq_true, Bool.and_eq_true, Bool.and_eq_true, mn_comm, mx_comm, mx_eq, mn_eq]
  simp only [beq_iff_eq, decide_eq_true_eq]
  rw [Nat.or_comm, show (((d'.toNat ||| d.toNat : Nat) : Int) = d' ↔ d'.toNat ||| d.toNat = d'.toNat) from by omega, nat_or_iff, Nat.and_comm d'.toNat]
  omega
end
theorem lattice_j1 {s c i d s' c' i' d' : Int} (h : Lab s c i d) (h' : Lab s' c' i' d') (k : Nat) : donjonlaw4_LabelLattice.j1 (k + 1) false s c i d s' c' i' d' (mx s s') ((c.toNat ||| c'.toNat : Nat) : Int) (mn i i') ((d.toNat &&& d'.toNat : Nat) : Int) (mn s s') ((c.toNat &&& c'.toNat : Nat) : Int) (mx i i') ((d.toNat ||| d'.toNat : Nat) : Int) = some true := by
  have hj := join_lab h h'
  have hm := meet_lab h h'
  have ec : ((c.toNat : Nat) : Int) = c := by have := h.c0; omega
  have ed : ((d.toNat : Nat) : Int) = d := by have := h.d0; omega
  rw [donjonlaw4_LabelLattice.j1, if_neg (by decide), join_f h' h, Option.bind_some]
  dsimp only
  rw [if_pos (eq4 (mx_comm s s') (by rw [Nat.or_comm]) (mn_comm i i') (by rw [Nat.and_comm])), meet_f h' h, Option.bind_some]
  dsimp only
  rw [if_pos (eq4 (mn_comm s s') (by rw [Nat.and_comm]) (mx_comm i i') (by rw [Nat.or_comm])), join_f h hm, Option.bind_some]
  dsimp only
  rw [if_pos (eq4 (mx_mn s s') (by rw [Int.toNat_natCast, or_self_and, ec]) (mn_mx i i') (by rw [Int.toNat_natCast, and_or_l, ed])), meet_f h hj, Option.bind_some]
  dsimp only
  rw [if_pos (eq4 (mn_mx s s') (by rw [Int.toNat_natCast, and_or_l, ec]) (mx_mn i i') (by rw [Int.toNat_natCast, or_self_and, ed])), over_f h h', Option.bind_some, over_join h, if_pos (by simp), Option.bind_some, ← over_join h, over_meet h']
  simp
theorem lattice_j0 {s c i d s' c' i' d' s2 c2 i2 d2 : Int} (h : Lab s c i d) (h' : Lab s' c' i' d') (h2 : Lab s2 c2 i2 d2) (k : Nat) : donjonlaw4_LabelLattice.j0 (k + 2) false s c i d s' c' i' d' s2 c2 i2 d2 (mx s s') ((c.toNat ||| c'.toNat : Nat) : Int) (mn i i') ((d.toNat &&& d'.toNat : Nat) : Int) (mn s s') ((c.toNat &&& c'.toNat : Nat) : Int) (mx i i') ((d.toNat ||| d'.toNat : Nat) : Int) = some true := by
  have hj := join_lab h h'
  have hm := meet_lab h h'
  have e1 := lattice_j1 h h' k
  rw [donjonlaw4_LabelLattice.j0, if_neg (by decide), over_f h2 h, Option.bind_some, over_f h2 h', over_f h2 hj, over_f h h2, over_f h' h2, over_f hm h2]
  simp only [Option.bind_some, e1]
  by_cases b3 : overV s c i d s2 c2 i2 d2 = true
  · by_cases b4 : overV s' c' i' d' s2 c2 i2 d2 = true
    · have b5 := meet_most b3 b4
      simp only [b3, b4, b5, if_true, Bool.not_true, e1]
      by_cases b1 : overV s2 c2 i2 d2 s c i d = true
      · by_cases b2 : overV s2 c2 i2 d2 s' c' i' d' = true
        · simp only [b1, b2, join_least b1 b2, if_true]
        · simp only [b1, Bool.eq_false_iff.2 b2, if_true, Bool.false_eq_true, if_false]
      · simp only [Bool.eq_false_iff.2 b1, Bool.false_eq_true, if_false]
    · simp only [b3, Bool.eq_false_iff.2 b4, if_true, Bool.false_eq_true, if_false]
      by_cases b1 : overV s2 c2 i2 d2 s c i d = true
      · by_cases b2 : overV s2 c2 i2 d2 s' c' i' d' = true
        · simp only [b1, b2, join_least b1 b2, if_true]
        · simp only [b1, Bool.eq_false_iff.2 b2, if_true, Bool.false_eq_true, if_false]
      · simp only [Bool.eq_false_iff.2 b1, Bool.false_eq_true, if_false]
  · simp only [Bool.eq_false_iff.2 b3, Bool.false_eq_true, if_false]
    by_cases b1 : overV s2 c2 i2 d2 s c i d = true
    · by_cases b2 : overV s2 c2 i2 d2 s' c' i' d' = true
      · simp only [b1, b2, join_least b1 b2, if_true]
      · simp only [b1, Bool.eq_false_iff.2 b2, if_true, Bool.false_eq_true, if_false]
    · simp only [Bool.eq_false_iff.2 b1, Bool.false_eq_true, if_false]
theorem LabelLattice : ∀ (a0_0 : Int) (a0_1 : Int) (a0_2 : Int) (a0_3 : Int) (a1_0 : Int) (a1_1 : Int) (a1_2 : Int) (a1_3 : Int) (a2_0 : Int) (a2_1 : Int) (a2_2 : Int) (a2_3 : Int), (Lit.int .i64 a0_0).wf = true → (Lit.int .i64 a0_1).wf = true → (Lit.int .i64 a0_2).wf = true → (Lit.int .i64 a0_3).wf = true → (Lit.int .i64 a1_0).wf = true → (Lit.int .i64 a1_1).wf = true → (Lit.int .i64 a1_2).wf = true → (Lit.int .i64 a1_3).wf = true → (Lit.int .i64 a2_0).wf = true → (Lit.int .i64 a2_1).wf = true → (Lit.int .i64 a2_2).wf = true → (Lit.int .i64 a2_3).wf = true → ∃ k, donjonlaw4_LabelLattice.f k a0_0 a0_1 a0_2 a0_3 a1_0 a1_1 a1_2 a1_3 a2_0 a2_1 a2_2 a2_3 = some true := by
  intro s c i d s' c' i' d' s2 c2 i2 d2 _ _ _ _ _ _ _ _ _ _ _ _
  refine ⟨2, ?_⟩
  unfold donjonlaw4_LabelLattice.f
  rw [known4, Option.bind_some, if_pos rfl, good4_f, Option.bind_some, good4_f, Option.bind_some, good4_f, Option.bind_some]
  have h := lab_good s c i d
  have h' := lab_good s' c' i' d'
  have h2 := lab_good s2 c2 i2 d2
  dsimp only
  generalize s % 4 = s at h ⊢
  generalize c % 256 = c at h ⊢
  generalize i % 4 = i at h ⊢
  generalize d % 256 = d at h ⊢
  generalize s' % 4 = s' at h' ⊢
  generalize c' % 256 = c' at h' ⊢
  generalize i' % 4 = i' at h' ⊢
  generalize d' % 256 = d' at h' ⊢
  generalize s2 % 4 = s2 at h2 ⊢
  generalize c2 % 256 = c2 at h2 ⊢
  generalize i2 % 4 = i2 at h2 ⊢
  generalize d2 % 256 = d2 at h2 ⊢
  have hj := join_lab h h'
  have hm := meet_lab h h'
  rw [join_f h h', Option.bind_some, meet_f h h', Option.bind_some]
  dsimp only
  rw [check_lab hj, Option.bind_some, if_pos rfl, check_lab hm, Option.bind_some, if_pos rfl, over_f hj h, Option.bind_some, join_over_l, if_pos rfl, over_f hj h', Option.bind_some, join_over_r, if_pos rfl, over_f h hm, Option.bind_some, meet_under_l, if_pos rfl, over_f h' hm, Option.bind_some, meet_under_r]
  exact lattice_j0 h h' h2 0
end Go.Proofs.YtnepinkookbanaaDoor.Pure
