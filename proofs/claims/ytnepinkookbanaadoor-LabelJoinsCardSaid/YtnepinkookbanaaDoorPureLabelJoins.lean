/- LabelJoins, over numbers: joins and meets are taken together in any order. For every input. -/
import Derived.Test.YtnepinkookbanaaDoorF4
import Derived.Test.YtnepinkookbanaaDoorPLabOrd
import Derived.Test.YtnepinkookbanaaDoorHO
namespace Go.Proofs.YtnepinkookbanaaDoor.Pure
open Go.RowKit Go.Proofs.YtnepinkookbanaaDoor.X Go.Proofs.YtnepinkookbanaaDoorW.PrintWords Go.Proofs.YtnepinkookbanaaDoorW.PrintLast Go.Proofs.YtnepinkookbanaaDoor.Lib Go.Proofs.YtnepinkookbanaaDoorW.PrintMore

theorem mx_assoc (a b c : Int) : mx (mx a b) c = mx a (mx b c) := by
  unfold mx
  repeat' split
  all_goals omega
theorem mn_assoc (a b c : Int) : mn (mn a b) c = mn a (mn b c) := by
  unfold mn
  repeat' split
  all_goals omega
theorem mx_self (a : Int) : mx a a = a := by unfold mx; split <;> rfl
theorem mn_self (a : Int) : mn a a = a := by unfold mn; split <;> rfl
theorem orB {a b : Int} (ha : 0 ≤ a ∧ a < 256) (hb : 0 ≤ b ∧ b < 256) : Go.bits .or .i64 a b = ((a.toNat ||| b.toNat : Nat) : Int) ∧ (0 ≤ Go.bits .or .i64 a b ∧ Go.bits .or .i64 a b < 256) := by
  have h := or_i64 ha.1 (by omega) hb.1 (by omega)
  have h2 : a.toNat ||| b.toNat < 2 ^ 8 := Nat.or_lt_two_pow (by omega) (by omega)
  exact ⟨h, by rw [h]; omega, by rw [h]; omega⟩
theorem andB {a b : Int} (ha : 0 ≤ a ∧ a < 256) (hb : 0 ≤ b ∧ b < 256) : Go.bits .and .i64 a b = ((a.toNat &&& b.toNat : Nat) : Int) ∧ (0 ≤ Go.bits .and .i64 a b ∧ Go.bits .and .i64 a b < 256) := by
  have h := and_i64 ha.1 (by omega) hb.1 (by omega)
  have h2 : a.toNat &&& b.toNat ≤ a.toNat := Nat.and_le_left
  exact ⟨h, by rw [h]; omega, by rw [h]; omega⟩
theorem or_assocB {a b c : Int} (ha : 0 ≤ a ∧ a < 256) (hb : 0 ≤ b ∧ b < 256) (hc : 0 ≤ c ∧ c < 256) : Go.bits .or .i64 (Go.bits .or .i64 a b) c = Go.bits .or .i64 a (Go.bits .or .i64 b c) := by
  rw [(orB (orB ha hb).2 hc).1, (orB ha (orB hb hc).2).1, (orB ha hb).1, (orB hb hc).1, Int.toNat_natCast, Int.toNat_natCast, Nat.or_assoc]
theorem and_assocB {a b c : Int} (ha : 0 ≤ a ∧ a < 256) (hb : 0 ≤ b ∧ b < 256) (hc : 0 ≤ c ∧ c < 256) : Go.bits .and .i64 (Go.bits .and .i64 a b) c = Go.bits .and .i64 a (Go.bits .and .i64 b c) := by
  rw [(andB (andB ha hb).2 hc).1, (andB ha (andB hb hc).2).1, (andB ha hb).1, (andB hb hc).1, Int.toNat_natCast, Int.toNat_natCast, Nat.and_assoc]
theorem or_selfB {a : Int} (ha : 0 ≤ a ∧ a < 256) : Go.bits .or .i64 a a = a := by rw [(orB ha ha).1, Nat.or_self]; omega
theorem and_selfB {a : Int} (ha : 0 ≤ a ∧ a < 256) : Go.bits .and .i64 a a = a := by rw [(andB ha ha).1, Nat.and_self]; omega
theorem or_zeroB {a : Int} (ha : 0 ≤ a ∧ a < 256) : Go.bits .or .i64 a 0 = a := by
  rw [(orB ha (by decide)).1, show (0 : Int).toNat = 0 from rfl, Nat.or_zero]; omega
theorem and_zeroB {a : Int} (ha : 0 ≤ a ∧ a < 256) : Go.bits .and .i64 a 0 = 0 := by
  rw [(andB ha (by decide)).1, show (0 : Int).toNat = 0 from rfl, Nat.and_zero]; rfl
theorem and_fullB {a : Int} (ha : 0 ≤ a ∧ a < 256) : Go.bits .and .i64 a 255 = a := by
  rw [(andB ha (by decide)).1, show (255 : Int).toNat = 255 from rfl, nat_and_255 (by omega)]; omega
theorem or_fullB {a : Int} (ha : 0 ≤ a ∧ a < 256) : Go.bits .or .i64 a 255 = 255 := by
  have h : ∀ n : Fin 256, Go.bits .or .i64 (n.val : Int) 255 = 255 := by decide +kernel
  have := h ⟨a.toNat, by omega⟩
  have e : ((⟨a.toNat, by omega⟩ : Fin 256).val : Int) = a := by simp; omega
  rw [e] at this
  exact this

theorem LabelJoins : ∀ (a0_0 : Int) (a0_1 : Int) (a0_2 : Int) (a0_3 : Int) (a1_0 : Int) (a1_1 : Int) (a1_2 : Int) (a1_3 : Int) (a2_0 : Int) (a2_1 : Int) (a2_2 : Int) (a2_3 : Int), (Lit.int .i64 a0_0).wf = true → (Lit.int .i64 a0_1).wf = true → (Lit.int .i64 a0_2).wf = true → (Lit.int .i64 a0_3).wf = true → (Lit.int .i64 a1_0).wf = true → (Lit.int .i64 a1_1).wf = true → (Lit.int .i64 a1_2).wf = true → (Lit.int .i64 a1_3).wf = true → (Lit.int .i64 a2_0).wf = true → (Lit.int .i64 a2_1).wf = true → (Lit.int .i64 a2_2).wf = true → (Lit.int .i64 a2_3).wf = true → donjonlaw4_LabelJoins.f a0_0 a0_1 a0_2 a0_3 a1_0 a1_1 a1_2 a1_3 a2_0 a2_1 a2_2 a2_3 = some true := by
  intro a b c d a' b' c' d' a2 b2 c2 d2 _ _ _ _ _ _ _ _ _ _ _ _
  unfold donjonlaw4_LabelJoins.f
  rw [known4, Option.bind_some, if_pos rfl, good4_f, Option.bind_some, good4_f, Option.bind_some, good4_f, Option.bind_some]
  have h1 : 0 ≤ b % 256 ∧ b % 256 < 256 := by omega
  have h2 : 0 ≤ d % 256 ∧ d % 256 < 256 := by omega
  have h3 : 0 ≤ b' % 256 ∧ b' % 256 < 256 := by omega
  have h4 : 0 ≤ d' % 256 ∧ d' % 256 < 256 := by omega
  have h5 : 0 ≤ b2 % 256 ∧ b2 % 256 < 256 := by omega
  have h6 : 0 ≤ d2 % 256 ∧ d2 % 256 < 256 := by omega
  have s1 : 0 ≤ a % 4 ∧ a % 4 < 4 := by omega
  have s2 : 0 ≤ c % 4 ∧ c % 4 < 4 := by omega
  generalize a % 4 = x1 at *
  generalize b % 256 = x2 at *
  generalize c % 4 = x3 at *
  generalize d % 256 = x4 at *
  generalize a' % 4 = y1 at *
  generalize b' % 256 = y2 at *
  generalize c' % 4 = y3 at *
  generalize d' % 256 = y4 at *
  generalize a2 % 4 = z1 at *
  generalize b2 % 256 = z2 at *
  generalize c2 % 4 = z3 at *
  generalize d2 % 256 = z4 at *
  unfold label_Join.f label_Meet.f label_Bottom.f
  have e1 : mx x1 0 = x1 := by unfold mx; split <;> omega
  have e2 : mn x3 3 = x3 := by unfold mn; split <;> omega
  have e3 : mn x1 0 = 0 := by unfold mn; split <;> omega
  have e4 : mx x3 3 = 3 := by unfold mx; split <;> omega
  rw [Option.bind_some, Option.bind_some, Option.bind_some, Option.bind_some, if_pos (eq4 (mx_assoc _ _ _) (or_assocB h1 h3 h5) (mn_assoc _ _ _) (and_assocB h2 h4 h6)),
    Option.bind_some, Option.bind_some, Option.bind_some, Option.bind_some, if_pos (eq4 (mn_assoc _ _ _) (and_assocB h1 h3 h5) (mx_assoc _ _ _) (or_assocB h2 h4 h6)),
    Option.bind_some, if_pos (eq4 (mx_self _) (or_selfB h1) (mn_self _) (and_selfB h2)), Option.bind_some, if_pos (eq4 (mn_self _) (and_selfB h1) (mx_self _) (or_selfB h2)),
    Option.bind_some, Option.bind_some, if_pos (eq4 e1 (or_zeroB h1) e2 (and_fullB h2)), Option.bind_some, Option.bind_some, Option.bind_some]
  exact congrArg some (eq4 e3 (and_zeroB h1) e4 (or_fullB h2))
end Go.Proofs.YtnepinkookbanaaDoor.Pure
