/- The chapter's example of labels, and that over is an order. -/
import Derived.Test.YtnepinkookbanaaDoorF14
import Derived.Test.YtnepinkookbanaaDoorPLab
namespace Go.Proofs.YtnepinkookbanaaDoor.Pure
open Go.RowKit Go.Proofs.YtnepinkookbanaaDoor.X Go.Proofs.YtnepinkookbanaaDoorW.PrintWords Go.Proofs.YtnepinkookbanaaDoorW.PrintLast Go.Proofs.YtnepinkookbanaaDoor.Lib Go.Proofs.YtnepinkookbanaaDoorW.PrintMore

theorem known4 : donjonlaw4_known.f = some true := by
  unfold donjonlaw4_known.f label_Bottom.f label_Text.f
  rw [Option.bind_some, if_pos (by decide), Option.bind_some]
  decide +kernel
theorem lab_bottom : Lab 0 0 3 255 := ⟨by decide, by decide, by decide, by decide, by decide, by decide, by decide, by decide⟩
theorem overV_iff {s c i d s' c' i' d' : Int} : overV s c i d s' c' i' d' = true ↔ s' ≤ s ∧ c.toNat &&& c'.toNat = c'.toNat ∧ i ≤ i' ∧ d.toNat &&& d'.toNat = d.toNat := by
  unfold overV
  simp only [Bool.and_eq_true, decide_eq_true_eq]
theorem overV_refl (s c i d : Int) : overV s c i d s c i d = true := overV_iff.2 ⟨Int.le_refl _, Nat.and_self _, Int.le_refl _, Nat.and_self _⟩
theorem nat_and_255 {n : Nat} (h : n < 256) : n &&& 255 = n := by
  have := Nat.and_two_pow_sub_one_eq_mod n 8
  rw [show (2 ^ 8 - 1 : Nat) = 255 from rfl] at this
  rw [this]
  omega
theorem overV_bottom {s c i d : Int} (h : Lab s c i d) : overV s c i d 0 0 3 255 = true := by
  obtain ⟨a1, a2, a3, a4, a5, a6, a7, a8⟩ := h
  refine overV_iff.2 ⟨a1, ?_, by omega, ?_⟩
  · show c.toNat &&& 0 = 0
    exact Nat.and_zero _
  · show d.toNat &&& 255 = d.toNat
    exact nat_and_255 (by omega)
theorem overV_anti {s c i d s' c' i' d' : Int} (h : Lab s c i d) (h' : Lab s' c' i' d') (h1 : overV s c i d s' c' i' d' = true) (h2 : overV s' c' i' d' s c i d = true) : s = s' ∧ c = c' ∧ i = i' ∧ d = d' := by
  obtain ⟨a1, a2, a3, a4, a5, a6, a7, a8⟩ := h
  obtain ⟨b1, b2, b3, b4, b5, b6, b7, b8⟩ := h'
  obtain ⟨p1, p2, p3, p4⟩ := overV_iff.1 h1
  obtain ⟨q1, q2, q3, q4⟩ := overV_iff.1 h2
  rw [Nat.and_comm] at q2 q4
  have e1 : c.toNat = c'.toNat := q2.symm.trans p2
  have e2 : d.toNat = d'.toNat := p4.symm.trans q4
  refine ⟨by omega, by omega, by omega, by omega⟩
theorem overV_trans {s c i d s' c' i' d' s2 c2 i2 d2 : Int} (h1 : overV s c i d s' c' i' d' = true) (h2 : overV s' c' i' d' s2 c2 i2 d2 = true) : overV s c i d s2 c2 i2 d2 = true := by
  obtain ⟨p1, p2, p3, p4⟩ := overV_iff.1 h1
  obtain ⟨q1, q2, q3, q4⟩ := overV_iff.1 h2
  refine overV_iff.2 ⟨by omega, ?_, by omega, ?_⟩
  · rw [← q2, ← Nat.and_assoc, p2]
  · rw [← p4, Nat.and_assoc, q4]
theorem eq4 {a b c d a' b' c' d' : Int} (h1 : a = a') (h2 : b = b') (h3 : c = c') (h4 : d = d') : (a == a' && (b == b' && (c == c' && (d == d')))) = true := by
  subst h1; subst h2; subst h3; subst h4
  simp
end Go.Proofs.YtnepinkookbanaaDoor.Pure
