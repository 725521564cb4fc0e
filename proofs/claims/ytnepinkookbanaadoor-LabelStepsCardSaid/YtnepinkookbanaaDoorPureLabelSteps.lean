/- LabelSteps, over numbers: one level or category more of secrecy, or less of integrity, makes a label that is over. For every input. -/
import Derived.Test.YtnepinkookbanaaDoorF7
import Derived.Test.YtnepinkookbanaaDoorPLabOrd
import Derived.Test.YtnepinkookbanaaDoorHO
namespace Go.Proofs.YtnepinkookbanaaDoor.Pure
open Go.RowKit Go.Proofs.YtnepinkookbanaaDoor.X Go.Proofs.YtnepinkookbanaaDoorW.PrintWords Go.Proofs.YtnepinkookbanaaDoorW.PrintLast Go.Proofs.YtnepinkookbanaaDoor.Lib Go.Proofs.YtnepinkookbanaaDoorW.PrintMore

open Classical in
theorem lcheck_lab (s c i d : Int) : label_Check.f s c i d = some (if Lab s c i d then 0 else 1) := by
  have hno : ∀ {p : Prop}, (Lab s c i d → p) → ¬ p → (if Lab s c i d then (0 : Int) else 1) = 1 := fun h1 h2 => if_neg (fun h => h2 (h1 h))
  unfold label_Check.f label_level.f label_cats.f
  by_cases h1 : s ≥ 0
  · rw [if_pos h1, Option.bind_some]
    by_cases h2 : s ≤ 3
    · rw [decide_eq_true h2, if_pos rfl]
      by_cases h3 : i ≥ 0
      · rw [if_pos h3, Option.bind_some]
        by_cases h4 : i ≤ 3
        · rw [decide_eq_true h4, if_pos rfl]
          by_cases h5 : c ≥ 0
          · rw [if_pos h5, Option.bind_some]
            by_cases h6 : c ≤ 255
            · rw [decide_eq_true h6, if_pos rfl]
              by_cases h7 : d ≥ 0
              · rw [if_pos h7, Option.bind_some]
                by_cases h8 : d ≤ 255
                · rw [decide_eq_true h8, if_pos rfl, if_pos ⟨h1, by omega, h5, by omega, h3, by omega, h7, by omega⟩]
                · rw [decide_eq_false h8, if_neg (by simp), hno (fun h => (by have := h.d1; omega : d ≤ 255)) h8]
              · rw [if_neg h7, Option.bind_some, if_neg (by simp), hno (fun h => h.d0) h7]
            · rw [decide_eq_false h6, if_neg (by simp), hno (fun h => (by have := h.c1; omega : c ≤ 255)) h6]
          · rw [if_neg h5, Option.bind_some, if_neg (by simp), hno (fun h => h.c0) h5]
        · rw [decide_eq_false h4, if_neg (by simp), hno (fun h => (by have := h.i1; omega : i ≤ 3)) h4]
      · rw [if_neg h3, Option.bind_some, if_neg (by simp), hno (fun h => h.i0) h3]
    · rw [decide_eq_false h2, if_neg (by simp), hno (fun h => (by have := h.s1; omega : s ≤ 3)) h2]
  · rw [if_neg h1, Option.bind_some, if_neg (by simp), hno (fun h => h.s0) h1]
/-- A label that is another one's step up, or none, or that label. -/
theorem steps_j0 {s c i d s' c' i' d' : Int} (hA : Lab s c i d) (h : Lab s' c' i' d' → overV s' c' i' d' s c i d = true) : donjonlaw4_LabelSteps.j0 2 s c i d s' c' i' d' = some true := by
  rw [donjonlaw4_LabelSteps.j0, lcheck_lab, Option.bind_some]
  by_cases hB : Lab s' c' i' d'
  · rw [if_pos hB, if_pos rfl, donjonlaw4_LabelSteps.j1]
    by_cases he : (s' == s && (c' == c && (i' == i && (d' == d)))) = true
    · rw [if_pos he, lcheck_lab, Option.bind_some, if_pos hB, if_pos rfl]
    · have ho := h hB
      have hno : ¬ overV s c i d s' c' i' d' = true := fun h2 => he (by obtain ⟨e1, e2, e3, e4⟩ := overV_anti hA hB h2 ho; exact eq4 e1.symm e2.symm e3.symm e4.symm)
      obtain ⟨p1, p2, p3, p4⟩ := overV_iff.1 ho
      obtain ⟨a1, a2, a3, a4, a5, a6, a7, a8⟩ := hA
      obtain ⟨b1, b2, b3, b4, b5, b6, b7, b8⟩ := hB
      have q2 : Go.bits .or .i64 c c' = c' := by
        rw [or_i64 a3 (by omega) b3 (by omega), Nat.or_comm, (nat_or_iff _ _).2 p2]; omega
      have q4 : Go.bits .and .i64 d d' = d' := by
        rw [and_i64 a7 (by omega) b7 (by omega), Nat.and_comm, p4]; omega
      have r2 : Go.bits .and .i64 c c' = c := by
        rw [and_i64 a3 (by omega) b3 (by omega), Nat.and_comm, p2]; omega
      have r4 : Go.bits .or .i64 d d' = d := by
        rw [or_i64 a7 (by omega) b7 (by omega), (nat_or_iff _ _).2 (by rw [Nat.and_comm]; exact p4)]; omega
      have q1 : mx s s' = s' := by unfold mx; split <;> omega
      have q3 : mn i i' = i' := by unfold mn; split <;> omega
      have r1 : mn s s' = s := by unfold mn; split <;> omega
      have r3 : mx i i' = i := by unfold mx; split <;> omega
      rw [if_neg he, over_f ⟨b1, b2, b3, b4, b5, b6, b7, b8⟩ ⟨a1, a2, a3, a4, a5, a6, a7, a8⟩, Option.bind_some, if_pos ho, over_f ⟨a1, a2, a3, a4, a5, a6, a7, a8⟩ ⟨b1, b2, b3, b4, b5, b6, b7, b8⟩, Option.bind_some, if_neg hno]
      unfold label_Join.f label_Meet.f
      rw [Option.bind_some, if_pos (eq4 q1 q2 q3 q4), Option.bind_some]
      exact congrArg some (eq4 r1 r2 r3 r4)
  · rw [if_neg hB, if_neg (by decide), donjonlaw4_LabelSteps.j1, if_pos rfl, lcheck_lab, Option.bind_some, if_neg hB, if_neg (by decide)]
    rfl
set_option maxRecDepth 100000 in
theorem or_bit : ∀ c : Fin 256, ∀ b : Fin 8, (Go.bits .or .i64 (c.val : Int) (shl .i64 1 (b.val : Int))).toNat &&& c.val = c.val := by decide +kernel
set_option maxRecDepth 100000 in
theorem not_bit : ∀ c : Fin 256, ∀ b : Fin 8, (Go.bits .andNot .i64 (c.val : Int) (shl .i64 1 (b.val : Int))).toNat &&& c.val = (Go.bits .andNot .i64 (c.val : Int) (shl .i64 1 (b.val : Int))).toNat := by decide +kernel

theorem LabelSteps : ∀ (a0_0 : Int) (a0_1 : Int) (a0_2 : Int) (a0_3 : Int) (a1 : Int) (a2 : Int), (Lit.int .i64 a0_0).wf = true → (Lit.int .i64 a0_1).wf = true → (Lit.int .i64 a0_2).wf = true → (Lit.int .i64 a0_3).wf = true → (Lit.int .i64 a1).wf = true → (Lit.int .i64 a2).wf = true → ∃ k, donjonlaw4_LabelSteps.f k a0_0 a0_1 a0_2 a0_3 a1 a2 = some true := by
  intro a b c d wh bi _ _ _ _ _ _
  refine ⟨2, ?_⟩
  unfold donjonlaw4_LabelSteps.f
  have hA := lab_good a b c d
  rw [known4, Option.bind_some, if_pos rfl, good4_f, Option.bind_some]
  obtain ⟨t, e1, t0, t1, _⟩ := within_small (a := bi) (n := 8) (by omega) (by omega)
  obtain ⟨u, e2, u0, u1, _⟩ := within_small (a := wh) (n := 4) (by omega) (by omega)
  have g1 : donjonlaw4_within.f bi 8 = some t := e1
  have g2 : donjonlaw4_within.f wh 4 = some u := e2
  rw [g1, Option.bind_some, if_pos t0, g2, Option.bind_some]
  have et : ((⟨t.toNat, by omega⟩ : Fin 8).val : Int) = t := by simp; omega
  by_cases c0 : u = 0
  · rw [if_pos c0]
    dsimp only
    refine steps_j0 hA (fun _ => overV_iff.2 ⟨?_, Nat.and_self _, Int.le_refl _, Nat.and_self _⟩)
    rw [wrap64_id (by omega) (by omega)]
    omega
  rw [if_neg c0]
  by_cases c1 : u = 1
  · rw [if_pos c1]
    have h := or_bit ⟨(b % 256).toNat, by omega⟩ ⟨t.toNat, by omega⟩
    have eb : ((⟨(b % 256).toNat, by omega⟩ : Fin 256).val : Int) = b % 256 := by simp; omega
    rw [et, eb] at h
    exact steps_j0 hA (fun _ => overV_iff.2 ⟨Int.le_refl _, h, Int.le_refl _, Nat.and_self _⟩)
  rw [if_neg c1]
  by_cases c2 : u = 2
  · rw [if_pos c2]
    dsimp only
    refine steps_j0 hA (fun _ => overV_iff.2 ⟨Int.le_refl _, Nat.and_self _, ?_, Nat.and_self _⟩)
    rw [wrap64_id (by omega) (by omega)]
    omega
  rw [if_neg c2]
  by_cases c3 : u = 3
  · rw [if_pos c3]
    have h := not_bit ⟨(d % 256).toNat, by omega⟩ ⟨t.toNat, by omega⟩
    have eb : ((⟨(d % 256).toNat, by omega⟩ : Fin 256).val : Int) = d % 256 := by simp; omega
    rw [et, eb] at h
    exact steps_j0 hA (fun _ => overV_iff.2 ⟨Int.le_refl _, Nat.and_self _, Int.le_refl _, h⟩)
  · omega
end Go.Proofs.YtnepinkookbanaaDoor.Pure
