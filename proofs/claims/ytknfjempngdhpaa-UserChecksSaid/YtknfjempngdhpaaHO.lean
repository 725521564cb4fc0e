/- Written by a program of this session over the kit's print: YtknfjempngdhpaaHO. -/
import Derived.Test.YtknfjempngdhpaaH
import Derived.Test.YtknfjempngdhpaaOpens
namespace Go.Proofs.Ytknfjempngdhpaa.X
open Go.RowKit Go.Proofs.YtknfjempngdhpaaW.PrintWords Go.Proofs.YtknfjempngdhpaaW.PrintLast Go.Proofs.YtknfjempngdhpaaW.PrintMore Go.Proofs.Ytknfjempngdhpaa.More
attribute [local go_sem] max2_int min2_int max_two min_two max_three min_three max_four min_four binOp_string_leq binOp_string_gtr   -- for this text's walks alone
set_option linter.unusedVariables false
set_option linter.unusedSimpArgs false

open Go.Proofs.Ytknfjempngdhpaa.Opens
def g_T36 (x : S36) : Prop := (Lit.int .i64 x.f0).wf = true ∧ (Lit.int .i64 x.f1).wf = true ∧ (Lit.int .i64 x.f2).wf = true ∧ (Lit.int .i64 x.f3).wf = true
def g_T39 (x : S39) : Prop := x.f0.size ≤ 140737488351232 ∧ (Lit.int .i64 x.f1).wf = true ∧ (Lit.int .u64 x.f2).wf = true ∧ g_T36 x.f3 ∧ True
def g_T45 (x : S45) : Prop := g_T36 x.f0 ∧ g_T36 x.f1 ∧ x.f2.size ≤ 140737488351232
def g_T26 (x : S26) : Prop := (x.f0.length ≤ maxLen ∧ x.f0.length * 32 ≤ 140737488351232 ∧ ∀ y_ ∈ x.f0, g_T36 y_) ∧ (x.f1.length ≤ maxLen ∧ x.f1.length * 72 ≤ 140737488351232 ∧ ∀ y_ ∈ x.f1, g_T39 y_) ∧ (x.f2.length ≤ maxLen ∧ x.f2.length * 80 ≤ 140737488351232 ∧ ∀ y_ ∈ x.f2, g_T45 y_)
theorem opens_T36 : Opens Try.prog 36 k36 g_T36 := by
  have h := opens_struct (P := Try.prog) (t := 36) Try.underlying36 (by kernel_rfl) (fun x : S36 => (x.f0, x.f1, x.f2, x.f3)) (fun y => ⟨y.1, y.2.1, y.2.2.1, y.2.2.2⟩) (fun _ => rfl) (fields_cons rfl (by kernel_rfl) (opens_int Try.underlying3) (fields_cons rfl (by kernel_rfl) (opens_int Try.underlying3) (fields_cons rfl (by kernel_rfl) (opens_int Try.underlying3) (fields_one rfl (by kernel_rfl) (opens_int Try.underlying3)))))
  exact h
theorem opens_T39 : Opens Try.prog 39 k39 g_T39 := by
  have h := opens_struct (P := Try.prog) (t := 39) Try.underlying39 (by kernel_rfl) (fun x : S39 => (x.f0, x.f1, x.f2, x.f3, x.f4)) (fun y => ⟨y.1, y.2.1, y.2.2.1, y.2.2.2.1, y.2.2.2.2⟩) (fun _ => rfl) (fields_cons rfl (by kernel_rfl) (opens_string Try.underlying9) (fields_cons rfl (by kernel_rfl) (opens_int Try.underlying3) (fields_cons rfl (by kernel_rfl) (opens_int Try.underlying37) (fields_cons rfl (by kernel_rfl) opens_T36 (fields_one rfl (by kernel_rfl) (opens_bool Try.underlying4))))))
  exact h
theorem opens_T45 : Opens Try.prog 45 k45 g_T45 := by
  have h := opens_struct (P := Try.prog) (t := 45) Try.underlying45 (by kernel_rfl) (fun x : S45 => (x.f0, x.f1, x.f2)) (fun y => ⟨y.1, y.2.1, y.2.2⟩) (fun _ => rfl) (fields_cons rfl (by kernel_rfl) opens_T36 (fields_cons rfl (by kernel_rfl) opens_T36 (fields_one rfl (by kernel_rfl) (opens_string Try.underlying9))))
  exact h
theorem opens_T26 : Opens Try.prog 26 k26 g_T26 := by
  have h := opens_struct (P := Try.prog) (t := 26) Try.underlying26 (by kernel_rfl) (fun x : S26 => (x.f0, x.f1, x.f2)) (fun y => ⟨y.1, y.2.1, y.2.2⟩) (fun _ => rfl) (fields_cons rfl (by kernel_rfl) (opens_slice (B := 32) Try.underlying22 opens_T36 (by kernel_rfl) (by kernel_rfl)) (fields_cons rfl (by kernel_rfl) (opens_slice (B := 72) Try.underlying23 opens_T39 (by kernel_rfl) (by kernel_rfl)) (fields_one rfl (by kernel_rfl) (opens_slice (B := 80) Try.underlying24 opens_T45 (by kernel_rfl) (by kernel_rfl)))))
  exact h
end Go.Proofs.Ytknfjempngdhpaa.X
