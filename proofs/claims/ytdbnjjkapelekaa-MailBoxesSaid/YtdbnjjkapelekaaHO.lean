/- Written by a program of this session over the kit's print: YtdbnjjkapelekaaHO. -/
import Derived.Test.YtdbnjjkapelekaaH
import Derived.Test.YtdbnjjkapelekaaOpens
namespace Go.Proofs.Ytdbnjjkapelekaa.X
open Go.RowKit Go.Proofs.YtdbnjjkapelekaaW.PrintWords Go.Proofs.YtdbnjjkapelekaaW.PrintLast Go.Proofs.YtdbnjjkapelekaaW.PrintMore Go.Proofs.Ytdbnjjkapelekaa.More
attribute [local go_sem] max2_int min2_int max_two min_two max_three min_three max_four min_four binOp_string_leq binOp_string_gtr   -- for this text's walks alone
set_option linter.unusedVariables false
set_option linter.unusedSimpArgs false

open Go.Proofs.Ytdbnjjkapelekaa.Opens
def g_T26 (x : S26) : Prop := (Lit.int .i64 x.f0).wf = true ∧ (Lit.int .i64 x.f1).wf = true ∧ (Lit.int .i64 x.f2).wf = true ∧ (Lit.int .i64 x.f3).wf = true
def g_T28 (x : S28) : Prop := x.f0.size ≤ 140737488351232 ∧ g_T26 x.f1 ∧ x.f2.size ≤ 140737488351232 ∧ g_T26 x.f3 ∧ x.f4.size ≤ 140737488351232
def g_T44 (x : S44) : Prop := g_T26 x.f0 ∧ g_T26 x.f1 ∧ x.f2.size ≤ 140737488351232
theorem opens_T26 : Opens Try.prog 26 k26 g_T26 := by
  have h := opens_struct (P := Try.prog) (t := 26) Try.underlying26 (by kernel_rfl) (fun x : S26 => (x.f0, x.f1, x.f2, x.f3)) (fun y => ⟨y.1, y.2.1, y.2.2.1, y.2.2.2⟩) (fun _ => rfl) (fields_cons rfl (by kernel_rfl) (opens_int Try.underlying3) (fields_cons rfl (by kernel_rfl) (opens_int Try.underlying3) (fields_cons rfl (by kernel_rfl) (opens_int Try.underlying3) (fields_one rfl (by kernel_rfl) (opens_int Try.underlying3)))))
  exact h
theorem opens_T28 : Opens Try.prog 28 k28 g_T28 := by
  have h := opens_struct (P := Try.prog) (t := 28) Try.underlying28 (by kernel_rfl) (fun x : S28 => (x.f0, x.f1, x.f2, x.f3, x.f4)) (fun y => ⟨y.1, y.2.1, y.2.2.1, y.2.2.2.1, y.2.2.2.2⟩) (fun _ => rfl) (fields_cons rfl (by kernel_rfl) (opens_string Try.underlying9) (fields_cons rfl (by kernel_rfl) opens_T26 (fields_cons rfl (by kernel_rfl) (opens_string Try.underlying9) (fields_cons rfl (by kernel_rfl) opens_T26 (fields_one rfl (by kernel_rfl) (opens_string Try.underlying9))))))
  exact h
theorem opens_T44 : Opens Try.prog 44 k44 g_T44 := by
  have h := opens_struct (P := Try.prog) (t := 44) Try.underlying44 (by kernel_rfl) (fun x : S44 => (x.f0, x.f1, x.f2)) (fun y => ⟨y.1, y.2.1, y.2.2⟩) (fun _ => rfl) (fields_cons rfl (by kernel_rfl) opens_T26 (fields_cons rfl (by kernel_rfl) opens_T26 (fields_one rfl (by kernel_rfl) (opens_string Try.underlying9))))
  exact h
end Go.Proofs.Ytdbnjjkapelekaa.X
