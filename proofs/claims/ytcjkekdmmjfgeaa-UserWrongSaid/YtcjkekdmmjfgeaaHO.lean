/- Written by a program of this session over the kit's print: YtcjkekdmmjfgeaaHO. -/
import Derived.Test.YtcjkekdmmjfgeaaH
import Derived.Test.YtcjkekdmmjfgeaaOpens
namespace Go.Proofs.Ytcjkekdmmjfgeaa.X
open Go.RowKit Go.Proofs.YtcjkekdmmjfgeaaW.PrintWords Go.Proofs.YtcjkekdmmjfgeaaW.PrintLast Go.Proofs.YtcjkekdmmjfgeaaW.PrintMore Go.Proofs.Ytcjkekdmmjfgeaa.More
attribute [local go_sem] max2_int min2_int max_two min_two max_three min_three max_four min_four binOp_string_leq binOp_string_gtr   -- for this text's walks alone
set_option linter.unusedVariables false
set_option linter.unusedSimpArgs false

open Go.Proofs.Ytcjkekdmmjfgeaa.Opens
def g_T31 (x : S31) : Prop := (Lit.int .i64 x.f0).wf = true ∧ (Lit.int .i64 x.f1).wf = true ∧ (Lit.int .i64 x.f2).wf = true
def g_T37 (x : S37) : Prop := (Lit.int .i64 x.f0).wf = true ∧ (Lit.int .i64 x.f1).wf = true ∧ (Lit.int .i64 x.f2).wf = true
def g_T54 (x : S54) : Prop := (Lit.int .i64 x.f0).wf = true ∧ (Lit.int .i64 x.f1).wf = true ∧ (Lit.int .i64 x.f2).wf = true ∧ (Lit.int .i64 x.f3).wf = true
def g_T78 (x : S78) : Prop := x.f0.size ≤ 140737488351232 ∧ (Lit.int .i64 x.f1).wf = true
theorem opens_T31 : Opens Try.prog 31 k31 g_T31 := by
  have h := opens_struct (P := Try.prog) (t := 31) Try.underlying31 (by kernel_rfl) (fun x : S31 => (x.f0, x.f1, x.f2)) (fun y => ⟨y.1, y.2.1, y.2.2⟩) (fun _ => rfl) (fields_cons rfl (by kernel_rfl) (opens_int Try.underlying3) (fields_cons rfl (by kernel_rfl) (opens_int Try.underlying3) (fields_one rfl (by kernel_rfl) (opens_int Try.underlying3))))
  exact h
theorem opens_T37 : Opens Try.prog 37 k37 g_T37 := by
  have h := opens_struct (P := Try.prog) (t := 37) Try.underlying37 (by kernel_rfl) (fun x : S37 => (x.f0, x.f1, x.f2)) (fun y => ⟨y.1, y.2.1, y.2.2⟩) (fun _ => rfl) (fields_cons rfl (by kernel_rfl) (opens_int Try.underlying3) (fields_cons rfl (by kernel_rfl) (opens_int Try.underlying3) (fields_one rfl (by kernel_rfl) (opens_int Try.underlying3))))
  exact h
theorem opens_T54 : Opens Try.prog 54 k54 g_T54 := by
  have h := opens_struct (P := Try.prog) (t := 54) Try.underlying54 (by kernel_rfl) (fun x : S54 => (x.f0, x.f1, x.f2, x.f3)) (fun y => ⟨y.1, y.2.1, y.2.2.1, y.2.2.2⟩) (fun _ => rfl) (fields_cons rfl (by kernel_rfl) (opens_int Try.underlying3) (fields_cons rfl (by kernel_rfl) (opens_int Try.underlying3) (fields_cons rfl (by kernel_rfl) (opens_int Try.underlying3) (fields_one rfl (by kernel_rfl) (opens_int Try.underlying3)))))
  exact h
theorem opens_T78 : Opens Try.prog 78 k78 g_T78 := by
  have h := opens_struct (P := Try.prog) (t := 78) Try.underlying78 (by kernel_rfl) (fun x : S78 => (x.f0, x.f1)) (fun y => ⟨y.1, y.2⟩) (fun _ => rfl) (fields_cons rfl (by kernel_rfl) (opens_string Try.underlying9) (fields_one rfl (by kernel_rfl) (opens_int Try.underlying3)))
  exact h
end Go.Proofs.Ytcjkekdmmjfgeaa.X
