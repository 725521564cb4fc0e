/- Written by a program of this session over the kit's print: YtnepinkookbanaaDoorHO. -/
import Derived.Test.YtnepinkookbanaaDoorH
import Derived.Test.YtnepinkookbanaaDoorOpens
namespace Go.Proofs.YtnepinkookbanaaDoor.X
open Go.RowKit Go.Proofs.YtnepinkookbanaaDoorW.PrintWords Go.Proofs.YtnepinkookbanaaDoorW.PrintLast Go.Proofs.YtnepinkookbanaaDoorW.PrintMore Go.Proofs.YtnepinkookbanaaDoor.More
attribute [local go_sem] max2_int min2_int max_two min_two max_three min_three max_four min_four binOp_string_leq binOp_string_gtr   -- for this text's walks alone
set_option linter.unusedVariables false
set_option linter.unusedSimpArgs false

open Go.Proofs.YtnepinkookbanaaDoor.Opens
def g_T23 (x : S23) : Prop := (Lit.int .i64 x.f0).wf = true ∧ (Lit.int .i64 x.f1).wf = true ∧ (Lit.int .i64 x.f2).wf = true ∧ (Lit.int .i64 x.f3).wf = true
def g_T45 (x : S45) : Prop := (Lit.int .i64 x.f0).wf = true ∧ (Lit.int .i64 x.f1).wf = true ∧ (Lit.int .i64 x.f2).wf = true
theorem opens_T23 : Opens Tryd.prog 23 k23 g_T23 := by
  have h := opens_struct (P := Tryd.prog) (t := 23) Tryd.underlying23 (by kernel_rfl) (fun x : S23 => (x.f0, x.f1, x.f2, x.f3)) (fun y => ⟨y.1, y.2.1, y.2.2.1, y.2.2.2⟩) (fun _ => rfl) (fields_cons rfl (by kernel_rfl) (opens_int Tryd.underlying3) (fields_cons rfl (by kernel_rfl) (opens_int Tryd.underlying3) (fields_cons rfl (by kernel_rfl) (opens_int Tryd.underlying3) (fields_one rfl (by kernel_rfl) (opens_int Tryd.underlying3)))))
  exact h
theorem opens_T45 : Opens Tryd.prog 45 k45 g_T45 := by
  have h := opens_struct (P := Tryd.prog) (t := 45) Tryd.underlying45 (by kernel_rfl) (fun x : S45 => (x.f0, x.f1, x.f2)) (fun y => ⟨y.1, y.2.1, y.2.2⟩) (fun _ => rfl) (fields_cons rfl (by kernel_rfl) (opens_int Tryd.underlying3) (fields_cons rfl (by kernel_rfl) (opens_int Tryd.underlying3) (fields_one rfl (by kernel_rfl) (opens_int Tryd.underlying3))))
  exact h
end Go.Proofs.YtnepinkookbanaaDoor.X
