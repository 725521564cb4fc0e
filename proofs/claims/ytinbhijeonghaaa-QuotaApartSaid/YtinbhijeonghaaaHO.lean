/- Written by a program of this session over the kit's print: YtinbhijeonghaaaHO. -/
import Derived.Test.YtinbhijeonghaaaH
import Derived.Test.YtinbhijeonghaaaOpens
namespace Go.Proofs.Ytinbhijeonghaaa.X
open Go.RowKit Go.Proofs.YtinbhijeonghaaaW.PrintWords Go.Proofs.YtinbhijeonghaaaW.PrintLast Go.Proofs.YtinbhijeonghaaaW.PrintMore Go.Proofs.Ytinbhijeonghaaa.More
attribute [local go_sem] max2_int min2_int max_two min_two max_three min_three max_four min_four binOp_string_leq binOp_string_gtr   -- for this text's walks alone
set_option linter.unusedVariables false
set_option linter.unusedSimpArgs false

open Go.Proofs.Ytinbhijeonghaaa.Opens
def g_T29 (x : S29) : Prop := x.f0.size ≤ 140737488351232 ∧ (Lit.int .i64 x.f1).wf = true
def g_T43 (x : S43) : Prop := (Lit.int .i64 x.f0).wf = true ∧ (Lit.int .i64 x.f1).wf = true ∧ (Lit.int .i64 x.f2).wf = true ∧ (Lit.int .i64 x.f3).wf = true
theorem opens_T29 : Opens Try.prog 29 k29 g_T29 := by
  have h := opens_struct (P := Try.prog) (t := 29) Try.underlying29 (by kernel_rfl) (fun x : S29 => (x.f0, x.f1)) (fun y => ⟨y.1, y.2⟩) (fun _ => rfl) (fields_cons rfl (by kernel_rfl) (opens_string Try.underlying9) (fields_one rfl (by kernel_rfl) (opens_int Try.underlying3)))
  exact h
theorem opens_T43 : Opens Try.prog 43 k43 g_T43 := by
  have h := opens_struct (P := Try.prog) (t := 43) Try.underlying43 (by kernel_rfl) (fun x : S43 => (x.f0, x.f1, x.f2, x.f3)) (fun y => ⟨y.1, y.2.1, y.2.2.1, y.2.2.2⟩) (fun _ => rfl) (fields_cons rfl (by kernel_rfl) (opens_int Try.underlying3) (fields_cons rfl (by kernel_rfl) (opens_int Try.underlying3) (fields_cons rfl (by kernel_rfl) (opens_int Try.underlying3) (fields_one rfl (by kernel_rfl) (opens_int Try.underlying3)))))
  exact h
end Go.Proofs.Ytinbhijeonghaaa.X
