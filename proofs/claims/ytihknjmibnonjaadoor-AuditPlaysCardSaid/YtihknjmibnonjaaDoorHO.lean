/- Written by a program of this session over the kit's print: YtihknjmibnonjaaDoorHO. -/
import Derived.Test.YtihknjmibnonjaaDoorH
import Derived.Test.YtihknjmibnonjaaDoorOpens
namespace Go.Proofs.YtihknjmibnonjaaDoor.X
open Go.RowKit Go.Proofs.YtihknjmibnonjaaDoorW.PrintWords Go.Proofs.YtihknjmibnonjaaDoorW.PrintLast Go.Proofs.YtihknjmibnonjaaDoorW.PrintMore Go.Proofs.YtihknjmibnonjaaDoor.More
attribute [local go_sem] max2_int min2_int max_two min_two max_three min_three max_four min_four binOp_string_leq binOp_string_gtr   -- for this text's walks alone
set_option linter.unusedVariables false
set_option linter.unusedSimpArgs false

open Go.Proofs.YtihknjmibnonjaaDoor.Opens
def g_T23 (x : S23) : Prop := (Lit.int .i64 x.f0).wf = true ∧ (Lit.int .i64 x.f1).wf = true ∧ (Lit.int .i64 x.f2).wf = true ∧ (Lit.int .i64 x.f3).wf = true
def g_T26 (x : S26) : Prop := (Lit.int .i64 x.f0).wf = true ∧ g_T23 x.f1 ∧ x.f2.size ≤ 140737488351232 ∧ (Lit.int .i64 x.f3).wf = true ∧ x.f4.size ≤ 140737488351232 ∧ (Lit.int .i64 x.f5).wf = true
theorem opens_T23 : Opens Tryd.prog 23 k23 g_T23 := by
  have h := opens_struct (P := Tryd.prog) (t := 23) Tryd.underlying23 (by kernel_rfl) (fun x : S23 => (x.f0, x.f1, x.f2, x.f3)) (fun y => ⟨y.1, y.2.1, y.2.2.1, y.2.2.2⟩) (fun _ => rfl) (fields_cons rfl (by kernel_rfl) (opens_int Tryd.underlying3) (fields_cons rfl (by kernel_rfl) (opens_int Tryd.underlying3) (fields_cons rfl (by kernel_rfl) (opens_int Tryd.underlying3) (fields_one rfl (by kernel_rfl) (opens_int Tryd.underlying3)))))
  exact h
theorem opens_T26 : Opens Tryd.prog 26 k26 g_T26 := by
  have h := opens_struct (P := Tryd.prog) (t := 26) Tryd.underlying26 (by kernel_rfl) (fun x : S26 => (x.f0, x.f1, x.f2, x.f3, x.f4, x.f5)) (fun y => ⟨y.1, y.2.1, y.2.2.1, y.2.2.2.1, y.2.2.2.2.1, y.2.2.2.2.2⟩) (fun _ => rfl) (fields_cons rfl (by kernel_rfl) (opens_int Tryd.underlying3) (fields_cons rfl (by kernel_rfl) opens_T23 (fields_cons rfl (by kernel_rfl) (opens_string Tryd.underlying9) (fields_cons rfl (by kernel_rfl) (opens_int Tryd.underlying3) (fields_cons rfl (by kernel_rfl) (opens_string Tryd.underlying9) (fields_one rfl (by kernel_rfl) (opens_int Tryd.underlying24)))))))
  exact h
end Go.Proofs.YtihknjmibnonjaaDoor.X
