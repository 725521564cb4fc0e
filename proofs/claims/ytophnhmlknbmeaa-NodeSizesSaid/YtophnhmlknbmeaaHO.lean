/- Written by a program of this session over the kit's print: YtophnhmlknbmeaaHO. -/
import Derived.Test.YtophnhmlknbmeaaH
import Derived.Test.YtophnhmlknbmeaaOpens
namespace Go.Proofs.Ytophnhmlknbmeaa.X
open Go.RowKit Go.Proofs.YtophnhmlknbmeaaW.PrintWords Go.Proofs.YtophnhmlknbmeaaW.PrintLast Go.Proofs.YtophnhmlknbmeaaW.PrintMore Go.Proofs.Ytophnhmlknbmeaa.More
attribute [local go_sem] max2_int min2_int max_two min_two max_three min_three max_four min_four binOp_string_leq binOp_string_gtr   -- for this text's walks alone
set_option linter.unusedVariables false
set_option linter.unusedSimpArgs false

open Go.Proofs.Ytophnhmlknbmeaa.Opens
def g_T23 (x : S23) : Prop := (Lit.int .i64 x.f0).wf = true ∧ (Lit.int .i64 x.f1).wf = true ∧ (Lit.int .i64 x.f2).wf = true ∧ (Lit.int .i64 x.f3).wf = true
def g_T35 (x : S35) : Prop := x.f0.size ≤ 140737488351232 ∧ (Lit.int .i64 x.f1).wf = true
def g_T26 (x : S26) : Prop := (Lit.int .i64 x.f0).wf = true ∧ (Lit.int .i64 x.f1).wf = true ∧ (Lit.int .i64 x.f2).wf = true ∧ (Lit.int .i64 x.f3).wf = true
def g_T29 (x : S29) : Prop := x.f0.size ≤ 140737488351232 ∧ True ∧ g_T23 x.f2 ∧ (x.f3.length ≤ maxLen ∧ x.f3.length * 24 ≤ 140737488351232 ∧ ∀ y_ ∈ x.f3, g_T35 y_) ∧ g_T26 x.f4 ∧ (x.f5.length ≤ maxLen ∧ x.f5.length * 8 ≤ 140737488351232 ∧ ∀ y_ ∈ x.f5, (Lit.int .i64 y_).wf = true) ∧ g_T23 x.f6
def g_T42 (x : S42) : Prop := x.f0.size ≤ 140737488351232 ∧ g_T23 x.f1 ∧ x.f2.size ≤ 140737488351232 ∧ g_T23 x.f3 ∧ x.f4.size ≤ 140737488351232
def g_T45 (x : S45) : Prop := (Lit.int .i64 x.f0).wf = true ∧ g_T23 x.f1 ∧ x.f2.size ≤ 140737488351232 ∧ (Lit.int .i64 x.f3).wf = true ∧ x.f4.size ≤ 140737488351232 ∧ (Lit.int .i64 x.f5).wf = true
theorem opens_T23 : Opens Try.prog 23 k23 g_T23 := by
  have h := opens_struct (P := Try.prog) (t := 23) Try.underlying23 (by kernel_rfl) (fun x : S23 => (x.f0, x.f1, x.f2, x.f3)) (fun y => ⟨y.1, y.2.1, y.2.2.1, y.2.2.2⟩) (fun _ => rfl) (fields_cons rfl (by kernel_rfl) (opens_int Try.underlying3) (fields_cons rfl (by kernel_rfl) (opens_int Try.underlying3) (fields_cons rfl (by kernel_rfl) (opens_int Try.underlying3) (fields_one rfl (by kernel_rfl) (opens_int Try.underlying3)))))
  exact h
theorem opens_T35 : Opens Try.prog 35 k35 g_T35 := by
  have h := opens_struct (P := Try.prog) (t := 35) Try.underlying35 (by kernel_rfl) (fun x : S35 => (x.f0, x.f1)) (fun y => ⟨y.1, y.2⟩) (fun _ => rfl) (fields_cons rfl (by kernel_rfl) (opens_string Try.underlying9) (fields_one rfl (by kernel_rfl) (opens_int Try.underlying3)))
  exact h
theorem opens_T26 : Opens Try.prog 26 k26 g_T26 := by
  have h := opens_struct (P := Try.prog) (t := 26) Try.underlying26 (by kernel_rfl) (fun x : S26 => (x.f0, x.f1, x.f2, x.f3)) (fun y => ⟨y.1, y.2.1, y.2.2.1, y.2.2.2⟩) (fun _ => rfl) (fields_cons rfl (by kernel_rfl) (opens_int Try.underlying3) (fields_cons rfl (by kernel_rfl) (opens_int Try.underlying3) (fields_cons rfl (by kernel_rfl) (opens_int Try.underlying3) (fields_one rfl (by kernel_rfl) (opens_int Try.underlying3)))))
  exact h
theorem opens_T29 : Opens Try.prog 29 k29 g_T29 := by
  have h := opens_struct (P := Try.prog) (t := 29) Try.underlying29 (by kernel_rfl) (fun x : S29 => (x.f0, x.f1, x.f2, x.f3, x.f4, x.f5, x.f6)) (fun y => ⟨y.1, y.2.1, y.2.2.1, y.2.2.2.1, y.2.2.2.2.1, y.2.2.2.2.2.1, y.2.2.2.2.2.2⟩) (fun _ => rfl) (fields_cons rfl (by kernel_rfl) (opens_string Try.underlying9) (fields_cons rfl (by kernel_rfl) (opens_bool Try.underlying4) (fields_cons rfl (by kernel_rfl) opens_T23 (fields_cons rfl (by kernel_rfl) (opens_slice (B := 24) Try.underlying24 opens_T35 (by kernel_rfl) (by kernel_rfl)) (fields_cons rfl (by kernel_rfl) opens_T26 (fields_cons rfl (by kernel_rfl) (opens_slice (B := 8) Try.underlying27 (opens_int Try.underlying2) (by kernel_rfl) (by kernel_rfl)) (fields_one rfl (by kernel_rfl) opens_T23)))))))
  exact h
theorem opens_T42 : Opens Try.prog 42 k42 g_T42 := by
  have h := opens_struct (P := Try.prog) (t := 42) Try.underlying42 (by kernel_rfl) (fun x : S42 => (x.f0, x.f1, x.f2, x.f3, x.f4)) (fun y => ⟨y.1, y.2.1, y.2.2.1, y.2.2.2.1, y.2.2.2.2⟩) (fun _ => rfl) (fields_cons rfl (by kernel_rfl) (opens_string Try.underlying9) (fields_cons rfl (by kernel_rfl) opens_T23 (fields_cons rfl (by kernel_rfl) (opens_string Try.underlying9) (fields_cons rfl (by kernel_rfl) opens_T23 (fields_one rfl (by kernel_rfl) (opens_string Try.underlying9))))))
  exact h
theorem opens_T45 : Opens Try.prog 45 k45 g_T45 := by
  have h := opens_struct (P := Try.prog) (t := 45) Try.underlying45 (by kernel_rfl) (fun x : S45 => (x.f0, x.f1, x.f2, x.f3, x.f4, x.f5)) (fun y => ⟨y.1, y.2.1, y.2.2.1, y.2.2.2.1, y.2.2.2.2.1, y.2.2.2.2.2⟩) (fun _ => rfl) (fields_cons rfl (by kernel_rfl) (opens_int Try.underlying3) (fields_cons rfl (by kernel_rfl) opens_T23 (fields_cons rfl (by kernel_rfl) (opens_string Try.underlying9) (fields_cons rfl (by kernel_rfl) (opens_int Try.underlying3) (fields_cons rfl (by kernel_rfl) (opens_string Try.underlying9) (fields_one rfl (by kernel_rfl) (opens_int Try.underlying43)))))))
  exact h
end Go.Proofs.Ytophnhmlknbmeaa.X
