/- Written by a program of this session over the kit's print: YtinbhijeonghaaaF35. -/
import Derived.Test.YtinbhijeonghaaaH
import Derived.Shelf.SlSorted.Search
namespace Go.Proofs.Ytinbhijeonghaaa.X
open Go.RowKit Go.Proofs.YtinbhijeonghaaaW.PrintWords Go.Proofs.YtinbhijeonghaaaW.PrintLast Go.Proofs.YtinbhijeonghaaaW.PrintMore Go.Proofs.Ytinbhijeonghaaa.More
attribute [local go_sem] max2_int min2_int max_two min_two max_three min_three max_four min_four binOp_string_leq binOp_string_gtr   -- for this text's walks alone
set_option linter.unusedVariables false
set_option linter.unusedSimpArgs false

/-! ### sort_Search: function 35 -/
def search_ren : Go.Shelf.Ren := ⟨fun | 16 => 35 | n => n, fun | 3 => 3 | 4 => 4 | 35 => 65 | 38 => 69 | n => n, fun n => n⟩
theorem search_lays : SlLaysO.n16 Try.prog search_ren where
  mixed := by kernel_rfl
  f16 := by kernel_rfl
  t3 := by kernel_rfl
  a3 := fun w => by kernel_rfl
  z3 := fun w => by kernel_rfl
  v3 := fun w => by kernel_rfl
  t4 := by kernel_rfl
  a4 := fun w => by kernel_rfl
  z4 := fun w => by kernel_rfl
  v4 := fun w => by kernel_rfl
  t35 := by kernel_rfl
  a35 := fun w => by kernel_rfl
  z35 := fun w => by kernel_rfl
  v35 := fun w => by kernel_rfl
  t38 := by kernel_rfl
  a38 := fun w => by kernel_rfl
  z38 := fun w => by kernel_rfl
  v38 := fun w => by kernel_rfl
/-- sort.Search at this program's own number. -/
theorem sort_Search_calls (g : Nat) (cb : Array Value) (n : Nat) (p : Nat → Bool) (w : World) (eg : ∀ args w, (callFunc g args).run Try.prog w = .ok (.enter g args) w) (hsz : n < 4611686018427387904)
    (hf : ∀ (m : Nat) (os : Array Obj) (i : Nat), i < n → Calls Try.prog g (#[.int .i64 i] ++ cb) (Go.Sort.grow (w.drewN m) os) fun e w' => e = .returned (.bool (p i)) ∧ ∃ q os', w' = Go.Sort.grow ((Go.Sort.grow (w.drewN m) os).drewN q) os')
    (hmono : ∀ a b, a ≤ b → b < n → p a = true → p b = true) :
    Calls Try.prog 35 #[.int .i64 n, .func (.func g) #[] cb] w fun e w' => e = .returned (.int .i64 ((List.range n).countP (fun i => !p i) : Nat)) ∧ Below w.heap.size w w' :=
  (Any.sort_Search search_lays g cb n p w eg hsz hf hmono).mono fun _ _ ⟨he, q, os, hw⟩ => ⟨he, hw ▸ below_grown_sl _ w q os (Nat.le_refl _)⟩

end Go.Proofs.Ytinbhijeonghaaa.X
