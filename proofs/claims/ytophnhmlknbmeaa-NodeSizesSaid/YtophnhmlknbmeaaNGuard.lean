/- What may lack something deep within: the guard, and the closure that it defers. -/
import Derived.Test.YtophnhmlknbmeaaNRead
import Derived.Defers
import Derived.Recover
import Derived.Laws.Pointers
namespace Go.Proofs.Ytophnhmlknbmeaa.X
open Go.RowKit Go.Proofs.YtophnhmlknbmeaaW.PrintWords Go.Proofs.YtophnhmlknbmeaaW.PrintLast Go.Proofs.YtophnhmlknbmeaaW.PrintMore Go.Proofs.Ytophnhmlknbmeaa.More
set_option linter.unusedVariables false
set_option linter.unusedSimpArgs false

theorem assert_nil (W : World) : (Instr.typeAssert .nilIface 20 43 true).run Try.prog W = .ok (.tuple #[.int .i64 0, .bool false]) W := by kernel_rfl
theorem assert_errno (W : World) (v : Value) : (Instr.typeAssert (.iface 43 v) 20 43 true).run Try.prog W = .ok (.tuple #[v, .bool true]) W := by kernel_rfl
set_option maxHeartbeats 4000000 in
/-- The deferred closure, where nothing was panicked. -/
theorem catch_idle (p : Addr) (w : World) :
    CallsD Try.prog 42 #[.pointer (some p)] .returning w fun e u' w' => e = .returned (.tuple #[]) ∧ u' = .returning ∧ w' = w := by
  refine callsD_of_wpS Try.func42 rfl fun c₀ cs hu => ?_
  apply wpS_seq
  apply wpS_region
  simp [wpOpsS, go_sem, recoverD, hu, Try.ntmps42, Exit.thenS, assert_nil]
  apply wpS_seq
  apply wpS_region
  simp [wpOpsS, go_sem, Exit.thenS]
  refine wpS_cond (t := false) (by simp [Act.eval, Array.replicate]) ?_
  simp only [Bool.false_eq_true, if_false]
  refine wpS_of_wp (wp_skip ?_)
  cases c₀
  simp_all [bodyPostS, results, Try.results42]
set_option maxHeartbeats 4000000 in
/-- The deferred closure, where an error number was panicked. -/
theorem catch_errno (p : Addr) (n x : Int) (older : List PanicEntry) (w : World) (hc : w.cell? p = some (.int .i64 x)) (hz : w.frozen? p = false) :
    CallsD Try.prog 42 #[.pointer (some p)] (.panicking ({ v := .iface 43 (.int .i64 n), recovered := false } :: older)) w fun e u' w' =>
      e = .returned (.tuple #[]) ∧ u' = .panicking ({ v := .iface 43 (.int .i64 n), recovered := true } :: older) ∧ w' = w.setCell p (.int .i64 n) := by
  refine callsD_of_wpS Try.func42 rfl fun c₀ cs hu => ?_
  apply wpS_seq
  apply wpS_region
  simp [wpOpsS, go_sem, recoverD, hu, Try.ntmps42, Exit.thenS, assert_errno]
  apply wpS_seq
  apply wpS_region
  simp [wpOpsS, go_sem, Exit.thenS]
  refine wpS_cond (t := true) (by simp [Act.eval, Array.replicate]) ?_
  simp only [if_true]
  apply wpS_region
  simp [wpOpsS, go_sem, hc, hz, bodyPostS, results, Try.results42]
/-- guard, where what is done returns. -/
theorem guard_ok (g : Nat) (cb : Array Value) (W : World) (R : World → Prop) (eg : ∀ args w, (callFunc g args).run Try.prog w = .ok (.enter g args) w)
    (hcl : Calls Try.prog g cb (W.alloc (.cells #[.int .i64 0] 43)) fun e w1 => e = .returned (.tuple #[]) ∧ w1.heap[W.heap.size]? = some (.cells #[.int .i64 0] 43 (0, 0)) ∧ R w1) :
    Calls Try.prog 29 #[.func (.func g) #[] cb] W fun e w' => e = .returned (.int .i64 0) ∧ ∃ w1, R w1 ∧ w1.heap[W.heap.size]? = some (.cells #[.int .i64 0] 43 (0, 0)) ∧ w' = w1.setCell ⟨W.heap.size, 0, none⟩ (.int .i64 0) := by
  have hmf : ∀ (fn : Fn) (first cap : Array Value) (w : World), (Instr.makeFunc fn first cap).run Try.prog w = .ok (.func fn first cap) w := fun _ _ _ _ => rfl
  go_enter_defers Try.func29, Try.ntmps29
  go_wp2_with fail
  refine hcl.mono ?_
  rintro e w1 ⟨rfl, hN, hR⟩
  have c0 : w1.cell? ⟨W.heap.size, 0, none⟩ = some (.int .i64 0) := (blk_cell hN 0).trans rfl
  have f0 : w1.frozen? ⟨W.heap.size, 0, none⟩ = false := blk_frozen hN 0
  have HN := Aside0.mk hN
  have HR := Aside0.mk hR
  clear hcl hN hR
  go_wp2_with fail
  refine leaves_cons (f := 42) (args := #[.pointer (some ⟨W.heap.size, 0, none⟩)]) (by simp) (by simp [go_sem]) ?_
  refine (catch_idle ⟨W.heap.size, 0, none⟩ _).mono ?_
  rintro e u' w'' ⟨rfl, rfl, rfl⟩
  have hb := blk_put HN.out 0 (.int .i64 0) rfl
  have c1 : (w1.setCell ⟨W.heap.size, 0, none⟩ (.int .i64 0)).cell? ⟨W.heap.size, 0, none⟩ = some (.int .i64 0) := (blk_cell hb 0).trans rfl
  simp [Leaves, settle, results, Try.results29, go_sem]
  rw [c1]
  exact ⟨_, rfl, rfl, w1, HR.out, HN.out, rfl⟩
/-- guard, where an error number is panicked. -/
theorem guard_cut (g : Nat) (cb : Array Value) (n : Int) (W : World) (R : World → Prop) (eg : ∀ args w, (callFunc g args).run Try.prog w = .ok (.enter g args) w)
    (hcl : Calls Try.prog g cb (W.alloc (.cells #[.int .i64 0] 43)) fun e w1 => e = .panicked [{ v := .iface 43 (.int .i64 n), recovered := false }] ∧ w1.heap[W.heap.size]? = some (.cells #[.int .i64 0] 43 (0, 0)) ∧ R w1) :
    Calls Try.prog 29 #[.func (.func g) #[] cb] W fun e w' => e = .returned (.int .i64 n) ∧ ∃ w1, R w1 ∧ w1.heap[W.heap.size]? = some (.cells #[.int .i64 0] 43 (0, 0)) ∧ w' = w1.setCell ⟨W.heap.size, 0, none⟩ (.int .i64 n) := by
  have hmf : ∀ (fn : Fn) (first cap : Array Value) (w : World), (Instr.makeFunc fn first cap).run Try.prog w = .ok (.func fn first cap) w := fun _ _ _ _ => rfl
  go_enter_defers Try.func29, Try.ntmps29
  go_wp2_with fail
  refine hcl.mono ?_
  rintro e w1 ⟨rfl, hN, hR⟩
  have c0 : w1.cell? ⟨W.heap.size, 0, none⟩ = some (.int .i64 0) := (blk_cell hN 0).trans rfl
  have f0 : w1.frozen? ⟨W.heap.size, 0, none⟩ = false := blk_frozen hN 0
  have HN := Aside0.mk hN
  have HR := Aside0.mk hR
  clear hcl hN hR
  go_wp2_with fail
  refine leaves_cons (f := 42) (args := #[.pointer (some ⟨W.heap.size, 0, none⟩)]) (by simp) (by simp [go_sem]) ?_
  refine (catch_errno ⟨W.heap.size, 0, none⟩ n 0 [] _ c0 f0).mono ?_
  rintro e u' w'' ⟨rfl, rfl, rfl⟩
  have hb := blk_put HN.out 0 (.int .i64 n) rfl
  have c1 : (w1.setCell ⟨W.heap.size, 0, none⟩ (.int .i64 n)).cell? ⟨W.heap.size, 0, none⟩ = some (.int .i64 n) := (blk_cell hb 0).trans rfl
  simp [Leaves, settle, results, Try.results29, go_sem]
  rw [c1]
  exact ⟨_, rfl, rfl, w1, HR.out, HN.out, rfl⟩
end Go.Proofs.Ytophnhmlknbmeaa.X
