/- NodeOthers: the call returns true for every input, with no condition of this row's own: the row, out of the pure statement and the walk of the Go code. -/
import Derived.Test.YtophnhmlknbmeaaRows
import Derived.Test.YtophnhmlknbmeaaF4
import Derived.Test.YtophnhmlknbmeaaHO
import Derived.Test.YtophnhmlknbmeaaPureNodeOthers
import Derived.WalkKit
import Derived.ProofKit
import Derived.OpenShut
import Derived.ShutString
import Derived.ChangeOld
import Derived.Below
import Derived.SizedLaws
namespace Go.Proofs.Ytophnhmlknbmeaa.nodeOthers
open Go.ChangeShapes Go.WideShapes Go.ChangeAt Go.RowKit Go.Proofs.Ytophnhmlknbmeaa.X Go.Proofs.Ytophnhmlknbmeaa.Opens Go.Proofs.YtophnhmlknbmeaaW.PrintWords
open Go.ChangeMaps (open_string shut_string)
set_option linter.unusedVariables false
theorem own : ownKnob Try.prog.godebug = none := by kernel_rfl
theorem laidOut : laidOutB Try.prog = true := by kernel_rfl
set_option maxRecDepth 100000 in
set_option maxHeartbeats 4000000 in
theorem lifted (os : Os) (started : os.Started) (H : Type) (enc : TypeId × Value → H) :
    ReturnsInHanded {} Try.checked os 4 .any (Rows.nodeOthersSpec.pre6 enc Try.prog Try.f4 Rows.nodeOthersRow.domain false) (Rows.nodeOthersSpec.post enc Try.prog Try.f4 false true false false) := by
  refine returnsInHanded_of_change_sized (C := Try.checked) own started (by kernel_rfl) Try.func4
    (ChangeSpec.witness6 (enc := enc) (C := Try.checked) false ⟨#[], #[.agg #[.string ByteArray.empty, .int .i64 0, .int .i64 0, .int .i64 0, .int .i64 0, .string ByteArray.empty, .int .i64 0, .int .i64 0, .int .i64 0, .int .i64 0, .string ByteArray.empty], .agg #[.int .i64 0, .int .i64 0, .int .i64 0, .int .i64 0, .int .i64 0, .string ByteArray.empty, .int .i64 0, .string ByteArray.empty, .int .i64 0]], []⟩ 8 (by kernel_rfl) (by kernel_rfl) (by kernel_rfl) (by kernel_rfl)) ?_
  intro W base args ds gs before hval0 hW hcnd hsz0 _
  have hsz : (DataW.weightsEach Try.prog (Try.f4.params.toList ++ Rows.nodeOthersSpec.plain.varTypes Try.prog) (ds ++ gs)).all (· ≤ reachBytes) = true := hsz0
  have hval : ∀ (j : Nat) t v, Try.f4.params[j]? = some t → args[j]? = some v → Value.okWide Try.prog W .any base t v := hval0
  have hW' := hW
  obtain ⟨p, q, hA0, hV, rfl, hfz, hnd⟩ := hW
  have hA : DataW.TrodAll enc Try.prog W 0 (fun _ => true) true Try.f4.params.toList args.toList ds p := hA0
  rw [Try.params4] at hA hval hsz
  obtain ⟨v0, vs0, d0, ds0, p0, q0, hargs, rfl, rfl, h0, r0⟩ := trodAll_cons hA
  obtain ⟨v1, vs1, d1, ds1, p1, q1, rfl, rfl, rfl, h1, r1⟩ := trodAll_cons r0
  obtain ⟨rfl, rfl, rfl⟩ := trodAll_nil r1
  obtain rfl : args = #[v0, v1] := by cases args; simp_all
  obtain ⟨rfl, rfl⟩ := trodVars_none hV
  obtain ⟨cs0, rfl, hcs0⟩ := okWide_struct Try.underlying42 (hval 0 42 v0 rfl rfl)
  have k0 := h0
  have lt0 : ∀ x ∈ p0, x.block < W.heap.size := by obtain ⟨m, hm⟩ := k0; exact DataW.trod_lt m _ _ _ hm
  obtain ⟨x0, K0, G0⟩ := opened hsz (j := 0) (t := 42) rfl rfl opens_T42 h0
  obtain rfl : cs0 = #[.string x0.f0, .int .i64 x0.f1.f0, .int .i64 x0.f1.f1, .int .i64 x0.f1.f2, .int .i64 x0.f1.f3, .string x0.f2, .int .i64 x0.f3.f0, .int .i64 x0.f3.f1, .int .i64 x0.f3.f2, .int .i64 x0.f3.f3, .string x0.f4] := by
    have e := k42_open K0
    obtain ⟨l⟩ := cs0
    exact congrArg Array.mk e
  obtain ⟨cs1, rfl, hcs1⟩ := okWide_struct Try.underlying45 (hval 1 45 v1 rfl rfl)
  have k1 := h1
  have lt1 : ∀ x ∈ p1, x.block < W.heap.size := by obtain ⟨m, hm⟩ := k1; exact DataW.trod_lt m _ _ _ hm
  obtain ⟨x1, K1, G1⟩ := opened hsz (j := 1) (t := 45) rfl rfl opens_T45 h1
  obtain rfl : cs1 = #[.int .i64 x1.f0, .int .i64 x1.f1.f0, .int .i64 x1.f1.f1, .int .i64 x1.f1.f2, .int .i64 x1.f1.f3, .string x1.f2, .int .i64 x1.f3, .string x1.f4, .int .i64 x1.f5] := by
    have e := k45_open K1
    obtain ⟨l⟩ := cs1
    exact congrArg Array.mk e
  clear hA0 hval0 hsz0 hsz
  obtain ⟨k, hP⟩ := Pure.NodeOthers x0.f0 x0.f1.f0 x0.f1.f1 x0.f1.f2 x0.f1.f3 x0.f2 x0.f3.f0 x0.f3.f1 x0.f3.f2 x0.f3.f3 x0.f4 x1.f0 x1.f1.f0 x1.f1.f1 x1.f1.f2 x1.f1.f3 x1.f2 x1.f3 x1.f4 x1.f5 G0.1 G0.2.1.1 G0.2.1.2.1 G0.2.1.2.2.1 G0.2.1.2.2.2 G0.2.2.1 G0.2.2.2.1.1 G0.2.2.2.1.2.1 G0.2.2.2.1.2.2.1 G0.2.2.2.1.2.2.2 G0.2.2.2.2 G1.1 G1.2.1.1 G1.2.1.2.1 G1.2.1.2.2.1 G1.2.1.2.2.2 G1.2.2.1 G1.2.2.2.1 G1.2.2.2.2.1 G1.2.2.2.2.2
  refine (X.donjonlaw10_NodeOthers.calls k x0.f0 x0.f1.f0 x0.f1.f1 x0.f1.f2 x0.f1.f3 x0.f2 x0.f3.f0 x0.f3.f1 x0.f3.f2 x0.f3.f3 x0.f4 x1.f0 x1.f1.f0 x1.f1.f1 x1.f1.f2 x1.f1.f3 x1.f2 x1.f3 x1.f4 x1.f5 true W rfl   hP).mono fun e W' ⟨he, bel0⟩ => ?_
  have bel : Below W.heap.size W W' := bel0
  subst he
  exact ⟨_, rfl, _, _, _, [], _, [], hW', trodAll_mk1 (shut_bool Try.underlying4 _), (trodAll_cons_mk (Below.trod laidOut (by kernel_rfl) (of_decide_eq_true (by kernel_rfl)) k0 bel lt0) (trodAll_cons_mk (Below.trod laidOut (by kernel_rfl) (of_decide_eq_true (by kernel_rfl)) k1 bel lt1) trodAll_mk0)), rfl, bel.frame _, fun h => by cases h⟩
theorem over : Rows.nodeOthersRow.holds Try.pinned (OpenSpec.ofChange Rows.nodeOthersSpec) :=
  OpenClaim.holds_of_wide 4 Try.f4 rfl rfl rfl rfl rfl rfl rfl ⟨rfl, rfl, rfl, rfl, rfl⟩ rfl rfl rfl rfl rfl (by kernel_rfl) Try.func4 (by kernel_rfl)
    (of_decide_eq_true (by kernel_rfl)) (by unfold Func.isWrapper; first | (rw [if_pos (by decide +kernel)]; kernel_rfl) | (rw [if_neg (by decide +kernel)]; exact ⟨rfl, rfl⟩))
    (fun os started H enc _ => lifted os started H enc)
theorem proved : Rows.NodeOthersSaid := over
end Go.Proofs.Ytophnhmlknbmeaa.nodeOthers
namespace Go.Proofs.Ytophnhmlknbmeaa
/-- The row, under a short name, for the claim. -/
theorem nodeOthers_holds : Rows.NodeOthersSaid := nodeOthers.proved
#print axioms nodeOthers_holds
end Go.Proofs.Ytophnhmlknbmeaa
