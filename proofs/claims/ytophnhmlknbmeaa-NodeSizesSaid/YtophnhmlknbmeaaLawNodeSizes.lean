/- NodeSizes: the call returns true for every input, with no condition of this row's own: the row, out of the pure statement and the walk of the Go code. -/
import Derived.Test.YtophnhmlknbmeaaRows
import Derived.Test.YtophnhmlknbmeaaF5
import Derived.Test.YtophnhmlknbmeaaHO
import Derived.Test.YtophnhmlknbmeaaPureNodeSizes
import Derived.WalkKit
import Derived.ProofKit
import Derived.OpenShut
import Derived.ShutString
import Derived.ChangeOld
import Derived.Below
import Derived.SizedLaws
namespace Go.Proofs.Ytophnhmlknbmeaa.nodeSizes
open Go.ChangeShapes Go.WideShapes Go.ChangeAt Go.RowKit Go.Proofs.Ytophnhmlknbmeaa.X Go.Proofs.Ytophnhmlknbmeaa.Opens Go.Proofs.YtophnhmlknbmeaaW.PrintWords
open Go.ChangeMaps (open_string shut_string)
set_option linter.unusedVariables false
theorem own : ownKnob Try.prog.godebug = none := by kernel_rfl
theorem laidOut : laidOutB Try.prog = true := by kernel_rfl
set_option maxRecDepth 100000 in
set_option maxHeartbeats 4000000 in
theorem lifted (os : Os) (started : os.Started) (H : Type) (enc : TypeId × Value → H) :
    ReturnsInHanded {} Try.checked os 5 .any (Rows.nodeSizesSpec.pre6 enc Try.prog Try.f5 Rows.nodeSizesRow.domain false) (Rows.nodeSizesSpec.post enc Try.prog Try.f5 false true false false) := by
  refine returnsInHanded_of_change_sized (C := Try.checked) own started (by kernel_rfl) Try.func5
    (ChangeSpec.witness6 (enc := enc) (C := Try.checked) false ⟨#[], #[.agg #[.string ByteArray.empty, .bool false, .int .i64 0, .int .i64 0, .int .i64 0, .int .i64 0, .slice none 0 0, .int .i64 0, .int .i64 0, .int .i64 0, .int .i64 0, .slice none 0 0, .int .i64 0, .int .i64 0, .int .i64 0, .int .i64 0]], []⟩ 8 (by kernel_rfl) (by kernel_rfl) (by kernel_rfl) (by kernel_rfl)) ?_
  intro W base args ds gs before hval0 hW hcnd hsz0 _
  have hsz : (DataW.weightsEach Try.prog (Try.f5.params.toList ++ Rows.nodeSizesSpec.plain.varTypes Try.prog) (ds ++ gs)).all (· ≤ reachBytes) = true := hsz0
  have hval : ∀ (j : Nat) t v, Try.f5.params[j]? = some t → args[j]? = some v → Value.okWide Try.prog W .any base t v := hval0
  have hW' := hW
  obtain ⟨p, q, hA0, hV, rfl, hfz, hnd⟩ := hW
  have hA : DataW.TrodAll enc Try.prog W 0 (fun _ => true) true Try.f5.params.toList args.toList ds p := hA0
  rw [Try.params5] at hA hval hsz
  obtain ⟨v0, vs0, d0, ds0, p0, q0, hargs, rfl, rfl, h0, r0⟩ := trodAll_cons hA
  obtain ⟨rfl, rfl, rfl⟩ := trodAll_nil r0
  obtain rfl : args = #[v0] := by cases args; simp_all
  obtain ⟨rfl, rfl⟩ := trodVars_none hV
  obtain ⟨cs0, rfl, hcs0⟩ := okWide_struct Try.underlying29 (hval 0 29 v0 rfl rfl)
  have k0 := h0
  have lt0 : ∀ x ∈ p0, x.block < W.heap.size := by obtain ⟨m, hm⟩ := k0; exact DataW.trod_lt m _ _ _ hm
  obtain ⟨x0, K0, G0⟩ := opened hsz (j := 0) (t := 29) rfl rfl opens_T29 h0
  obtain ⟨A0_6, c0_6, A0_11, c0_11, e0, hc0_6, hr0_6, hc0_11, hr0_11⟩ := k29_open K0
  obtain rfl : cs0 = #[.string x0.f0, .bool x0.f1, .int .i64 x0.f2.f0, .int .i64 x0.f2.f1, .int .i64 x0.f2.f2, .int .i64 x0.f2.f3, .slice A0_6 x0.f3.length c0_6, .int .i64 x0.f4.f0, .int .i64 x0.f4.f1, .int .i64 x0.f4.f2, .int .i64 x0.f4.f3, .slice A0_11 x0.f5.length c0_11, .int .i64 x0.f6.f0, .int .i64 x0.f6.f1, .int .i64 x0.f6.f2, .int .i64 x0.f6.f3] := by
    obtain ⟨l⟩ := cs0
    exact congrArg Array.mk e0
  clear hA0 hval0 hsz0 hsz
  obtain ⟨k, hP⟩ := Pure.NodeSizes x0.f0 x0.f1 x0.f2.f0 x0.f2.f1 x0.f2.f2 x0.f2.f3 x0.f3 x0.f4.f0 x0.f4.f1 x0.f4.f2 x0.f4.f3 x0.f5 x0.f6.f0 x0.f6.f1 x0.f6.f2 x0.f6.f3 G0.1 G0.2.2.1.1 G0.2.2.1.2.1 G0.2.2.1.2.2.1 G0.2.2.1.2.2.2 G0.2.2.2.1 G0.2.2.2.2.1.1 G0.2.2.2.2.1.2.1 G0.2.2.2.2.1.2.2.1 G0.2.2.2.2.1.2.2.2 G0.2.2.2.2.2.1 G0.2.2.2.2.2.2.1 G0.2.2.2.2.2.2.2.1 G0.2.2.2.2.2.2.2.2.1 G0.2.2.2.2.2.2.2.2.2
  refine (X.donjonlaw10_NodeSizes.calls k x0.f0 x0.f1 x0.f2.f0 x0.f2.f1 x0.f2.f2 x0.f2.f3 _ _ x0.f3 x0.f4.f0 x0.f4.f1 x0.f4.f2 x0.f4.f3 _ _ x0.f5 x0.f6.f0 x0.f6.f1 x0.f6.f2 x0.f6.f3 true W rfl  hr0_6 hc0_6 hr0_11 hc0_11 hP).mono fun e W' ⟨he, bel0⟩ => ?_
  have bel : Below W.heap.size W W' := bel0
  subst he
  exact ⟨_, rfl, _, _, _, [], _, [], hW', trodAll_mk1 (shut_bool Try.underlying4 _), (trodAll_cons_mk (Below.trod laidOut (by kernel_rfl) (of_decide_eq_true (by kernel_rfl)) k0 bel lt0) trodAll_mk0), rfl, bel.frame _, fun h => by cases h⟩
theorem over : Rows.nodeSizesRow.holds Try.pinned (OpenSpec.ofChange Rows.nodeSizesSpec) :=
  OpenClaim.holds_of_wide 5 Try.f5 rfl rfl rfl rfl rfl rfl rfl ⟨rfl, rfl, rfl, rfl, rfl⟩ rfl rfl rfl rfl rfl (by kernel_rfl) Try.func5 (by kernel_rfl)
    (of_decide_eq_true (by kernel_rfl)) (by unfold Func.isWrapper; first | (rw [if_pos (by decide +kernel)]; kernel_rfl) | (rw [if_neg (by decide +kernel)]; exact ⟨rfl, rfl⟩))
    (fun os started H enc _ => lifted os started H enc)
theorem proved : Rows.NodeSizesSaid := over
end Go.Proofs.Ytophnhmlknbmeaa.nodeSizes
namespace Go.Proofs.Ytophnhmlknbmeaa
/-- The row, under a short name, for the claim. -/
theorem nodeSizes_holds : Rows.NodeSizesSaid := nodeSizes.proved
#print axioms nodeSizes_holds
end Go.Proofs.Ytophnhmlknbmeaa
