/- NodeChecks: the call returns true for every input, with no condition of this row's own: the row, out of the pure statement and the walk of the Go code. -/
import Derived.Test.YtophnhmlknbmeaaDoorRows
import Derived.Test.YtophnhmlknbmeaaDoorF3
import Derived.Test.YtophnhmlknbmeaaDoorHO
import Derived.Test.YtophnhmlknbmeaaDoorPureNodeChecks
import Derived.Test.YtophnhmlknbmeaaDoorLaid3
import Derived.Test.YtophnhmlknbmeaaDoorTie
import Derived.Test.YtophnhmlknbmeaaDoorCards
import Derived.WalkKit
import Derived.ProofKit
import Derived.OpenShut
import Derived.ShutString
import Derived.ChangeOld
import Derived.Below
import Derived.SizedLaws
import Derived.ChangeSame
import Derived.ChangeVars
import Derived.JoinedOf
import Derived.LaidLaws
import Derived.LaidHandle
import Derived.SevenTiedAt
import Derived.Handed
namespace Go.Proofs.YtophnhmlknbmeaaDoor.nodeChecks
open Go.ChangeShapes Go.WideShapes Go.ChangeAt Go.RowKit Go.Proofs.YtophnhmlknbmeaaDoor.X Go.Proofs.YtophnhmlknbmeaaDoor.Opens Go.Proofs.YtophnhmlknbmeaaDoorW.PrintWords
open Go.ChangeMaps (open_string shut_string)
set_option linter.unusedVariables false
theorem own : ownKnob Tryd.prog.godebug = none := by kernel_rfl
theorem laidOut : laidOutB Tryd.prog = true := by kernel_rfl
theorem plainLaid : (Rows.nodeChecksRow.laid : List (String × DataW Unit)).filter (fun x => x.2.handleName?.isSome) = [] := by kernel_rfl
theorem laid_met (os : Os) (args : Array Value) : laidMetH Tryd.prog Rows.nodeChecksRow.laid ((X.laidWorld os Rows.nodeChecksRow.laid).forCall (fun _ _ => 0) ⟨#[], args, []⟩).memory := by
  unfold laidMetH
  rw [plainLaid]
  exact laidMet_of_run' 8 (by kernel_rfl) (by kernel_rfl)
theorem laid_plain {w : World} (h : laidMetH Tryd.prog Rows.nodeChecksRow.laid w) : laidMet Tryd.prog Rows.nodeChecksRow.laid w := by
  unfold laidMetH at h
  rw [plainLaid] at h
  exact h
set_option maxRecDepth 100000 in
set_option maxHeartbeats 4000000 in
theorem lifted (os : Os) (started : os.Started) (H : Type) (enc : TypeId × Value → H) :
    ReturnsInHanded {} Tryd.checked os 3 .any (fun w args => (Rows.nodeChecksSpec.pre enc Tryd.prog Tryd.f3 Rows.nodeChecksRow.domain false w args ∧ laidMetH Tryd.prog Rows.nodeChecksRow.laid w) ∧ sizedMet enc Tryd.prog Tryd.f3 (OpenSpec.ofChange Rows.nodeChecksSpec) false w args) (Rows.nodeChecksSpec.post enc Tryd.prog Tryd.f3 false true false false) := by
  refine X.handed_of_all (C := Tryd.checked) (X := fun w _ => laidMetH Tryd.prog Rows.nodeChecksRow.laid w) (fun _ _ _ hh h => h.of_heap hh) own started (by kernel_rfl) Tryd.func3
    (ChangeSpec.witness_at (enc := enc) (C := Tryd.checked) (os := os) (X := fun w _ => laidMetH Tryd.prog Rows.nodeChecksRow.laid w) false (X.laidWorld os Rows.nodeChecksRow.laid) #[.agg #[.string ByteArray.empty, .bool false, .int .i64 0, .int .i64 0, .int .i64 0, .int .i64 0, .slice none 0 0, .int .i64 0, .int .i64 0, .int .i64 0, .int .i64 0, .slice none 0 0, .int .i64 0, .int .i64 0, .int .i64 0, .int .i64 0]] 8 rfl (by kernel_rfl) (by kernel_rfl) (by kernel_rfl) (by kernel_rfl) (by kernel_rfl) (laid_met os _)) ?_
  intro W base args ds gs before hval0 hW hcnd hsz0 hL0 hsh
  have hL : laidMet Tryd.prog Rows.nodeChecksRow.laid W := laid_plain hL0
  have hG : X.MaxAt W := X.MaxAt.of_shape hsh
  have hsz : (DataW.weightsEach Tryd.prog (Tryd.f3.params.toList ++ Rows.nodeChecksSpec.plain.varTypes Tryd.prog) (ds ++ gs)).all (· ≤ reachBytes) = true := hsz0
  have hval : ∀ (j : Nat) t v, Tryd.f3.params[j]? = some t → args[j]? = some v → Value.okWide Tryd.prog W .any base t v := hval0
  have hW' := hW
  obtain ⟨p, q, hA0, hV, rfl, hfz, hnd⟩ := hW
  have hA : DataW.TrodAll enc Tryd.prog W 0 (fun _ => true) true Tryd.f3.params.toList args.toList ds p := hA0
  rw [Tryd.params3] at hA hval hsz
  obtain ⟨v0, vs0, d0, ds0, p0, q0, hargs, rfl, rfl, h0, r0⟩ := trodAll_cons hA
  obtain ⟨rfl, rfl, rfl⟩ := trodAll_nil r0
  obtain rfl : args = #[v0] := by cases args; simp_all
  obtain ⟨rfl, rfl⟩ := trodVars_none hV
  obtain ⟨cs0, rfl, hcs0⟩ := okWide_struct Tryd.underlying29 (hval 0 29 v0 rfl rfl)
  have k0 := h0
  have lt0 : ∀ x ∈ p0, x.block < W.heap.size := by obtain ⟨m, hm⟩ := k0; exact DataW.trod_lt m _ _ _ hm
  obtain ⟨x0, K0, G0⟩ := opened hsz (j := 0) (t := 29) rfl rfl opens_T29 h0
  obtain ⟨A0_6, c0_6, A0_11, c0_11, e0, hc0_6, hr0_6, hc0_11, hr0_11⟩ := k29_open K0
  obtain rfl : cs0 = #[.string x0.f0, .bool x0.f1, .int .i64 x0.f2.f0, .int .i64 x0.f2.f1, .int .i64 x0.f2.f2, .int .i64 x0.f2.f3, .slice A0_6 x0.f3.length c0_6, .int .i64 x0.f4.f0, .int .i64 x0.f4.f1, .int .i64 x0.f4.f2, .int .i64 x0.f4.f3, .slice A0_11 x0.f5.length c0_11, .int .i64 x0.f6.f0, .int .i64 x0.f6.f1, .int .i64 x0.f6.f2, .int .i64 x0.f6.f3] := by
    obtain ⟨l⟩ := cs0
    exact congrArg Array.mk e0
  clear hA0 hval0 hsz0 hsz
  obtain ⟨k, hP⟩ := Pure.NodeChecks x0.f0 x0.f1 x0.f2.f0 x0.f2.f1 x0.f2.f2 x0.f2.f3 x0.f3 x0.f4.f0 x0.f4.f1 x0.f4.f2 x0.f4.f3 x0.f5 x0.f6.f0 x0.f6.f1 x0.f6.f2 x0.f6.f3 G0.1 G0.2.2.1.1 G0.2.2.1.2.1 G0.2.2.1.2.2.1 G0.2.2.1.2.2.2 G0.2.2.2.1 G0.2.2.2.2.1.1 G0.2.2.2.2.1.2.1 G0.2.2.2.2.1.2.2.1 G0.2.2.2.2.1.2.2.2 G0.2.2.2.2.2.1 G0.2.2.2.2.2.2.1 G0.2.2.2.2.2.2.2.1 G0.2.2.2.2.2.2.2.2.1 G0.2.2.2.2.2.2.2.2.2
  refine (X.donjonlaw10_NodeChecks.calls k x0.f0 x0.f1 x0.f2.f0 x0.f2.f1 x0.f2.f2 x0.f2.f3 _ _ x0.f3 x0.f4.f0 x0.f4.f1 x0.f4.f2 x0.f4.f3 _ _ x0.f5 x0.f6.f0 x0.f6.f1 x0.f6.f2 x0.f6.f3 true W rfl hG hr0_6 hc0_6 hr0_11 hc0_11 hP).mono fun e W' ⟨he, bel0⟩ => ?_
  have bel : Below W.heap.size W W' := bel0
  subst he
  exact ⟨_, rfl, _, _, _, [], _, [], hW', trodAll_mk1 (shut_bool Tryd.underlying4 _), (trodAll_cons_mk (Below.trod laidOut (by kernel_rfl) (of_decide_eq_true (by kernel_rfl)) k0 bel lt0) trodAll_mk0), rfl, bel.frame _, fun h => by cases h⟩
theorem over : Rows.nodeChecksRow.holds Tryd.pinned (OpenSpec.ofChange Rows.nodeChecksSpec) :=
  OpenClaim.holds_of_wide 3 Tryd.f3 rfl rfl rfl rfl rfl rfl rfl ⟨rfl, rfl, rfl, rfl, rfl⟩ rfl rfl rfl rfl rfl (by kernel_rfl) Tryd.func3 (by kernel_rfl)
    (of_decide_eq_true (by kernel_rfl)) (by unfold Func.isWrapper; first | (rw [if_pos (by decide +kernel)]; kernel_rfl) | (rw [if_neg (by decide +kernel)]; exact ⟨rfl, rfl⟩))
    (fun os started H enc _ => lifted os started H enc)
theorem wants : ∀ t ∈ [29], Tryd.prog.wantsStandIn t = false := by
  intro t ht
  simp only [List.mem_cons, List.not_mem_nil, or_false] at ht
  rcases ht with rfl <;> kernel_rfl
theorem proved : Rows.NodeChecksCardSaid :=
  Claim7.holds_tied_plain_at .later [] [.data, .pinned] true (true, "76f7ca030b2c9dc30caf4b59c6c90fe7bdb08b0425d80f1f11054af2947fb7ed") false
    over (fun _ h => by cases h) (by kernel_rfl) (fun _ h => by cases h) nodeChecks_row_tie rfl ⟨rfl, rfl⟩ (by kernel_rfl) rfl
    (fun f fn hf hfn => by
      obtain rfl : f = 3 := Option.some.inj ((show Tryd.prog.funcNamed "donjon/donjonlaw10.NodeChecks" = some 3 by kernel_rfl).symm.trans hf) |>.symm
      obtain rfl : fn = Tryd.f3 := (Option.some.inj (Tryd.func3.symm.trans hfn)).symm
      refine ⟨by kernel_rfl, fun j t ht => wants t ?_⟩
      rw [Tryd.params3] at ht
      exact List.mem_of_getElem? (by simpa using ht))
    (by kernel_rfl)
end Go.Proofs.YtophnhmlknbmeaaDoor.nodeChecks
namespace Go.Proofs.YtophnhmlknbmeaaDoor
/-- The row, under a short name, for the claim. -/
theorem nodeChecks_holds : Rows.NodeChecksCardSaid := nodeChecks.proved
#print axioms nodeChecks_holds
end Go.Proofs.YtophnhmlknbmeaaDoor
