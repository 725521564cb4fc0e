/- NodeRules: the call returns true for every input, with no condition of this row's own: the row, out of the pure statement and the walk of the Go code. -/
import Derived.Test.YtophnhmlknbmeaaDoorRows
import Derived.Test.YtophnhmlknbmeaaDoorF4
import Derived.Test.YtophnhmlknbmeaaDoorHO
import Derived.Test.YtophnhmlknbmeaaDoorPureNodeRules
import Derived.Test.YtophnhmlknbmeaaDoorLaid3
import Derived.Test.YtophnhmlknbmeaaDoorTie
import Derived.Test.YtophnhmlknbmeaaDoorCards
import Derived.WalkKit
import Derived.ProofKit
import Derived.OpenShut
import Derived.ShutString
import Derived.ChangeOld
import Derived.Below
import Derived.SizedLaws
import Derived.ChangeSame
import Derived.ChangeVars
import Derived.JoinedOf
import Derived.LaidLaws
import Derived.LaidHandle
import Derived.SevenTiedAt
import Derived.Handed
namespace Go.Proofs.YtophnhmlknbmeaaDoor.nodeRules
open Go.ChangeShapes Go.WideShapes Go.ChangeAt Go.RowKit Go.Proofs.YtophnhmlknbmeaaDoor.X Go.Proofs.YtophnhmlknbmeaaDoor.Opens Go.Proofs.YtophnhmlknbmeaaDoorW.PrintWords
open Go.ChangeMaps (open_string shut_string)
set_option linter.unusedVariables false
theorem own : ownKnob Tryd.prog.godebug = none := by kernel_rfl
theorem laidOut : laidOutB Tryd.prog = true := by kernel_rfl
theorem plainLaid : (Rows.nodeRulesRow.laid : List (String × DataW Unit)).filter (fun x => x.2.handleName?.isSome) = [] := by kernel_rfl
theorem laid_met (os : Os) (args : Array Value) : laidMetH Tryd.prog Rows.nodeRulesRow.laid ((X.laidWorld os Rows.nodeRulesRow.laid).forCall (fun _ _ => 0) ⟨#[], args, []⟩).memory := by
  unfold laidMetH
  rw [plainLaid]
  exact laidMet_of_run' 8 (by kernel_rfl) (by kernel_rfl)
theorem laid_plain {w : World} (h : laidMetH Tryd.prog Rows.nodeRulesRow.laid w) : laidMet Tryd.prog Rows.nodeRulesRow.laid w := by
  unfold laidMetH at h
  rw [plainLaid] at h
  exact h
set_option maxRecDepth 100000 in
set_option maxHeartbeats 4000000 in
theorem lifted (os : Os) (started : os.Started) (H : Type) (enc : TypeId × Value → H) :
    ReturnsInHanded {} Tryd.checked os 4 .any (fun w args => (Rows.nodeRulesSpec.pre enc Tryd.prog Tryd.f4 Rows.nodeRulesRow.domain false w args ∧ laidMetH Tryd.prog Rows.nodeRulesRow.laid w) ∧ sizedMet enc Tryd.prog Tryd.f4 (OpenSpec.ofChange Rows.nodeRulesSpec) false w args) (Rows.nodeRulesSpec.post enc Tryd.prog Tryd.f4 false true false false) := by
  refine X.handed_of_all (C := Tryd.checked) (X := fun w _ => laidMetH Tryd.prog Rows.nodeRulesRow.laid w) (fun _ _ _ hh h => h.of_heap hh) own started (by kernel_rfl) Tryd.func4
    (ChangeSpec.witness_at (enc := enc) (C := Tryd.checked) (os := os) (X := fun w _ => laidMetH Tryd.prog Rows.nodeRulesRow.laid w) false (X.laidWorld os Rows.nodeRulesRow.laid) #[.agg #[.int .i64 0, .int .i64 0, .int .i64 0, .int .i64 0], .int .i64 0, .bool false, .bool false] 8 rfl (by kernel_rfl) (by kernel_rfl) (by kernel_rfl) (by kernel_rfl) (by kernel_rfl) (laid_met os _)) ?_
  intro W base args ds gs before hval0 hW hcnd hsz0 hL0 hsh
  have hL : laidMet Tryd.prog Rows.nodeRulesRow.laid W := laid_plain hL0
  have hG : X.MaxAt W := X.MaxAt.of_shape hsh
  have hsz : (DataW.weightsEach Tryd.prog (Tryd.f4.params.toList ++ Rows.nodeRulesSpec.plain.varTypes Tryd.prog) (ds ++ gs)).all (· ≤ reachBytes) = true := hsz0
  have hval : ∀ (j : Nat) t v, Tryd.f4.params[j]? = some t → args[j]? = some v → Value.okWide Tryd.prog W .any base t v := hval0
  have hW' := hW
  obtain ⟨p, q, hA0, hV, rfl, hfz, hnd⟩ := hW
  have hA : DataW.TrodAll enc Tryd.prog W 0 (fun _ => true) true Tryd.f4.params.toList args.toList ds p := hA0
  rw [Tryd.params4] at hA hval hsz
  obtain ⟨v0, vs0, d0, ds0, p0, q0, hargs, rfl, rfl, h0, r0⟩ := trodAll_cons hA
  obtain ⟨v1, vs1, d1, ds1, p1, q1, rfl, rfl, rfl, h1, r1⟩ := trodAll_cons r0
  obtain ⟨v2, vs2, d2, ds2, p2, q2, rfl, rfl, rfl, h2, r2⟩ := trodAll_cons r1
  obtain ⟨v3, vs3, d3, ds3, p3, q3, rfl, rfl, rfl, h3, r3⟩ := trodAll_cons r2
  obtain ⟨rfl, rfl, rfl⟩ := trodAll_nil r3
  obtain rfl : args = #[v0, v1, v2, v3] := by cases args; simp_all
  obtain ⟨rfl, rfl⟩ := trodVars_none hV
  obtain ⟨cs0, rfl, hcs0⟩ := okWide_struct Tryd.underlying26 (hval 0 26 v0 rfl rfl)
  have k0 := h0
  have lt0 : ∀ x ∈ p0, x.block < W.heap.size := by obtain ⟨m, hm⟩ := k0; exact DataW.trod_lt m _ _ _ hm
  obtain ⟨x0, K0, G0⟩ := opened hsz (j := 0) (t := 26) rfl rfl opens_T26 h0
  obtain rfl : cs0 = #[.int .i64 x0.f0, .int .i64 x0.f1, .int .i64 x0.f2, .int .i64 x0.f3] := by
    have e := k26_open K0
    obtain ⟨l⟩ := cs0
    exact congrArg Array.mk e
  obtain ⟨a1, rfl, rfl, rfl, w1⟩ := open_int Tryd.underlying3 (hval 1 3 v1 rfl rfl) h1
  obtain ⟨a2, rfl, rfl, rfl⟩ := open_bool Tryd.underlying4 (hval 2 4 v2 rfl rfl) h2
  obtain ⟨a3, rfl, rfl, rfl⟩ := open_bool Tryd.underlying4 (hval 3 4 v3 rfl rfl) h3
  clear hA0 hval0 hsz0 hsz
  obtain ⟨k, hP⟩ := Pure.NodeRules x0.f0 x0.f1 x0.f2 x0.f3 a1 a2 a3 G0.1 G0.2.1 G0.2.2.1 G0.2.2.2 w1
  refine (X.donjonlaw10_NodeRules.calls k x0.f0 x0.f1 x0.f2 x0.f3 a1 a2 a3 true W rfl hG  hP).mono fun e W' ⟨he, bel0⟩ => ?_
  have bel : Below W.heap.size W W' := bel0
  subst he
  exact ⟨_, rfl, _, _, _, [], _, [], hW', trodAll_mk1 (shut_bool Tryd.underlying4 _), (trodAll_cons_mk (Below.trod laidOut (by kernel_rfl) (of_decide_eq_true (by kernel_rfl)) k0 bel lt0) (trodAll_cons_mk (shut_int Tryd.underlying3 w1) (trodAll_cons_mk (shut_bool Tryd.underlying4 _) (trodAll_cons_mk (shut_bool Tryd.underlying4 _) trodAll_mk0)))), rfl, bel.frame _, fun h => by cases h⟩
theorem over : Rows.nodeRulesRow.holds Tryd.pinned (OpenSpec.ofChange Rows.nodeRulesSpec) :=
  OpenClaim.holds_of_wide 4 Tryd.f4 rfl rfl rfl rfl rfl rfl rfl ⟨rfl, rfl, rfl, rfl, rfl⟩ rfl rfl rfl rfl rfl (by kernel_rfl) Tryd.func4 (by kernel_rfl)
    (of_decide_eq_true (by kernel_rfl)) (by unfold Func.isWrapper; first | (rw [if_pos (by decide +kernel)]; kernel_rfl) | (rw [if_neg (by decide +kernel)]; exact ⟨rfl, rfl⟩))
    (fun os started H enc _ => lifted os started H enc)
theorem wants : ∀ t ∈ [26, 3, 4, 4], Tryd.prog.wantsStandIn t = false := by
  intro t ht
  simp only [List.mem_cons, List.not_mem_nil, or_false] at ht
  rcases ht with rfl | rfl | rfl | rfl <;> kernel_rfl
theorem proved : Rows.NodeRulesCardSaid :=
  Claim7.holds_tied_plain_at .later [] [.data, .pinned] true (true, "76f7ca030b2c9dc30caf4b59c6c90fe7bdb08b0425d80f1f11054af2947fb7ed") false
    over (fun _ h => by cases h) (by kernel_rfl) (fun _ h => by cases h) nodeRules_row_tie rfl ⟨rfl, rfl⟩ (by kernel_rfl) rfl
    (fun f fn hf hfn => by
      obtain rfl : f = 4 := Option.some.inj ((show Tryd.prog.funcNamed "donjon/donjonlaw10.NodeRules" = some 4 by kernel_rfl).symm.trans hf) |>.symm
      obtain rfl : fn = Tryd.f4 := (Option.some.inj (Tryd.func4.symm.trans hfn)).symm
      refine ⟨by kernel_rfl, fun j t ht => wants t ?_⟩
      rw [Tryd.params4] at ht
      exact List.mem_of_getElem? (by simpa using ht))
    (by kernel_rfl)
end Go.Proofs.YtophnhmlknbmeaaDoor.nodeRules
namespace Go.Proofs.YtophnhmlknbmeaaDoor
/-- The row, under a short name, for the claim. -/
theorem nodeRules_holds : Rows.NodeRulesCardSaid := nodeRules.proved
#print axioms nodeRules_holds
end Go.Proofs.YtophnhmlknbmeaaDoor
