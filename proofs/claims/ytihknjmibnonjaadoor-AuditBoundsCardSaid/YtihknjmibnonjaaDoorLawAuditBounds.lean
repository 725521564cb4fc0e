/- AuditBounds: the call returns true for every input, with no condition of this row's own: the row, out of the pure statement and the walk of the Go code. -/
import Derived.Test.YtihknjmibnonjaaDoorRows
import Derived.Test.YtihknjmibnonjaaDoorF6
import Derived.Test.YtihknjmibnonjaaDoorHO
import Derived.Test.YtihknjmibnonjaaDoorPureAuditBounds
import Derived.Test.YtihknjmibnonjaaDoorLaid
import Derived.Test.YtihknjmibnonjaaDoorTie
import Derived.Test.YtihknjmibnonjaaDoorCards
import Derived.WalkKit
import Derived.ProofKit
import Derived.OpenShut
import Derived.ShutString
import Derived.ChangeOld
import Derived.Below
import Derived.SizedLaws
import Derived.ChangeSame
import Derived.ChangeVars
import Derived.JoinedOf
import Derived.LaidLaws
import Derived.LaidHandle
import Derived.SevenTiedAt
import Derived.Handed
namespace Go.Proofs.YtihknjmibnonjaaDoor.auditBounds
open Go.ChangeShapes Go.WideShapes Go.ChangeAt Go.RowKit Go.Proofs.YtihknjmibnonjaaDoor.X Go.Proofs.YtihknjmibnonjaaDoor.Opens Go.Proofs.YtihknjmibnonjaaDoorW.PrintWords
open Go.ChangeMaps (open_string shut_string)
set_option linter.unusedVariables false
theorem own : ownKnob Tryd.prog.godebug = none := by kernel_rfl
theorem laid_met (os : Os) (args : Array Value) : laidMetH Tryd.prog Rows.auditBoundsRow.laid ((X.laidWorld os Rows.auditBoundsRow.laid).forCall (fun _ _ => 0) ⟨#[], args, []⟩).memory :=
  (Go.LaidIn.of_run [2, 3, 1] 8 (by kernel_rfl) (by kernel_rfl) (by kernel_rfl) (by kernel_rfl) : Go.LaidIn Tryd.prog ((X.laidWorld os Rows.auditBoundsRow.laid).forCall (fun _ _ => 0) ⟨#[], args, []⟩).memory Rows.auditBoundsRow.laid _).met
set_option maxRecDepth 100000 in
set_option maxHeartbeats 4000000 in
theorem lifted (os : Os) (started : os.Started) (H : Type) (enc : TypeId × Value → H) :
    ReturnsInHanded {} Tryd.checked os 6 .any (fun w args => (Rows.auditBoundsSpec.pre enc Tryd.prog Tryd.f6 Rows.auditBoundsRow.domain false w args ∧ laidMetH Tryd.prog Rows.auditBoundsRow.laid w) ∧ sizedMet enc Tryd.prog Tryd.f6 (OpenSpec.ofChange Rows.auditBoundsSpec) false w args) (Rows.auditBoundsSpec.post enc Tryd.prog Tryd.f6 false true false false) := by
  refine returnsInHanded_of_change_and (C := Tryd.checked) (X := fun w _ => laidMetH Tryd.prog Rows.auditBoundsRow.laid w) (fun _ _ _ hh h => h.of_heap hh) own started (by kernel_rfl) Tryd.func6
    (ChangeSpec.witness_at (enc := enc) (C := Tryd.checked) (os := os) (X := fun w _ => laidMetH Tryd.prog Rows.auditBoundsRow.laid w) false (X.laidWorld os Rows.auditBoundsRow.laid) #[.int .i64 0, .int .i64 0] 8 rfl (by kernel_rfl) (by kernel_rfl) (by kernel_rfl) (by kernel_rfl) (by kernel_rfl) (laid_met os _)) ?_
  intro W base args ds gs before hval0 hW hcnd hsz0 hL0 _
  have hL : laidMet Tryd.prog Rows.auditBoundsRow.laid W := hL0
  have hG : X.Laid W := X.Laid.of_laid hL (by repeat (first | exact .head _ | refine .tail _ ?_))
  have hsz : (DataW.weightsEach Tryd.prog (Tryd.f6.params.toList ++ Rows.auditBoundsSpec.plain.varTypes Tryd.prog) (ds ++ gs)).all (· ≤ reachBytes) = true := hsz0
  have hval : ∀ (j : Nat) t v, Tryd.f6.params[j]? = some t → args[j]? = some v → Value.okWide Tryd.prog W .any base t v := hval0
  have hW' := hW
  obtain ⟨p, q, hA0, hV, rfl, hfz, hnd⟩ := hW
  have hA : DataW.TrodAll enc Tryd.prog W 0 (fun _ => true) true Tryd.f6.params.toList args.toList ds p := hA0
  rw [Tryd.params6] at hA hval hsz
  obtain ⟨v0, vs0, d0, ds0, p0, q0, hargs, rfl, rfl, h0, r0⟩ := trodAll_cons hA
  obtain ⟨v1, vs1, d1, ds1, p1, q1, rfl, rfl, rfl, h1, r1⟩ := trodAll_cons r0
  obtain ⟨rfl, rfl, rfl⟩ := trodAll_nil r1
  obtain rfl : args = #[v0, v1] := by cases args; simp_all
  obtain ⟨rfl, rfl⟩ := trodVars_none hV
  obtain ⟨a0, rfl, rfl, rfl, w0⟩ := open_int Tryd.underlying3 (hval 0 3 v0 rfl rfl) h0
  obtain ⟨a1, rfl, rfl, rfl, w1⟩ := open_int Tryd.underlying3 (hval 1 3 v1 rfl rfl) h1
  clear hA0 hval0 hsz0 hsz
  have hP := Pure.AuditBounds a0 a1 w0 w1
  refine (X.donjonlaw14_AuditBounds.calls a0 a1 true W hG  hP).mono fun e W' ⟨he, bel0⟩ => ?_
  have bel : Below W.heap.size W W' := bel0
  subst he
  exact ⟨_, rfl, _, _, _, [], _, [], hW', trodAll_mk1 (shut_bool Tryd.underlying4 _), (trodAll_cons_mk (shut_int Tryd.underlying3 w0) (trodAll_cons_mk (shut_int Tryd.underlying3 w1) trodAll_mk0)), rfl, bel.frame _, fun h => by cases h⟩
theorem over : Rows.auditBoundsRow.holds Tryd.pinned (OpenSpec.ofChange Rows.auditBoundsSpec) :=
  OpenClaim.holds_of_wide 6 Tryd.f6 rfl rfl rfl rfl rfl rfl rfl ⟨rfl, rfl, rfl, rfl, rfl⟩ rfl rfl rfl rfl rfl (by kernel_rfl) Tryd.func6 (by kernel_rfl)
    (of_decide_eq_true (by kernel_rfl)) (by unfold Func.isWrapper; first | (rw [if_pos (by decide +kernel)]; kernel_rfl) | (rw [if_neg (by decide +kernel)]; exact ⟨rfl, rfl⟩))
    (fun os started H enc _ => lifted os started H enc)
theorem wants : ∀ t ∈ [3, 3], Tryd.prog.wantsStandIn t = false := by
  intro t ht
  simp only [List.mem_cons, List.not_mem_nil, or_false] at ht
  rcases ht with rfl | rfl <;> kernel_rfl
theorem proved : Rows.AuditBoundsCardSaid :=
  Claim7.holds_tied_plain_at .later [] [.data, .data, .data] true (true, "5a020e2e63916183fac984277ca4886b605b4edce9ee4dd7bb5ad9c99e0942e8") false
    over (fun _ h => by cases h) (by kernel_rfl) (fun _ h => by cases h) auditBounds_row_tie rfl ⟨rfl, rfl⟩ (by kernel_rfl) rfl
    (fun f fn hf hfn => by
      obtain rfl : f = 6 := Option.some.inj ((show Tryd.prog.funcNamed "donjon/donjonlaw14.AuditBounds" = some 6 by kernel_rfl).symm.trans hf) |>.symm
      obtain rfl : fn = Tryd.f6 := (Option.some.inj (Tryd.func6.symm.trans hfn)).symm
      refine ⟨by kernel_rfl, fun j t ht => wants t ?_⟩
      rw [Tryd.params6] at ht
      exact List.mem_of_getElem? (by simpa using ht))
    (by kernel_rfl)
end Go.Proofs.YtihknjmibnonjaaDoor.auditBounds
namespace Go.Proofs.YtihknjmibnonjaaDoor
/-- The row, under a short name, for the claim. -/
theorem auditBounds_holds : Rows.AuditBoundsCardSaid := auditBounds.proved
#print axioms auditBounds_holds
end Go.Proofs.YtihknjmibnonjaaDoor
