/- LabelBounds: the call returns true for every input, with no condition of this row's own: the row, out of the pure statement and the walk of the Go code. -/
import Derived.Test.YtnepinkookbanaaDoorRows
import Derived.Test.YtnepinkookbanaaDoorF9
import Derived.Test.YtnepinkookbanaaDoorHO
import Derived.Test.YtnepinkookbanaaDoorPureLabelBounds
import Derived.Test.YtnepinkookbanaaDoorLaid2
import Derived.Test.YtnepinkookbanaaDoorTie
import Derived.Test.YtnepinkookbanaaDoorCards
import Derived.WalkKit
import Derived.ProofKit
import Derived.OpenShut
import Derived.ShutString
import Derived.ChangeOld
import Derived.Below
import Derived.SizedLaws
import Derived.ChangeSame
import Derived.ChangeVars
import Derived.JoinedOf
import Derived.LaidLaws
import Derived.LaidHandle
import Derived.SevenTiedAt
import Derived.Handed
namespace Go.Proofs.YtnepinkookbanaaDoor.labelBounds
open Go.ChangeShapes Go.WideShapes Go.ChangeAt Go.RowKit Go.Proofs.YtnepinkookbanaaDoor.X Go.Proofs.YtnepinkookbanaaDoor.Opens Go.Proofs.YtnepinkookbanaaDoorW.PrintWords
open Go.ChangeMaps (open_string shut_string)
set_option linter.unusedVariables false
theorem own : ownKnob Tryd.prog.godebug = none := by kernel_rfl
theorem plainLaid : (Rows.labelBoundsRow.laid : List (String × DataW Unit)).filter (fun x => x.2.handleName?.isSome) = [] := by kernel_rfl
theorem laid_met (os : Os) (args : Array Value) : laidMetH Tryd.prog Rows.labelBoundsRow.laid ((X.laidWorld2 os Rows.labelBoundsRow.laid).forCall (fun _ _ => 0) ⟨#[], args, []⟩).memory := by
  unfold laidMetH
  rw [plainLaid]
  exact laidMet_of_run' 8 (by kernel_rfl) (by kernel_rfl)
theorem laid_plain {w : World} (h : laidMetH Tryd.prog Rows.labelBoundsRow.laid w) : laidMet Tryd.prog Rows.labelBoundsRow.laid w := by
  unfold laidMetH at h
  rw [plainLaid] at h
  exact h
set_option maxRecDepth 100000 in
set_option maxHeartbeats 4000000 in
theorem lifted (os : Os) (started : os.Started) (H : Type) (enc : TypeId × Value → H) :
    ReturnsInHanded {} Tryd.checked os 9 .any (fun w args => (Rows.labelBoundsSpec.pre enc Tryd.prog Tryd.f9 Rows.labelBoundsRow.domain false w args ∧ laidMetH Tryd.prog Rows.labelBoundsRow.laid w) ∧ sizedMet enc Tryd.prog Tryd.f9 (OpenSpec.ofChange Rows.labelBoundsSpec) false w args) (Rows.labelBoundsSpec.post enc Tryd.prog Tryd.f9 false true false false) := by
  refine X.handed_of_all (C := Tryd.checked) (X := fun w _ => laidMetH Tryd.prog Rows.labelBoundsRow.laid w) (fun _ _ _ hh h => h.of_heap hh) own started (by kernel_rfl) Tryd.func9
    (ChangeSpec.witness_at (enc := enc) (C := Tryd.checked) (os := os) (X := fun w _ => laidMetH Tryd.prog Rows.labelBoundsRow.laid w) false (X.laidWorld2 os Rows.labelBoundsRow.laid) #[.int .i64 0, .int .i64 0] 8 rfl (by kernel_rfl) (by kernel_rfl) (by kernel_rfl) (by kernel_rfl) (by kernel_rfl) (laid_met os _)) ?_
  intro W base args ds gs before hval0 hW hcnd hsz0 hL0 hsh
  have hL : laidMet Tryd.prog Rows.labelBoundsRow.laid W := laid_plain hL0
  have hG : X.Laid2 W := X.Laid2.of_laid hL hsh (by repeat (first | exact .head _ | refine .tail _ ?_)) (by repeat (first | exact .head _ | refine .tail _ ?_)) (by repeat (first | exact .head _ | refine .tail _ ?_))
  have hsz : (DataW.weightsEach Tryd.prog (Tryd.f9.params.toList ++ Rows.labelBoundsSpec.plain.varTypes Tryd.prog) (ds ++ gs)).all (· ≤ reachBytes) = true := hsz0
  have hval : ∀ (j : Nat) t v, Tryd.f9.params[j]? = some t → args[j]? = some v → Value.okWide Tryd.prog W .any base t v := hval0
  have hW' := hW
  obtain ⟨p, q, hA0, hV, rfl, hfz, hnd⟩ := hW
  have hA : DataW.TrodAll enc Tryd.prog W 0 (fun _ => true) true Tryd.f9.params.toList args.toList ds p := hA0
  rw [Tryd.params9] at hA hval hsz
  obtain ⟨v0, vs0, d0, ds0, p0, q0, hargs, rfl, rfl, h0, r0⟩ := trodAll_cons hA
  obtain ⟨v1, vs1, d1, ds1, p1, q1, rfl, rfl, rfl, h1, r1⟩ := trodAll_cons r0
  obtain ⟨rfl, rfl, rfl⟩ := trodAll_nil r1
  obtain rfl : args = #[v0, v1] := by cases args; simp_all
  obtain ⟨rfl, rfl⟩ := trodVars_none hV
  obtain ⟨a0, rfl, rfl, rfl, w0⟩ := open_int Tryd.underlying3 (hval 0 3 v0 rfl rfl) h0
  obtain ⟨a1, rfl, rfl, rfl, w1⟩ := open_int Tryd.underlying3 (hval 1 3 v1 rfl rfl) h1
  clear hA0 hval0 hsz0 hsz
  obtain ⟨k, hP⟩ := Pure.LabelBounds a0 a1 w0 w1
  refine (X.donjonlaw4_LabelBounds.calls k a0 a1 true W rfl hG  hP).mono fun e W' ⟨he, bel0⟩ => ?_
  have bel : Below W.heap.size W W' := bel0
  subst he
  exact ⟨_, rfl, _, _, _, [], _, [], hW', trodAll_mk1 (shut_bool Tryd.underlying4 _), (trodAll_cons_mk (shut_int Tryd.underlying3 w0) (trodAll_cons_mk (shut_int Tryd.underlying3 w1) trodAll_mk0)), rfl, bel.frame _, fun h => by cases h⟩
theorem over : Rows.labelBoundsRow.holds Tryd.pinned (OpenSpec.ofChange Rows.labelBoundsSpec) :=
  OpenClaim.holds_of_wide 9 Tryd.f9 rfl rfl rfl rfl rfl rfl rfl ⟨rfl, rfl, rfl, rfl, rfl⟩ rfl rfl rfl rfl rfl (by kernel_rfl) Tryd.func9 (by kernel_rfl)
    (of_decide_eq_true (by kernel_rfl)) (by unfold Func.isWrapper; first | (rw [if_pos (by decide +kernel)]; kernel_rfl) | (rw [if_neg (by decide +kernel)]; exact ⟨rfl, rfl⟩))
    (fun os started H enc _ => lifted os started H enc)
theorem wants : ∀ t ∈ [3, 3], Tryd.prog.wantsStandIn t = false := by
  intro t ht
  simp only [List.mem_cons, List.not_mem_nil, or_false] at ht
  rcases ht with rfl | rfl <;> kernel_rfl
theorem proved : Rows.LabelBoundsCardSaid :=
  Claim7.holds_tied_plain_at .later [] [.data, .data, .data, .data, .sentinel, .sentinel, .pinned] true (true, "ff4636ae8d0abcc33e1d6e372bd6ce4bb62dce0fbae9546e81d059ace2940835") true
    over (fun _ h => by cases h) (by kernel_rfl) (fun _ h => by cases h) labelBounds_row_tie rfl ⟨rfl, rfl⟩ (by kernel_rfl) rfl
    (fun f fn hf hfn => by
      obtain rfl : f = 9 := Option.some.inj ((show Tryd.prog.funcNamed "donjon/donjonlaw4.LabelBounds" = some 9 by kernel_rfl).symm.trans hf) |>.symm
      obtain rfl : fn = Tryd.f9 := (Option.some.inj (Tryd.func9.symm.trans hfn)).symm
      refine ⟨by kernel_rfl, fun j t ht => wants t ?_⟩
      rw [Tryd.params9] at ht
      exact List.mem_of_getElem? (by simpa using ht))
    (by kernel_rfl)
end Go.Proofs.YtnepinkookbanaaDoor.labelBounds
namespace Go.Proofs.YtnepinkookbanaaDoor
/-- The row, under a short name, for the claim. -/
theorem labelBounds_holds : Rows.LabelBoundsCardSaid := labelBounds.proved
#print axioms labelBounds_holds
end Go.Proofs.YtnepinkookbanaaDoor
