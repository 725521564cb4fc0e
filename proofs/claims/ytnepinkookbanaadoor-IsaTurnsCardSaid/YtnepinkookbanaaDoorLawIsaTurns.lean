/- IsaTurns: the call returns true for every input, with no condition of this row's own: the row, out of the pure statement and the walk of the Go code. -/
import Derived.Test.YtnepinkookbanaaDoorRows
import Derived.Test.YtnepinkookbanaaDoorF13
import Derived.Test.YtnepinkookbanaaDoorHO
import Derived.Test.YtnepinkookbanaaDoorPureIsaTurns
import Derived.Test.YtnepinkookbanaaDoorLaid2
import Derived.Test.YtnepinkookbanaaDoorTie
import Derived.Test.YtnepinkookbanaaDoorCards
import Derived.WalkKit
import Derived.ProofKit
import Derived.OpenShut
import Derived.ShutString
import Derived.ChangeOld
import Derived.Below
import Derived.SizedLaws
import Derived.ChangeSame
import Derived.ChangeVars
import Derived.JoinedOf
import Derived.LaidLaws
import Derived.LaidHandle
import Derived.SevenTiedAt
import Derived.Handed
namespace Go.Proofs.YtnepinkookbanaaDoor.isaTurns
open Go.ChangeShapes Go.WideShapes Go.ChangeAt Go.RowKit Go.Proofs.YtnepinkookbanaaDoor.X Go.Proofs.YtnepinkookbanaaDoor.Opens Go.Proofs.YtnepinkookbanaaDoorW.PrintWords
open Go.ChangeMaps (open_string shut_string)
set_option linter.unusedVariables false
theorem own : ownKnob Tryd.prog.godebug = none := by kernel_rfl
theorem laidOut : laidOutB Tryd.prog = true := by kernel_rfl
theorem plainLaid : (Rows.isaTurnsRow.laid : List (String × DataW Unit)).filter (fun x => x.2.handleName?.isSome) = [] := by kernel_rfl
theorem laid_met (os : Os) (args : Array Value) : laidMetH Tryd.prog Rows.isaTurnsRow.laid ((X.laidWorld2 os Rows.isaTurnsRow.laid).forCall (fun _ _ => 0) ⟨#[], args, []⟩).memory := by
  unfold laidMetH
  rw [plainLaid]
  exact laidMet_of_run' 8 (by kernel_rfl) (by kernel_rfl)
theorem laid_plain {w : World} (h : laidMetH Tryd.prog Rows.isaTurnsRow.laid w) : laidMet Tryd.prog Rows.isaTurnsRow.laid w := by
  unfold laidMetH at h
  rw [plainLaid] at h
  exact h
set_option maxRecDepth 100000 in
set_option maxHeartbeats 4000000 in
theorem lifted (os : Os) (started : os.Started) (H : Type) (enc : TypeId × Value → H) :
    ReturnsInHanded {} Tryd.checked os 13 .any (fun w args => (Rows.isaTurnsSpec.pre enc Tryd.prog Tryd.f13 Rows.isaTurnsRow.domain false w args ∧ laidMetH Tryd.prog Rows.isaTurnsRow.laid w) ∧ sizedMet enc Tryd.prog Tryd.f13 (OpenSpec.ofChange Rows.isaTurnsSpec) false w args) (Rows.isaTurnsSpec.post enc Tryd.prog Tryd.f13 false true false false) := by
  refine X.handed_of_all (C := Tryd.checked) (X := fun w _ => laidMetH Tryd.prog Rows.isaTurnsRow.laid w) (fun _ _ _ hh h => h.of_heap hh) own started (by kernel_rfl) Tryd.func13
    (ChangeSpec.witness_at (enc := enc) (C := Tryd.checked) (os := os) (X := fun w _ => laidMetH Tryd.prog Rows.isaTurnsRow.laid w) false (X.laidWorld2 os Rows.isaTurnsRow.laid) #[.agg #[.int .i64 0, .int .i64 0, .int .i64 0], .int .i64 0, .int .u8 0] 8 rfl (by kernel_rfl) (by kernel_rfl) (by kernel_rfl) (by kernel_rfl) (by kernel_rfl) (laid_met os _)) ?_
  intro W base args ds gs before hval0 hW hcnd hsz0 hL0 hsh
  have hL : laidMet Tryd.prog Rows.isaTurnsRow.laid W := laid_plain hL0
  have hG : X.Laid2 W := X.Laid2.of_laid hL hsh (by repeat (first | exact .head _ | refine .tail _ ?_)) (by repeat (first | exact .head _ | refine .tail _ ?_)) (by repeat (first | exact .head _ | refine .tail _ ?_))
  have hsz : (DataW.weightsEach Tryd.prog (Tryd.f13.params.toList ++ Rows.isaTurnsSpec.plain.varTypes Tryd.prog) (ds ++ gs)).all (· ≤ reachBytes) = true := hsz0
  have hval : ∀ (j : Nat) t v, Tryd.f13.params[j]? = some t → args[j]? = some v → Value.okWide Tryd.prog W .any base t v := hval0
  have hW' := hW
  obtain ⟨p, q, hA0, hV, rfl, hfz, hnd⟩ := hW
  have hA : DataW.TrodAll enc Tryd.prog W 0 (fun _ => true) true Tryd.f13.params.toList args.toList ds p := hA0
  rw [Tryd.params13] at hA hval hsz
  obtain ⟨v0, vs0, d0, ds0, p0, q0, hargs, rfl, rfl, h0, r0⟩ := trodAll_cons hA
  obtain ⟨v1, vs1, d1, ds1, p1, q1, rfl, rfl, rfl, h1, r1⟩ := trodAll_cons r0
  obtain ⟨v2, vs2, d2, ds2, p2, q2, rfl, rfl, rfl, h2, r2⟩ := trodAll_cons r1
  obtain ⟨rfl, rfl, rfl⟩ := trodAll_nil r2
  obtain rfl : args = #[v0, v1, v2] := by cases args; simp_all
  obtain ⟨rfl, rfl⟩ := trodVars_none hV
  obtain ⟨cs0, rfl, hcs0⟩ := okWide_struct Tryd.underlying45 (hval 0 45 v0 rfl rfl)
  have k0 := h0
  have lt0 : ∀ x ∈ p0, x.block < W.heap.size := by obtain ⟨m, hm⟩ := k0; exact DataW.trod_lt m _ _ _ hm
  obtain ⟨x0, K0, G0⟩ := opened hsz (j := 0) (t := 45) rfl rfl opens_T45 h0
  obtain rfl : cs0 = #[.int .i64 x0.f0, .int .i64 x0.f1, .int .i64 x0.f2] := by
    have e := k45_open K0
    obtain ⟨l⟩ := cs0
    exact congrArg Array.mk e
  obtain ⟨a1, rfl, rfl, rfl, w1⟩ := open_int Tryd.underlying3 (hval 1 3 v1 rfl rfl) h1
  obtain ⟨a2, rfl, rfl, rfl, w2⟩ := open_int Tryd.underlying5 (hval 2 5 v2 rfl rfl) h2
  clear hA0 hval0 hsz0 hsz
  have hP := Pure.IsaTurns x0.f0 x0.f1 x0.f2 a1 a2 G0.1 G0.2.1 G0.2.2 w1 w2
  refine (X.donjonlaw15_IsaTurns.calls x0.f0 x0.f1 x0.f2 a1 a2 true W hG  hP).mono fun e W' ⟨he, bel0⟩ => ?_
  have bel : Below W.heap.size W W' := bel0
  subst he
  exact ⟨_, rfl, _, _, _, [], _, [], hW', trodAll_mk1 (shut_bool Tryd.underlying4 _), (trodAll_cons_mk (Below.trod laidOut (by kernel_rfl) (of_decide_eq_true (by kernel_rfl)) k0 bel lt0) (trodAll_cons_mk (shut_int Tryd.underlying3 w1) (trodAll_cons_mk (shut_int Tryd.underlying5 w2) trodAll_mk0))), rfl, bel.frame _, fun h => by cases h⟩
theorem over : Rows.isaTurnsRow.holds Tryd.pinned (OpenSpec.ofChange Rows.isaTurnsSpec) :=
  OpenClaim.holds_of_wide 13 Tryd.f13 rfl rfl rfl rfl rfl rfl rfl ⟨rfl, rfl, rfl, rfl, rfl⟩ rfl rfl rfl rfl rfl (by kernel_rfl) Tryd.func13 (by kernel_rfl)
    (of_decide_eq_true (by kernel_rfl)) (by unfold Func.isWrapper; first | (rw [if_pos (by decide +kernel)]; kernel_rfl) | (rw [if_neg (by decide +kernel)]; exact ⟨rfl, rfl⟩))
    (fun os started H enc _ => lifted os started H enc)
theorem wants : ∀ t ∈ [45, 3, 5], Tryd.prog.wantsStandIn t = false := by
  intro t ht
  simp only [List.mem_cons, List.not_mem_nil, or_false] at ht
  rcases ht with rfl | rfl | rfl <;> kernel_rfl
theorem proved : Rows.IsaTurnsCardSaid :=
  Claim7.holds_tied_plain_at .later [] [.data, .data, .data, .data, .sentinel, .sentinel, .pinned] true (true, "ff4636ae8d0abcc33e1d6e372bd6ce4bb62dce0fbae9546e81d059ace2940835") true
    over (fun _ h => by cases h) (by kernel_rfl) (fun _ h => by cases h) isaTurns_row_tie rfl ⟨rfl, rfl⟩ (by kernel_rfl) rfl
    (fun f fn hf hfn => by
      obtain rfl : f = 13 := Option.some.inj ((show Tryd.prog.funcNamed "donjon/donjonlaw15.IsaTurns" = some 13 by kernel_rfl).symm.trans hf) |>.symm
      obtain rfl : fn = Tryd.f13 := (Option.some.inj (Tryd.func13.symm.trans hfn)).symm
      refine ⟨by kernel_rfl, fun j t ht => wants t ?_⟩
      rw [Tryd.params13] at ht
      exact List.mem_of_getElem? (by simpa using ht))
    (by kernel_rfl)
end Go.Proofs.YtnepinkookbanaaDoor.isaTurns
namespace Go.Proofs.YtnepinkookbanaaDoor
/-- The row, under a short name, for the claim. -/
theorem isaTurns_holds : Rows.IsaTurnsCardSaid := isaTurns.proved
#print axioms isaTurns_holds
end Go.Proofs.YtnepinkookbanaaDoor
