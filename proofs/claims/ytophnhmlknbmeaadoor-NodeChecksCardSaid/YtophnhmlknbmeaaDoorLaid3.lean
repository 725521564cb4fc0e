/- A row that lays tables which nobody reads here: the world's shape alone is asked (how long a text may be that the library's search takes at once); the wrap, and a world in which what the row lays stands. -/
import Derived.Test.YtophnhmlknbmeaaDoorMaxAt
import Derived.LaidLaws
import Derived.LaidHandle
import Derived.HandedShaped
import Derived.Shelf.Vars
import Derived.ProofKit
import Derived.JoinedOf
import Derived.JoinedAt
import Derived.Test.YtophnhmlknbmeaaDoorRows
namespace Go.Proofs.YtophnhmlknbmeaaDoor.X
open Go.RowKit
/-- The cells of a table that a row lays. -/
def cellsOfData : DataW Unit → List Value
  | .lit (.int k n) => [.int k n]
  | .agg parts => cellsOfAll parts
  | _ => []
where cellsOfAll : List (DataW Unit) → List Value
  | [] => []
  | d :: r => cellsOfData d ++ cellsOfAll r
noncomputable def putTab (h : Array Obj) (n : String) (d : DataW Unit) : Array Obj := h.modify ((Tryd.prog.globalNamed n).getD 0) fun
  | .cells _ t frozen => .cells (cellsOfData d).toArray t frozen
  | o => o
/-- A world in which what a row lays stands. -/
noncomputable def laidWorld (os : Os) (l : List (String × DataW Unit)) : World :=
  let w0 := World.holding Tryd.prog os ⟨#[], #[], []⟩
  { w0 with heap := l.foldl (fun h x => putTab h x.1 x.2) w0.heap }
section
variable {H : Type} {enc : TypeId × Value → H}
/-- The wrap: what is laid, the reach, and the world's shape, all three. -/
theorem handed_of_all {a : Assume} {C : Checked} {os : Os} {f : FuncId} {fn : Func} {s : ChangeSpec} {conds : List PathCond} {apart fresh handsOn again : Bool} {X : World → Array Value → Prop}
    (hX : ∀ (w w' : World) (args : Array Value), w.heap = w'.heap → X w args → X w' args)
    (own : ownKnob C.prog.godebug = none) (started : os.Started) (noInit : C.prog.inits.idxOf? f = none) (hfn : C.prog.funcs[f]? = some fn)
    (witness : ∃ (w : World) (tape : Tape) (i : Input), w.os = os ∧ (w.forCall tape i).Shaped C.prog ∧ i.vars = [] ∧ Input.okWide C.prog (w.forCall tape i) .any w.heap.size f i ∧
      ((s.pre enc C.prog fn conds apart (w.forCall tape i).memory i.args ∧ X (w.forCall tape i).memory i.args) ∧ sizedMet enc C.prog fn (OpenSpec.ofChange s) apart (w.forCall tape i).memory i.args) ∧ a.holds C.prog (lone (Frame.enter C.prog f i.args .normal) [] (w.forCall tape i)))
    (contract : ∀ (W : World) (base : Nat) (args : Array Value) (ds gs : List (DataW H)) (before : List MemPlace),
      (∀ (j : Nat) t v, fn.params[j]? = some t → args[j]? = some v → Value.okWide C.prog W .any base t v) →
      DataW.Whole enc C.prog fn.params.toList s.vars apart W args.toList ds gs before →
      conds.all (PathCond.test C.prog ⟨fn.params.toList, ds, s.plain.varTypes C.prog, gs⟩) = true →
      (DataW.weightsEach C.prog (fn.params.toList ++ s.plain.varTypes C.prog) (ds ++ gs)).all (· ≤ reachBytes) = true → X W args → W.ShapedOpen C.prog →
      Calls C.prog f args W fun e W' => ∃ v, e = .returned v ∧ s.post enc C.prog fn apart fresh handsOn again W args v W') :
    ReturnsInHanded a C os f .any (fun w args => (s.pre enc C.prog fn conds apart w args ∧ X w args) ∧ sizedMet enc C.prog fn (OpenSpec.ofChange s) apart w args) (s.post enc C.prog fn apart fresh handsOn again) := by
  refine returnsInHanded_of_calls own started noInit witness ?_
  intro w tape i _ hsh _ hok hpre _
  obtain ⟨_, _, _, fn', hfn', _, _, _, _, hval⟩ := hok
  have e : fn' = fn := Option.some.inj (hfn'.symm.trans hfn)
  subst e
  obtain ⟨⟨⟨ds, gs, before, hw, hc⟩, hx⟩, hz⟩ := hpre
  have hw' := DataW.Whole.of_heap (w' := w.forCall tape i) (by rfl) hw
  refine (contract (w.forCall tape i) w.heap.size i.args ds gs before hval hw' hc (hz.weights hw) (hX _ _ _ (by rfl) hx) hsh).mono fun e W' ⟨v, he, hp⟩ => ?_
  subst he
  exact ChangeSpec.post_blind hp
end
end Go.Proofs.YtophnhmlknbmeaaDoor.X
