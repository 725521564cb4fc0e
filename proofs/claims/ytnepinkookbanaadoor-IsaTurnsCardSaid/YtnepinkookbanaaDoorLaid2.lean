/- What the library's texts on numerals and on pieces of texts lean on: its tables, two errors, how long its search may be; it stands while nothing old turns. -/
import Derived.Test.YtnepinkookbanaaDoorLaid
import Derived.LaidLaws
import Derived.LaidHandle
import Derived.HandedShaped
import Derived.Shelf.Vars
import Derived.ProofKit
import Derived.JoinedOf
import Derived.JoinedAt
namespace Go.Proofs.YtnepinkookbanaaDoor.X
open Go.RowKit
/-- A variable of the library that holds an error. -/
def ErrAt (w : World) (n : String) : Prop := ∃ (tp : TypeId) (p : Value), w.var? Tryd.prog n = some #[.iface tp p]
theorem ErrAt.below {w w' : World} {n : String} (h : ErrAt w n) (hb : Below w.heap.size w w') : ErrAt w' n := by
  obtain ⟨tp, p, h⟩ := h
  refine ⟨tp, p, ?_⟩
  unfold World.var? at h ⊢
  cases hg : Tryd.prog.globalNamed n with
  | none => simp [hg] at h
  | some g =>
    simp only [hg, Option.bind_some] at h ⊢
    have hlt : g < w.heap.size := by
      rcases Nat.lt_or_ge g w.heap.size with h' | h'
      · exact h'
      · simp [Array.getElem?_eq_none h'] at h
    rw [hb.block g hlt]
    exact h
theorem ErrAt.of_laid {W : World} {l : List (String × DataW Unit)} (h : laidMet Tryd.prog l W) {n nm : String} {d : DataW Unit} {g : Nat} {t : TypeId} {ms : Array (String × TypeId)} (hm : (n, DataW.iface nm d) ∈ l)
    (hg : Tryd.prog.globalNamed n = some g) (ht : (Tryd.prog.globals[g]?).map (·.type) = some t) (hi : Tryd.prog.underlying t = some (.interface ms)) : ErrAt W n := by
  obtain ⟨g', t', cs, fuel, p, hg', ht', hvar, hd⟩ := Lib.laidMet.reads h hm
  obtain rfl := Option.some.inj (hg.symm.trans hg')
  obtain rfl := Option.some.inj (ht.symm.trans ht')
  obtain ⟨f1, u, v, hcs, _, _⟩ := iface_of_trod hi hd
  refine ⟨u, v, ?_⟩
  rw [hvar]
  obtain ⟨l⟩ := cs
  exact congrArg (fun x => some (Array.mk x)) hcs
structure Laid2 (w : World) : Prop where
  base : Laid w
  most : ∃ m : Int, w.cell? ⟨3, 0, none⟩ = some (.int .i64 m)
  syn : ErrAt w "strconv.ErrSyntax"
  rng : ErrAt w "strconv.ErrRange"
theorem Laid2.below {w w' : World} (h : Laid2 w) (hb : Below w.heap.size w w') : Laid2 w' := by
  obtain ⟨m, hm⟩ := h.most
  exact ⟨h.base.below hb, ⟨m, (hb.cell (World.block_lt_of_cell? w _ hm)).trans hm⟩, h.syn.below hb, h.rng.below hb⟩
/-- Out of what a row lays, and of the world's shape. -/
theorem Laid2.of_laid {W : World} {l : List (String × DataW Unit)} (h : laidMet Tryd.prog l W) (hsh : W.ShapedOpen Tryd.prog) (hm : ("internal/strconv.uint64pow10", (Rows.laid_internal_strconv_uint64pow10 : DataW Unit)) ∈ l)
    (hs : ("strconv.ErrSyntax", (Rows.laid_strconv_ErrSyntax : DataW Unit)) ∈ l) (hr : ("strconv.ErrRange", (Rows.laid_strconv_ErrRange : DataW Unit)) ∈ l) : Laid2 W :=
  ⟨Laid.of_laid h hm, cell_of_shapedOpen_int (g := 3) (t := 3) (zero := #[.int .i64 0]) (k := .i64) hsh (of_decide_eq_true (by kernel_rfl)) (by kernel_rfl) rfl (by kernel_rfl) (by kernel_rfl) Tryd.underlying3,
    ErrAt.of_laid (g := (Tryd.prog.globalNamed "strconv.ErrSyntax").getD 0) (t := 64) h hs (by kernel_rfl) (by kernel_rfl) Tryd.underlying64,
    ErrAt.of_laid (g := (Tryd.prog.globalNamed "strconv.ErrRange").getD 0) (t := 64) h hr (by kernel_rfl) (by kernel_rfl) Tryd.underlying64⟩
/-- So many blocks has the settled world. -/
noncomputable def low : Nat := (World.holding Tryd.prog default ⟨#[], #[], []⟩).heap.size
noncomputable def putVar (h : Array Obj) (n : String) (d : DataW Unit) : Array Obj := h.modify ((Tryd.prog.globalNamed n).getD 0) fun
  | .cells _ t frozen => match d with
    | .iface _ _ => .cells #[.iface 119 (.pointer (some ⟨if n = "strconv.ErrRange" then low else low + 1, 0, none⟩))] t frozen
    | d => .cells (cellsOfData d).toArray t frozen
  | o => o
/-- A world in which what a row lays stands. -/
noncomputable def laidWorld2 (os : Os) (l : List (String × DataW Unit)) : World :=
  let w0 := World.holding Tryd.prog os ⟨#[.cells #[.string ⟨#[118, 97, 108, 117, 101, 32, 111, 117, 116, 32, 111, 102, 32, 114, 97, 110, 103, 101]⟩] 121, .cells #[.string ⟨#[105, 110, 118, 97, 108, 105, 100, 32, 115, 121, 110, 116, 97, 120]⟩] 121], #[], []⟩
  { w0 with heap := l.foldl (fun h x => putVar h x.1 x.2) w0.heap }
section
variable {H : Type} {enc : TypeId × Value → H}
/-- The wrap: what is laid, the reach, and the world's shape, all three. -/
theorem handed_of_all {a : Assume} {C : Checked} {os : Os} {f : FuncId} {fn : Func} {s : ChangeSpec} {conds : List PathCond} {apart fresh handsOn again : Bool} {X : World → Array Value → Prop}
    (hX : ∀ (w w' : World) (args : Array Value), w.heap = w'.heap → X w args → X w' args)
    (own : ownKnob C.prog.godebug = none) (started : os.Started) (noInit : C.prog.inits.idxOf? f = none) (hfn : C.prog.funcs[f]? = some fn)
    (witness : ∃ (w : World) (tape : Tape) (i : Input), w.os = os ∧ (w.forCall tape i).Shaped C.prog ∧ i.vars = [] ∧ Input.okWide C.prog (w.forCall tape i) .any w.heap.size f i ∧
      ((s.pre enc C.prog fn conds apart (w.forCall tape i).memory i.args ∧ X (w.forCall tape i).memory i.args) ∧ sizedMet enc C.prog fn (OpenSpec.ofChange s) apart (w.forCall tape i).memory i.args) ∧ a.holds C.prog (lone (Frame.enter C.prog f i.args .normal) [] (w.forCall tape i)))
    (contract : ∀ (W : World) (base : Nat) (args : Array Value) (ds gs : List (DataW H)) (before : List MemPlace),
      (∀ (j : Nat) t v, fn.params[j]? = some t → args[j]? = some v → Value.okWide C.prog W .any base t v) →
      DataW.Whole enc C.prog fn.params.toList s.vars apart W args.toList ds gs before →
      conds.all (PathCond.test C.prog ⟨fn.params.toList, ds, s.plain.varTypes C.prog, gs⟩) = true →
      (DataW.weightsEach C.prog (fn.params.toList ++ s.plain.varTypes C.prog) (ds ++ gs)).all (· ≤ reachBytes) = true → X W args → W.ShapedOpen C.prog →
      Calls C.prog f args W fun e W' => ∃ v, e = .returned v ∧ s.post enc C.prog fn apart fresh handsOn again W args v W') :
    ReturnsInHanded a C os f .any (fun w args => (s.pre enc C.prog fn conds apart w args ∧ X w args) ∧ sizedMet enc C.prog fn (OpenSpec.ofChange s) apart w args) (s.post enc C.prog fn apart fresh handsOn again) := by
  refine returnsInHanded_of_calls own started noInit witness ?_
  intro w tape i _ hsh _ hok hpre _
  obtain ⟨_, _, _, fn', hfn', _, _, _, _, hval⟩ := hok
  have e : fn' = fn := Option.some.inj (hfn'.symm.trans hfn)
  subst e
  obtain ⟨⟨⟨ds, gs, before, hw, hc⟩, hx⟩, hz⟩ := hpre
  have hw' := DataW.Whole.of_heap (w' := w.forCall tape i) (by rfl) hw
  refine (contract (w.forCall tape i) w.heap.size i.args ds gs before hval hw' hc (hz.weights hw) (hX _ _ _ (by rfl) hx) hsh).mono fun e W' ⟨v, he, hp⟩ => ?_
  subst he
  exact ChangeSpec.post_blind hp
end
end Go.Proofs.YtnepinkookbanaaDoor.X
