/- Maps keyed by labels, whatever they hold, told as functions: looked up, stored into, ranged over. -/
import Derived.Test.YtihknjmibnonjaaDoorH
import Derived.Maps.RangeWalk
import Derived.DeepKeys4
import Derived.WideKeyEntry
namespace Go.Proofs.YtihknjmibnonjaaDoor.X
open Go.RowKit Go.Proofs.YtihknjmibnonjaaDoorW.PrintWords Go.Proofs.YtihknjmibnonjaaDoorW.PrintLast Go.Proofs.YtihknjmibnonjaaDoorW.PrintMore Go.Proofs.YtihknjmibnonjaaDoor.More
set_option linter.unusedVariables false
set_option linter.unusedSimpArgs false
set_option maxRecDepth 100000
abbrev SL := S23
instance decL : DecidableEq SL := fun x y => decidable_of_iff (x.f0 = y.f0 ∧ x.f1 = y.f1 ∧ x.f2 = y.f2 ∧ x.f3 = y.f3) (by cases x; cases y; simp)
/-- A label as a value; such as numbers are. -/
def lv (x : SL) : Value := .agg #[.int .i64 x.f0, .int .i64 x.f1, .int .i64 x.f2, .int .i64 x.f3]
def okL (x : SL) : Prop := (Lit.int .i64 x.f0).wf = true ∧ (Lit.int .i64 x.f1).wf = true ∧ (Lit.int .i64 x.f2).wf = true ∧ (Lit.int .i64 x.f3).wf = true
theorem lv_inj {x y : SL} (h : lv x = lv y) : x = y := by
  cases x; cases y
  simp only [lv, Value.agg.injEq, Array.mk.injEq, List.cons.injEq, Value.int.injEq, true_and, and_true] at h
  obtain ⟨h1, h2, h3, h4⟩ := h
  subst h1; subst h2; subst h3; subst h4
  rfl
theorem laidOutL : laidOutB Tryd.prog = true := by kernel_rfl
theorem rowL : (23 : TypeId) < Tryd.prog.types.size := of_decide_eq_true (by kernel_rfl)
theorem wideL : (match Tryd.prog.underlying 23 with | some (.array _ _) | some (.struct _) => true | _ => false) = true := by kernel_rfl
theorem lawL : Go.Maps.Keyed Tryd.prog 23 := Go.Maps.Keyed.of_law (deep_law_laid laidOutL (m := 3) (by omega) rowL (by kernel_rfl) wideL)
theorem cellsL : Tryd.prog.cellsOf 23 = 4 := by kernel_rfl
theorem cellsI : Tryd.prog.cellsOf 3 = 1 := by kernel_rfl
theorem keyTypeL : Tryd.prog.keyType 23 = true := by kernel_rfl
theorem keyLits_cell {d : Nat} {a : Value} {l : List Lit} (h : Tryd.prog.keyLits (d + 1) 3 [a] = some l) : ∃ n, a = .int .i64 n ∧ (Lit.int .i64 n).wf = true := by
  unfold Program.keyLits at h
  rw [Tryd.underlying3] at h
  cases a <;> simp at h
  obtain ⟨⟨rfl, hw⟩, _⟩ := h
  exact ⟨_, rfl, hw⟩
theorem keyLits_int_mk {d : Nat} {n : Int} (h : (Lit.int .i64 n).wf = true) : Tryd.prog.keyLits (d + 1) 3 [.int .i64 n] = some [.int .i64 n] := by
  unfold Program.keyLits
  rw [Tryd.underlying3]
  simp [h]
theorem keyLits_L {d : Nat} (a b c e : Value) : Tryd.prog.keyLits (d + 2) 23 [a, b, c, e] = (([[a], [b], [c], [e]] : List (List Value)).mapM fun l => Tryd.prog.keyLits (d + 1) 3 l).map List.flatten := by
  conv => lhs; unfold Program.keyLits
  rw [Tryd.underlying23]
  simp [cellsL, cellsI, List.mapM_cons, List.mapM_nil]
theorem typesSize : ∃ d, Tryd.prog.types.size + 1 = d + 2 := ⟨Tryd.prog.types.size - 1, by have h : 0 < Tryd.prog.types.size := Nat.lt_of_le_of_lt (Nat.zero_le _) rowL; exact (by omega : ∀ n : Nat, 0 < n → n + 1 = n - 1 + 2) _ h⟩
theorem keyOf_lv' {x : SL} (h : okL x) : ∃ l, keyOf Tryd.prog 23 (lv x) = some l := by
  obtain ⟨h0, h1, h2, h3⟩ := h
  obtain ⟨d, hd⟩ := typesSize
  unfold keyOf
  rw [Tryd.underlying23]
  have hf : Value.formed Tryd.prog 23 (lv x) = true := by
    unfold Value.formed lv
    rw [Tryd.underlying23]
    simp [cellsL]
  simp only [keyTypeL, hf, Bool.and_self, if_true]
  rw [hd]
  simp only [lv, Value.cells]
  rw [keyLits_L]
  simp [List.mapM_cons, List.mapM_nil, keyLits_int_mk h0, keyLits_int_mk h1, keyLits_int_mk h2, keyLits_int_mk h3]
/-- What a label reads as, as a key. -/
noncomputable def kl (x : SL) : Lit := (keyOf Tryd.prog 23 (lv x)).getD (.bool false)
theorem keyOf_lv {x : SL} (h : okL x) : keyOf Tryd.prog 23 (lv x) = some (kl x) := by
  obtain ⟨l, hl⟩ := keyOf_lv' h
  rw [kl, hl]
  rfl
theorem kl_inj {x y : SL} (hx : okL x) (hy : okL y) (h : kl x = kl y) : x = y := lv_inj (lawL.inj (keyOf_lv hx) (h ▸ keyOf_lv hy))
theorem kl_key {x : SL} (h : okL x) : WideAt.IsKeyLit (kl x) := lawL.key (keyOf_lv h)
theorem keyOf_inv {v : Value} {l : Lit} (h : keyOf Tryd.prog 23 v = some l) : ∃ x, v = lv x ∧ okL x ∧ l = kl x := by
  have h0 := h
  obtain ⟨d, hd⟩ := typesSize
  unfold keyOf at h
  rw [Tryd.underlying23] at h
  simp only [keyTypeL, Bool.true_and] at h
  split at h
  · rename_i hf
    unfold Value.formed at hf
    split at hf
    · rename_i cs
      rw [Tryd.underlying23] at hf
      simp only [cellsL, beq_iff_eq] at hf
      obtain ⟨l4⟩ := cs
      match l4, hf with
      | [a, b, c, e], _ =>
        rw [hd] at h
        simp only [Value.cells] at h
        rw [keyLits_L] at h
        simp only [List.mapM_cons, List.mapM_nil, Option.pure_def, Option.bind_eq_bind, Option.map_eq_some_iff, Option.bind_eq_some_iff] at h
        obtain ⟨_, ⟨_, ⟨_, ha, _, ⟨_, hb, _, ⟨_, hc, _, ⟨_, he, _⟩, _⟩, _⟩, _⟩, _⟩, _⟩ := h
        obtain ⟨n0, rfl, w0⟩ := keyLits_cell ha
        obtain ⟨n1, rfl, w1⟩ := keyLits_cell hb
        obtain ⟨n2, rfl, w2⟩ := keyLits_cell hc
        obtain ⟨n3, rfl, w3⟩ := keyLits_cell he
        have hok : okL ⟨n0, n1, n2, n3⟩ := ⟨w0, w1, w2, w3⟩
        refine ⟨⟨n0, n1, n2, n3⟩, rfl, hok, ?_⟩
        have := keyOf_lv hok
        exact Option.some.inj (h0.symm.trans this)
    · cases hf
    · rw [Tryd.underlying23] at hf
      cases hf
  · cases h
/-- How an element reads: as itself. -/
def rv (v : Value) : Option (DataW Value × List MemPlace) := some (.held v, [])
theorem rv_inv {v : Value} {y : DataW Value × List MemPlace} (h : rv v = some y) : y = (.held v, []) := (Option.some.inj h).symm
/-- Block b is a map of at most n entries; at a label x it tells f x (z where there is none). -/
def MapIs (w : World) (b n : Nat) (z : Value) (f : SL → Value) : Prop :=
  ∃ D : DataW Value, w.ownsMap Tryd.prog 23 rv b n D ∧ ∀ x, okL x → D.atKey (kl x) (.held z) = .held (f x)
/-- A range over it is under way: 'left x': it is still to come; how many are. -/
def MapAt (w : World) (b r n : Nat) (z : Value) (f : SL → Value) (left : SL → Bool) (cnt : Nat) : Prop :=
  ∃ (D : DataW Value) (lf : Lit → Bool), w.ranges Tryd.prog 23 rv b r n D lf cnt ∧ (∀ x, okL x → D.atKey (kl x) (.held z) = .held (f x)) ∧ ∀ x, okL x → lf (kl x) = left x
section
variable {w w' : World} {b r n cnt : Nat} {z : Value} {f : SL → Value} {left : SL → Bool}
theorem MapIs.kept {row : Option Nat} (h : MapIs w b n z f) (hg : w.grownBy w' row) (hne : some b ≠ row) : MapIs w' b n z f := let ⟨D, ho, hf⟩ := h; ⟨D, ho.kept hg hne, hf⟩
theorem MapIs.below (h : MapIs w b n z f) (hb : Below w.heap.size w w') : MapIs w' b n z f := h.kept (grown_of_below hb none) (by simp)
theorem MapIs.mono (h : MapIs w b n z f) {n' : Nat} (hn : n ≤ n') : MapIs w b n' z f := let ⟨D, ho, hf⟩ := h; ⟨D, ho.mono hn, hf⟩
theorem MapIs.lt (h : MapIs w b n z f) : b < w.heap.size := let ⟨_, ho, _⟩ := h; ho.lt
theorem MapIs.isMap (h : MapIs w b n z f) : ∃ es c, w.heap[b]? = some (.map es c) := let ⟨_, ⟨es, c, hb, _⟩, _⟩ := h; ⟨es, c, hb⟩
theorem MapIs.of_block (h : MapIs w b n z f) (e : w'.heap[b]? = w.heap[b]?) : MapIs w' b n z f := by
  obtain ⟨D, ⟨es, clock, hb, r⟩, hf⟩ := h
  exact ⟨D, ⟨es, clock, e.trans hb, r⟩, hf⟩
theorem MapIs.setCell (h : MapIs w b n z f) {a : Addr} (ha : b ≠ a.block) (u : Value) : MapIs (w.setCell a u) b n z f := h.of_block (RowKit.Below.heap_setCell _ _ _ _ ha)
theorem MapIs.congr {g : SL → Value} (h : MapIs w b n z f) (e : ∀ x, okL x → f x = g x) : MapIs w b n z g := let ⟨D, ho, hf⟩ := h; ⟨D, ho, fun x hx => (hf x hx).trans (by rw [e x hx])⟩
theorem MapIs.made (w : World) (z : Value) : MapIs (w.alloc (.map #[] 0)) w.heap.size 0 z (fun _ => z) := ⟨.map [], World.ownsMap_made _ _ _ _, fun _ _ => rfl⟩
theorem MapAt.kept {row : Option Nat} (h : MapAt w b r n z f left cnt) (hg : w.grownBy w' row) (hne : some b ≠ row) (hne' : some r ≠ row) : MapAt w' b r n z f left cnt := let ⟨D, lf, ho, hf⟩ := h; ⟨D, lf, ho.kept hg hne hne', hf⟩
theorem MapAt.below (h : MapAt w b r n z f left cnt) (hb : Below w.heap.size w w') : MapAt w' b r n z f left cnt := h.kept (grown_of_below hb none) (by simp) (by simp)
theorem MapAt.lt (h : MapAt w b r n z f left cnt) : b < w.heap.size ∧ r < w.heap.size ∧ r ≠ b := let ⟨_, _, ho, _⟩ := h; ⟨ho.owns.lt, ho.lt, ho.ne⟩
theorem MapAt.is (h : MapAt w b r n z f left cnt) : MapIs w b n z f := let ⟨D, _, ho, hf, _⟩ := h; ⟨D, ho.owns, hf⟩
theorem MapAt.left_eq (h : MapAt w b r n z f left cnt) : w.rangeLeft b r = cnt := let ⟨_, _, ho, _⟩ := h; ho.left_eq
theorem MapAt.isIter (h : MapAt w b r n z f left cnt) : ∃ o s c d, w.heap[r]? = some (.mapIter o s c d) := let ⟨_, _, ⟨_, _, s, c, d, _, _, _, _, hr, _⟩, _⟩ := h; ⟨_, s, c, d, hr⟩
end
/-- One more is told. -/
def upd (f : SL → Value) (k : SL) (v : Value) : SL → Value := fun x => if x = k then v else f x
theorem upd_same (f : SL → Value) (k : SL) (v : Value) : upd f k v k = v := by simp [upd]
section
variable (w : World) {ops : Array Oper} {rest : List Oper} {o : Oper} {a : Act} {Q : Exit → Act → World → Prop}
/-- 'm[k]'. -/
theorem lookup_lab (hg : o.guard = none) (m x : Operand) (t e : TypeId) (hop : o.op = Op.lookup t m x false) (ht : Tryd.prog.underlying t = some (.map 23 e)) {z : Value} (hz : ∀ w, (zeroValue e).run Tryd.prog w = .ok z w)
    (b n : Nat) (f : SL → Value) (hm : a.eval m = .map (some b)) (h : MapIs w b n z f) (k : SL) (hk : okL k) (hx : a.eval x = lv k) (hK : wpList Tryd.prog ops Q rest (a.put o.dst (f k)) w) : wpList Tryd.prog ops Q (o :: rest) a w := by
  obtain ⟨D, hown, hf⟩ := h
  refine wpList_plain hg fun K' hK' => ?_
  obtain ⟨v, ps, hrun, hv⟩ := hown.lookup lawL ht (hz w) (show rv z = some (.held z, []) from rfl) (keyOf_lv hk)
  have e := rv_inv hv
  rw [hf k hk] at e
  injection e with e1 _
  injection e1 with e1
  unfold Oper.wp
  simp [execOp, hop, hm, hx, hrun, Result.andThen]
  refine hK' _ _ ?_
  rw [← e1]
  exact hK
/-- 'm[k] = v'. -/
theorem mapUpdate_lab (hg : o.guard = none) (m x v : Operand) (t e : TypeId) (hop : o.op = Op.mapUpdate t m x v) (ht : Tryd.prog.underlying t = some (.map 23 e)) {z : Value}
    (b n : Nat) (f : SL → Value) (hm : a.eval m = .map (some b)) (h : MapIs w b n z f) (hn : n < maxLen) (k : SL) (hk : okL k) (u : Value) (hx : a.eval x = lv k) (hv : a.eval v = u)
    (hK : ∀ w', MapIs w' b (n + 1) z (upd f k u) → w.grownBy w' (some b) → wpList Tryd.prog ops Q rest (a.put o.dst undef) w') : wpList Tryd.prog ops Q (o :: rest) a w := by
  obtain ⟨D, hown, hf⟩ := h
  refine wpList_mapUpdate_own w hg m x v t hop 23 e lawL ht rv b n D hm hown hn (lv k) u (kl k) hx hv (keyOf_lv hk) (.held u) [] rfl fun w' hown' hgr => hK w' ⟨_, hown', fun y hy => ?_⟩ hgr
  by_cases hyk : y = k
  · subst hyk
    rw [Go.Maps.atKey_put_same hown.isMap (kl_key hk), upd_same]
  · rw [Go.Maps.atKey_put_other (fun he => hyk (kl_inj hy hk he)), hf y hy]
    simp [upd, hyk]
/-- 'range m'. -/
theorem range_lab (hg : o.guard = none) (m : Operand) (t e : TypeId) (hop : o.op = Op.range t m) (ht : Tryd.prog.underlying t = some (.map 23 e)) {z : Value} (b n : Nat) (f : SL → Value) (hm : a.eval m = .map (some b)) (h : MapIs w b n z f)
    (hK : ∀ w' left cnt, MapAt w' b w.heap.size n z f left cnt → cnt ≤ n → (∀ x, okL x → left x = false → f x = z) → w.grownBy w' none → w'.heap.size = w.heap.size + 1 → wpList Tryd.prog ops Q rest (a.put o.dst (.pointer (some ⟨w.heap.size, 0, none⟩))) w') : wpList Tryd.prog ops Q (o :: rest) a w := by
  obtain ⟨D, hown, hf⟩ := h
  refine wpList_range_own w hg m t hop 23 e lawL ht rv b n D hm hown fun w' hr hgr hs => hK w' (fun x => Go.Maps.has D (kl x)) _ ⟨D, _, hr, hf, fun _ _ => rfl⟩ hown.size_le (fun x hx hl => ?_) hgr hs
  have e1 := Go.Maps.atKey_of_not_has hl (.held z)
  rw [hf x hx] at e1
  injection e1
/-- The step. -/
theorem next_lab (hg : o.guard = none) (it : Operand) (hop : o.op = Op.next it false) {z : Value} (b r n : Nat) (f : SL → Value) (left : SL → Bool) (cnt : Nat) (hit : a.eval it = .pointer (some ⟨r, 0, none⟩)) (h : MapAt w b r n z f left cnt)
    (hDone : (∀ x, okL x → left x = false) → wpList Tryd.prog ops Q rest (a.put o.dst (.tuple #[.bool false])) w)
    (hMore : ∀ (x : SL) (w' : World) (cnt' : Nat), okL x → left x = true → MapAt w' b r n z f (fun y => left y && !decide (y = x)) cnt' → cnt' < cnt → w.grownBy w' (some r) → w'.heap.size = w.heap.size →
      (Instr.entry (.pointer (some ⟨r, 0, none⟩))).run Tryd.prog w' = .ok (.tuple #[lv x, f x]) w' → wpList Tryd.prog ops Q rest (a.put o.dst (.tuple #[.bool true, lv x, f x])) w') : wpList Tryd.prog ops Q (o :: rest) a w := by
  obtain ⟨D, lf, hr, hf, hl⟩ := h
  refine wpList_next_ranges w hg it hop 23 lawL rv lv (fun v : Value => v) (fun key l hk => by obtain ⟨x, rfl, _⟩ := keyOf_inv hk; exact ⟨x, rfl⟩) (fun v y _ => ⟨v, rfl⟩) b r n D lf cnt hit hr
    (fun _ h0 => hDone fun x hx => by rw [← hl x hx, h0]) (fun x c l y w' cnt' hkey hlk hv hat hrg hlt hgr hsz hen => ?_)
  obtain ⟨x', ex, hx', rfl⟩ := keyOf_inv hkey
  obtain rfl := lv_inj ex
  have hy := rv_inv hv
  subst hy
  have hc := hat (.held z)
  rw [hf x hx'] at hc
  injection hc with hc
  subst hc
  refine hMore x w' cnt' hx' (by rw [← hl x hx']; exact hlk) ⟨D, _, hrg, hf, fun q hq => ?_⟩ hlt hgr hsz hen
  rw [hl q hq]
  congr 2
  by_cases hqx : q = x
  · subst hqx
    rw [WideAt.sameKey_self (kl_key hq)]
    simp
  · rw [Go.Maps.sameKey_ne (fun he => hqx (kl_inj hq hx' he))]
    simp [hqx]
end
/-! ### 'm[k]++', 'm[k] = append(m[k], x)': the entry is found, or laid; then it is stored into, whatever came between -/
theorem lawKL : Go.WideMaps.KeyLaw Tryd.prog 23 := deep_law_laid laidOutL (m := 3) (by omega) rowL (by kernel_rfl) wideL
open Go.WideElems Go.ChangeMaps in
theorem mapEntry_run {w : World} {b n : Nat} {z : Value} {f : SL → Value} (h : MapIs w b n z f) {k : SL} (hk : okL k) {t e : TypeId} (ht : Tryd.prog.underlying t = some (.map 23 e)) (hz : ∀ w, (zeroValue e).run Tryd.prog w = .ok z w) (hn : n < maxLen) :
    ∃ (st : Nat) (w1 : World), (Instr.mapEntry t (.map (some b)) (lv k)).run Tryd.prog w = .ok (.tuple #[f k, goInt st]) w1 ∧ MapIs w1 b (n + 1) z f ∧ w.grownBy w1 (some b) ∧ w1.heap.size = w.heap.size ∧
      ∀ (w2 : World) (v : Value), w2.heap[b]? = w1.heap[b]? → ∃ w3, (Instr.entryStore t (.map (some b)) (goInt st) v).run Tryd.prog w2 = .ok () w3 ∧ MapIs w3 b (n + 1) z (upd f k v) ∧ w2.grownBy w3 (some b) ∧ w3.heap.size = w2.heap.size := by
  obtain ⟨D, ⟨es, clock, hb, F, hs, hD⟩, hf⟩ := h
  have hkey := keyOf_lv hk
  have isM : Go.Maps.IsMap D := ⟨_, hD⟩
  have putf : ∀ u x, okL x → (D.put (kl k) (.held u)).atKey (kl x) (.held z) = .held (upd f k u x) := fun u x hx => by
    by_cases hxk : x = k
    · subst hxk
      rw [Go.Maps.atKey_put_same isM (kl_key hk), upd_same]
    · rw [Go.Maps.atKey_put_other (fun he => hxk (kl_inj hx hk he)), hf x hx]
      simp [upd, hxk]
  obtain ⟨v0, st, es1, clock1, he, hv0, hst⟩ := entry_then_store lawKL ht hz hb F hkey
  have hown : w.ownsMap Tryd.prog 23 rv b n D := ⟨es, clock, hb, F, hs, hD⟩
  -- what a store makes of it, in whatever world
  have store : ∀ (w2 : World) (v : Value), w2.heap[b]? = some (.map es1 clock1) → ∃ w3, (Instr.entryStore t (.map (some b)) (goInt st) v).run Tryd.prog w2 = .ok () w3 ∧ MapIs w3 b (n + 1) z (upd f k v) ∧ w2.grownBy w3 (some b) ∧ w3.heap.size = w2.heap.size := fun w2 v hw2 => by
    obtain ⟨es', clock', h1, h2⟩ := hst w2 v hw2
    obtain ⟨w', h3, h4, _⟩ := hown.update lawL ht hn hkey (show rv v = some (.held v, []) from rfl)
    rw [h2] at h3
    injection h3 with _ h3
    subst h3
    obtain ⟨es'', clock'', hb'', F'', hs'', hD''⟩ := h4
    rw [heap_setBlock_same hb] at hb''
    injection hb'' with hb''
    injection hb'' with e1 e2
    subst e1; subst e2
    exact ⟨_, h1, ⟨D.put (kl k) (.held v), ⟨es', clock', heap_setBlock_same hw2 _, F'', hs'', hD''⟩, putf v⟩, ⟨rfl, rfl, rfl, by simp [setBlock], fun i _ hi => heap_setBlock_other hw2 _ (fun e => hi (by rw [e]))⟩, by simp [setBlock]⟩
  have hsame : (setBlock w b (.map es1 clock1)).heap[b]? = some (.map es1 clock1) := heap_setBlock_same hb _
  have hz0 : f k = v0 ∧ (es1 = es ∧ clock1 = clock ∨ upd f k v0 = f ∧ MapIs (setBlock w b (.map es1 clock1)) b (n + 1) z (upd f k z) ∧ v0 = z) := by
    rcases lawL.find w hkey es.toList F.keys with ⟨h1, h2⟩ | ⟨j, e0, h1, h2, h3⟩
    · -- a new key
      have hlk := hown.lookup lawL ht (hz w) (show rv z = some (.held z, []) from rfl) hkey
      obtain ⟨v, ps, hrun, hv⟩ := hlk
      have hr2 : (Instr.lookup t (.map (some b)) (lv k) false).run Tryd.prog w = .ok z w := by
        simp [Instr.lookup, run_underlying ht, MapKept.run_getObj_map hb, lawL.check w _ hkey, h1, hz, Result.andThen]
      rw [hrun] at hr2
      injection hr2 with e1 _
      subst e1
      have e2 := rv_inv hv
      rw [hf k hk] at e2
      injection e2 with e2 _
      injection e2 with e2
      have hm : (Instr.mapEntry t (.map (some b)) (lv k)).run Tryd.prog w = .ok (.tuple #[v, goInt clock]) (setBlock w b (.map (es.push ⟨lv k, v, clock⟩) (clock + 1))) := by
        simp [Instr.mapEntry, run_underlying ht, MapKept.run_getObj_map hb, lawL.check w false hkey, h1, hz, MapKept.run_setObj_map _ hb, Result.andThen, setBlock]
      have hu : (Instr.mapUpdate t (.map (some b)) (lv k) v).run Tryd.prog w = .ok () (setBlock w b (.map (es.push ⟨lv k, v, clock⟩) (clock + 1))) := by
        simp [Instr.mapUpdate, run_underlying ht, MapKept.run_getObj_map hb, lawL.check w false hkey, h1, MapKept.run_setObj_map _ hb, Result.andThen, setBlock]
      rw [hm] at he
      injection he with he1 he2
      have hv : v = v0 := by
        injection he1 with he1
        simp only [Array.mk.injEq, List.cons.injEq] at he1
        exact he1.1
      refine ⟨by rw [e2, hv], .inr ⟨?_, ?_, hv.symm⟩⟩
      · funext x
        unfold upd
        split
        · rename_i hx
          rw [hx, e2, hv]
        · rfl
      · rw [← he2]
        obtain ⟨w', h3, h4, _⟩ := hown.update lawL ht hn hkey (show rv v = some (.held v, []) from rfl)
        rw [hu] at h3
        injection h3 with _ h3
        subst h3
        exact ⟨_, h4, putf v⟩
    · have hj : es[j]? = some e0 := by simpa using h2
      have hlk := hown.lookup lawL ht (hz w) (show rv z = some (.held z, []) from rfl) hkey
      obtain ⟨v, ps, hrun, hv⟩ := hlk
      have hr2 : (Instr.lookup t (.map (some b)) (lv k) false).run Tryd.prog w = .ok e0.val w := by
        simp [Instr.lookup, run_underlying ht, MapKept.run_getObj_map hb, lawL.check w _ hkey, h1, Result.andThen]
      rw [hrun] at hr2
      injection hr2 with e1 _
      subst e1
      have e2 := rv_inv hv
      rw [hf k hk] at e2
      injection e2 with e2 _
      injection e2 with e2
      have hsm : es.modify j (fun e => { e with key := lv k }) = es := by
        apply Array.ext'
        rw [Array.toList_modify, modify_eq_set _ _ _ _ h2]
        have : ({ e0 with key := lv k } : MapEntry) = e0 := by rw [← h3]
        rw [this]
        exact set_self _ _ _ h2
      have hm : (Instr.mapEntry t (.map (some b)) (lv k)).run Tryd.prog w = .ok (.tuple #[e0.val, goInt e0.born]) (setBlock w b (.map es clock)) := by
        simp [Instr.mapEntry, run_underlying ht, MapKept.run_getObj_map hb, lawL.check w false hkey, h1, hj, h3, lawL.stays w hkey, hsm, MapKept.run_setObj_map _ hb, Result.andThen, setBlock]
      rw [hm] at he
      injection he with he1 he2
      have hv : e0.val = v0 := by
        injection he1 with he1
        simp only [Array.mk.injEq, List.cons.injEq] at he1
        exact he1.1
      refine ⟨by rw [e2, hv], .inl ?_⟩
      have h5 := congrArg (fun W : World => W.heap[b]?) he2
      simp only [heap_setBlock_same hb] at h5
      injection h5 with h5
      injection h5 with h5 h6
      exact ⟨h5.symm, h6.symm⟩
  obtain ⟨hfk, hway⟩ := hz0
  rw [hfk]
  refine ⟨st, _, he, ?_, ⟨rfl, rfl, rfl, by simp [setBlock], fun i _ hi => heap_setBlock_other hb _ (fun e => hi (by rw [e]))⟩, by simp [setBlock], fun w2 v hw2 => store w2 v (hw2.trans hsame)⟩
  rcases hway with ⟨rfl, rfl⟩ | ⟨h1, h2, h3⟩
  · exact ⟨D, ⟨es1, clock1, hsame, F, by omega, hD⟩, hf⟩
  · subst h3
    rwa [h1] at h2
end Go.Proofs.YtihknjmibnonjaaDoor.X
