/- What the laws of the log share. -/
import Derived.Test.YtihknjmibnonjaaDoorPAud
namespace Go.Proofs.YtihknjmibnonjaaDoor.X
open Go.RowKit Go.Proofs.YtihknjmibnonjaaDoorW.PrintWords Go.Proofs.YtihknjmibnonjaaDoorW.PrintLast Go.Proofs.YtihknjmibnonjaaDoorW.PrintMore Go.Proofs.YtihknjmibnonjaaDoor.More Go.Proofs.YtihknjmibnonjaaDoor.Pure Go.Proofs.YtihknjmibnonjaaDoor.Lib
set_option linter.unusedVariables false
set_option linter.unusedSimpArgs false
theorem okA_low {w : World} {lb mb n base : Nat} {hdr : SL → Value} {rows : SL → List SE} (h : LogIs w lb mb n base hdr rows) {k : Nat} (hk : k < base) : okA hdr k := fun y hy e => by
  have := Kd.R_base (h.row hy) _ e
  omega
/-- What was made before the log was, stands. -/
theorem LogStep.low {w w' : World} {lb mb n base : Nat} {hdr : SL → Value} {rows : SL → List SE} (s : LogStep w w' mb hdr) (hL : LogIs w lb mb n base hdr rows) (hm : base ≤ mb) {g : Nat} (hg : g < base) {o : Obj} (h : w.heap[g]? = some o) : w'.heap[g]? = some o :=
  (s.block g (Array.getElem?_eq_some_iff.1 h).1 (by omega) (okA_low hL hg)).trans h
/-- An entry told anew with another number and label. -/
def reE (e : SE) (s : Int) (l : SL) : SE := ⟨s, l, e.f2, e.f3, e.f4, e.f5⟩
/-- The first m entries that the log has of an entry at a label. -/
def seqE (e : SE) (l : SL) (m : Nat) : List SE := (List.range m).map fun (i : Nat) => reE e ((i : Int) + 1) l
theorem seqE_length (e : SE) (l : SL) (m : Nat) : (seqE e l m).length = m := by simp [seqE]
theorem seqE_succ (e : SE) (l : SL) (m : Nat) : seqE e l m ++ [reE e ((m : Int) + 1) l] = seqE e l (m + 1) := by
  simp [seqE, List.range_succ]
theorem seqE_rd (e : SE) (l : SL) (m : Nat) (k : Int) (h0 : 0 ≤ k) (h1 : k < (m : Int)) : rd_T26 (seqE e l m) k = reE e (k + 1) l := by
  unfold rd_T26 seqE
  rw [List.getD_eq_getElem?_getD, List.getElem?_map, List.getElem?_range (by omega)]
  show reE e ((k.toNat : Int) + 1) l = _
  rw [Int.toNat_of_nonneg h0]
theorem reE_may {e : SE} {l : SL} (s : Int) (h : mayE e) (hl : labOk l) : mayE (reE e s l) := ⟨hl, h.2⟩
/-- A log that holds rows at one label alone. -/
def oneRow (a : SL) (l : List SE) : SL → List SE := fun y => if y = a then l else []
theorem oneRow_at (a : SL) (l : List SE) : oneRow a l a = l := if_pos rfl
theorem oneRow_ne {a b : SL} (h : b ≠ a) (l : List SE) : oneRow a l b = [] := if_neg h
theorem updR_one (a : SL) (l l' : List SE) : updR (oneRow a l) a l' = oneRow a l' := by
  funext y
  unfold updR oneRow
  split <;> simp [*]
theorem LogIs.congr {w : World} {lb mb n base : Nat} {hdr : SL → Value} {rows rows' : SL → List SE} (h : LogIs w lb mb n base hdr rows) (e : rows = rows') : LogIs w lb mb n base hdr rows' := e ▸ h
theorem ge_len {b : Bool} {n : Int} {m : Nat} (h : decide ((40 : Int) ≤ (m : Int)) = b) : decide ((40 : Int) ≤ (m : Int)) = b := h
/-- Labels and an entry in boxes of their own. -/
structure Three (W : World) (g : Nat) (a b : SL) (e : SE) : Prop where
  a : W.heap[g]? = some (.cells #[.int .i64 a.f0, .int .i64 a.f1, .int .i64 a.f2, .int .i64 a.f3] 23 (0, 0))
  b : W.heap[g + 1]? = some (.cells #[.int .i64 b.f0, .int .i64 b.f1, .int .i64 b.f2, .int .i64 b.f3] 23 (0, 0))
  e : W.heap[g + 1 + 1]? = some (.cells #[.int .i64 e.f0, .int .i64 e.f1.f0, .int .i64 e.f1.f1, .int .i64 e.f1.f2, .int .i64 e.f1.f3, .string e.f2, .int .i64 e.f3, .string e.f4, .int .i64 e.f5] 26 (0, 0))
theorem Three.below {W W' : World} {g : Nat} {a b : SL} {e : SE} (h : Three W g a b e) (hb : Below W.heap.size W W') : Three W' g a b e := ⟨blk_below h.a hb, blk_below h.b hb, blk_below h.e hb⟩
theorem Three.low {w w' : World} {g lb mb n base : Nat} {hdr : SL → Value} {rows : SL → List SE} {a b : SL} {e : SE} (h : Three w g a b e) (s : LogStep w w' mb hdr) (hL : LogIs w lb mb n base hdr rows) (hm : base ≤ mb) (hg : g + 2 < base) : Three w' g a b e :=
  ⟨s.low hL hm (by omega) h.a, s.low hL hm (by omega) h.b, s.low hL hm (by omega) h.e⟩
theorem Three.made (w : World) (a b : SL) (e : SE) : Three (((w.alloc (.cells #[.int .i64 a.f0, .int .i64 a.f1, .int .i64 a.f2, .int .i64 a.f3] 23)).alloc (.cells #[.int .i64 b.f0, .int .i64 b.f1, .int .i64 b.f2, .int .i64 b.f3] 23)).alloc (.cells #[.int .i64 e.f0, .int .i64 e.f1.f0, .int .i64 e.f1.f1, .int .i64 e.f1.f2, .int .i64 e.f1.f3, .string e.f2, .int .i64 e.f3, .string e.f4, .int .i64 e.f5] 26)) w.heap.size a b e := by
  refine ⟨blk_alloc (blk_alloc (blk_new w _) _) _, ?_, ?_⟩
  · have h1 := blk_new (w.alloc (.cells #[.int .i64 a.f0, .int .i64 a.f1, .int .i64 a.f2, .int .i64 a.f3] 23)) (.cells #[.int .i64 b.f0, .int .i64 b.f1, .int .i64 b.f2, .int .i64 b.f3] 23)
    rw [show (w.alloc (.cells #[.int .i64 a.f0, .int .i64 a.f1, .int .i64 a.f2, .int .i64 a.f3] 23)).heap.size = w.heap.size + 1 by simp] at h1
    exact blk_alloc h1 _
  · have h1 := blk_new ((w.alloc (.cells #[.int .i64 a.f0, .int .i64 a.f1, .int .i64 a.f2, .int .i64 a.f3] 23)).alloc (.cells #[.int .i64 b.f0, .int .i64 b.f1, .int .i64 b.f2, .int .i64 b.f3] 23)) (.cells #[.int .i64 e.f0, .int .i64 e.f1.f0, .int .i64 e.f1.f1, .int .i64 e.f1.f2, .int .i64 e.f1.f3, .string e.f2, .int .i64 e.f3, .string e.f4, .int .i64 e.f5] 26)
    rwa [show ((w.alloc (.cells #[.int .i64 a.f0, .int .i64 a.f1, .int .i64 a.f2, .int .i64 a.f3] 23)).alloc (.cells #[.int .i64 b.f0, .int .i64 b.f1, .int .i64 b.f2, .int .i64 b.f3] 23)).heap.size = w.heap.size + 1 + 1 by simp] at h1
theorem blk_far4 {w : World} {g g' : Nat} {t : TypeId} {cs : Array Value} (h : w.heap[g]? = some (.cells cs t (0, 0))) (hne : g ≠ g') (i0 i1 i2 i3 : Nat) (v0 v1 v2 v3 : Value) : ((((w.setCell ⟨g', i0, none⟩ v0).setCell ⟨g', i1, none⟩ v1).setCell ⟨g', i2, none⟩ v2).setCell ⟨g', i3, none⟩ v3).heap[g]? = some (.cells cs t (0, 0)) :=
  blk_far (blk_far (blk_far (blk_far h hne _) hne _) hne _) hne _
/-- An entry's label stored anew. -/
theorem putL {w : World} {g : Nat} {t : TypeId} {c0 c1 c2 c3 c4 c5 c6 c7 c8 v1 v2 v3 v4 : Value} (h : w.heap[g]? = some (.cells #[c0, c1, c2, c3, c4, c5, c6, c7, c8] t (0, 0))) : ((((w.setCell ⟨g, 1, none⟩ v1).setCell ⟨g, 2, none⟩ v2).setCell ⟨g, 3, none⟩ v3).setCell ⟨g, 4, none⟩ v4).heap[g]? = some (.cells #[c0, v1, v2, v3, v4, c5, c6, c7, c8] t (0, 0)) :=
  blk_put (blk_put (blk_put (blk_put h 1 v1 rfl) 2 v2 rfl) 3 v3 rfl) 4 v4 rfl
theorem Three.putL {w : World} {g : Nat} {a b : SL} {e : SE} (h : Three w g a b e) (l : SL) : Three ((((w.setCell ⟨g + 1 + 1, 1, none⟩ (.int .i64 l.f0)).setCell ⟨g + 1 + 1, 2, none⟩ (.int .i64 l.f1)).setCell ⟨g + 1 + 1, 3, none⟩ (.int .i64 l.f2)).setCell ⟨g + 1 + 1, 4, none⟩ (.int .i64 l.f3)) g a b (reE e e.f0 l) :=
  ⟨blk_far4 h.a (by omega) _ _ _ _ _ _ _ _, blk_far4 h.b (by omega) _ _ _ _ _ _ _ _, X.putL h.e⟩
theorem Three.putS {w : World} {g : Nat} {a b : SL} {e : SE} (h : Three w g a b e) (s : Int) : Three (w.setCell ⟨g + 1 + 1, 0, none⟩ (.int .i64 s)) g a b (reE e s e.f1) :=
  ⟨blk_far h.a (show g ≠ g + 1 + 1 by omega) _, blk_far h.b (show g + 1 ≠ g + 1 + 1 by omega) _, blk_put h.e 0 _ rfl⟩
theorem below_set4 {w W : World} {g i0 i1 i2 i3 : Nat} {v0 v1 v2 v3 : Value} (h : Below w.heap.size w W) (hg : w.heap.size ≤ g) : Below w.heap.size w ((((W.setCell ⟨g, i0, none⟩ v0).setCell ⟨g, i1, none⟩ v1).setCell ⟨g, i2, none⟩ v2).setCell ⟨g, i3, none⟩ v3) :=
  below_set (below_set (below_set (below_set h hg) hg) hg) hg
/-- A log is as it was where nothing from its beginning on has turned. -/
theorem LogIs.turn {w w' : World} {lb mb n base : Nat} {hdr : SL → Value} {rows : SL → List SE} (h : LogIs w lb mb n base hdr rows) (hlb : base ≤ lb) (hmb : base ≤ mb) (hk : ∀ k, base ≤ k → k < w.heap.size → w'.heap[k]? = w.heap[k]?) : LogIs w' lb mb n base hdr rows := by
  refine ⟨(hk lb hlb (Array.getElem?_eq_some_iff.1 h.1).1).trans h.1, h.2.1.of_block (hk mb hmb h.2.1.lt), fun x hx => ⟨Kd.R_mono (Kd.R_move (Kd.R_bound (h.2.2 x hx).1) (fun k hk2 => hk k hk2.2.1 hk2.2.2.1)) (fun _ hk2 => hk2.1), (h.2.2 x hx).2⟩⟩
theorem LogIs.set {w : World} {lb mb n base : Nat} {hdr : SL → Value} {rows : SL → List SE} (h : LogIs w lb mb n base hdr rows) (hlb : base ≤ lb) (hmb : base ≤ mb) {g j : Nat} {v : Value} (hg : g < base) : LogIs (w.setCell ⟨g, j, none⟩ v) lb mb n base hdr rows :=
  h.turn hlb hmb (fun k hk _ => Below.heap_setCell w ⟨g, j, none⟩ v k (show k ≠ g by omega))
theorem LogIs.set4 {w : World} {lb mb n base : Nat} {hdr : SL → Value} {rows : SL → List SE} (h : LogIs w lb mb n base hdr rows) (hlb : base ≤ lb) (hmb : base ≤ mb) {g i0 i1 i2 i3 : Nat} {v0 v1 v2 v3 : Value} (hg : g < base) : LogIs ((((w.setCell ⟨g, i0, none⟩ v0).setCell ⟨g, i1, none⟩ v1).setCell ⟨g, i2, none⟩ v2).setCell ⟨g, i3, none⟩ v3) lb mb n base hdr rows :=
  (((h.set hlb hmb hg).set hlb hmb hg).set hlb hmb hg).set hlb hmb hg
theorem oneRow_add (e : SE) (a : SL) (m : Nat) (s : Int) : updR (oneRow a (seqE e a m)) a (oneRow a (seqE e a m) a ++ [(⟨((oneRow a (seqE e a m) a).length : Int) + 1, a, e.f2, e.f3, e.f4, e.f5⟩ : SE)]) = oneRow a (seqE e a (m + 1)) := by
  rw [oneRow_at, seqE_length, updR_one]
  exact congrArg _ (seqE_succ e a m)
theorem log_All_len {w : World} {lb mb n base : Nat} {hdr : SL → Value} {rows : SL → List SE} (h : LogIs w lb mb n base hdr rows) {x : SL} (hx : okL x) {l : List SE} (hl : rows x = l) {m : Nat} (hm : l.length = m) (hs : m ≤ 1000000) : Calls Tryd.prog 14 #[.pointer (some ⟨lb, 0, none⟩), lv x] w fun e w' =>
    ∃ A c, e = .returned (.slice A m c) ∧ RE w' w.heap.size (fun _ => True) (.slice A m c) l ∧ Below w.heap.size w w' := by
  subst hl hm
  refine (log_All.calls h hx hs).mono ?_
  rintro e w' ⟨v, rfl, hR, hb⟩
  obtain ⟨A, c, rfl⟩ := Kd.R_slice hR
  exact ⟨A, c, rfl, hR, hb⟩
theorem log_Full_is {w : World} {lb mb n base : Nat} {hdr : SL → Value} {rows : SL → List SE} (h : LogIs w lb mb n base hdr rows) {x : SL} (hx : okL x) {b : Bool} (hb : decide ((40 : Int) ≤ (rows x).length) = b) : Calls Tryd.prog 15 #[.pointer (some ⟨lb, 0, none⟩), lv x] w fun e w' => e = .returned (.bool b) ∧ Below w.heap.size w w' := by
  subst hb
  exact log_Full.calls h hx
theorem oneRow_new {a b : SL} (h : b ≠ a) (e : SE) (l : List SE) : updR (oneRow a l) b (oneRow a l b ++ [(⟨((oneRow a l b).length : Int) + 1, b, e.f2, e.f3, e.f4, e.f5⟩ : SE)]) b = [reE e 1 b] := by
  rw [oneRow_ne h]
  exact if_pos rfl
end Go.Proofs.YtihknjmibnonjaaDoor.X
