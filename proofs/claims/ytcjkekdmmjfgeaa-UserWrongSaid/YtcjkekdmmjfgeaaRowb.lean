/- Words for a row of bytes that a text was turned into, of which one byte is turned, and that is turned into a text again. -/
import Derived.Test.YtcjkekdmmjfgeaaXw
namespace Go.Proofs.Ytcjkekdmmjfgeaa.More
open Go.RowKit Go.Proofs.YtcjkekdmmjfgeaaW.PrintWords
/-- Block g holds these bytes, and they may be written. -/
def RowB (w : World) (g : Nat) (xs : List Int) : Prop := g < w.heap.size ∧ ∀ j, j < xs.length → w.cell? ⟨g, j, none⟩ = some (.int .u8 (xs.getD j 0)) ∧ w.frozen? ⟨g, j, none⟩ = false
theorem RowB.below {w w1 : World} {g : Nat} {xs : List Int} (h : RowB w g xs) (hb : Below w.heap.size w w1) : RowB w1 g xs :=
  ⟨Nat.lt_of_lt_of_le h.1 hb.size, fun j hj => ⟨(hb.cell (p := ⟨g, j, none⟩) h.1).trans (h.2 j hj).1, (hb.frozen (p := ⟨g, j, none⟩) h.1).trans (h.2 j hj).2⟩⟩
theorem RowB.alloc {w : World} {g : Nat} {xs : List Int} (h : RowB w g xs) (o : Obj) : RowB (w.alloc o) g xs := h.below ((Below.refl _ w).alloc (Nat.le_refl _) o)
theorem RowB.drewN {w : World} {g : Nat} {xs : List Int} (h : RowB w g xs) (n : Nat) : RowB (w.drewN n) g xs := ⟨h.1, h.2⟩
theorem RowB.drew {w : World} {g : Nat} {xs : List Int} (h : RowB w g xs) : RowB w.drew g xs := ⟨h.1, h.2⟩
theorem RowB.set {w : World} {g : Nat} {xs : List Int} (h : RowB w g xs) (k : Nat) (v : Int) : RowB (w.setCell ⟨g, k, none⟩ (.int .u8 v)) g (xs.set k v) := by
  refine ⟨by simpa using h.1, fun j hj => ?_⟩
  rw [List.length_set] at hj
  refine ⟨?_, by rw [World.frozen?_setCell]; exact (h.2 j hj).2⟩
  by_cases e : k = j
  · subst e
    rw [World.cell?_setCell_same _ _ _ (h.2 k hj).1]
    simp [List.getD_eq_getElem?_getD, hj]
  · rw [World.cell?_setCell_other _ _ _ _ (by first | (simp; done) | (simp; omega)), (h.2 j hj).1]
    simp [List.getD_eq_getElem?_getD, e]
theorem RowB.far {w : World} {g : Nat} {xs : List Int} (h : RowB w g xs) {p : Addr} (hp : p.block ≠ g) (v : Value) : RowB (w.setCell p v) g xs := by
  refine ⟨by simpa using h.1, fun j hj => ⟨?_, by rw [World.frozen?_setCell]; exact (h.2 j hj).2⟩⟩
  rw [World.cell?_setCell_other _ _ _ _ (fun e => hp (by rw [e])), (h.2 j hj).1]
theorem RowB.reads {w : World} {g : Nat} {xs : List Int} (h : RowB w g xs) (hl : xs.length ≤ 9223372036854775807) : ReadsInt w .u8 (some ⟨g, 0, none⟩) xs.length xs :=
  ⟨rfl, hl, fun _ => ⟨⟨g, 0, none⟩, rfl, fun j hj => by rw [add_plain]; simpa using (h.2 j hj).1⟩⟩
theorem old_cells8 {W w1 : World} (hb : Below W.heap.size W w1) : (∀ b o, b < W.heap.size → w1.cell? ⟨b, o, none⟩ = W.cell? ⟨b, o, none⟩) ∧ (∀ b o, b < W.heap.size → w1.frozen? ⟨b, o, none⟩ = W.frozen? ⟨b, o, none⟩) :=
  ⟨fun b o h => hb.cell (p := ⟨b, o, none⟩) h, fun b o h => hb.frozen (p := ⟨b, o, none⟩) h⟩
section
variable {P : Program} {ops : Array Oper} {rest : List Oper} {o : Oper} {a : Act} {Q : Exit → Act → World → Prop}
/-- []byte(s): a block of its bytes. -/
theorem E_bytes {W : World} (e : TypeId) (hgd : o.guard = none) (src dst : TypeId) (x : Operand) (ho : o.op = .convert src dst x) (s : ByteArray) (hx : a.eval x = .string s)
    (hs : P.underlying src = some .string) (ht : P.underlying dst = some (.slice e)) (he : P.underlying e = some (.int .u8))
    (h : ∀ g c w1, RowB w1 g (bytesOf s) → Below W.heap.size W w1 → W.heap.size ≤ g → s.size ≤ c → wpList P ops Q rest (a.put o.dst (.slice (some ⟨g, 0, none⟩) s.size c)) w1) : wpList P ops Q (o :: rest) a W := by
  have hr := Lib.run_convert_string_bytes (P := P) W src dst e s hs ht he
  have hsz : s.size ≤ (Lib.bytesCells W e s).size := by
    unfold Lib.bytesCells
    rw [Array.size_append, Array.size_map]
    exact Nat.le_add_right _ _
  refine Kd.event_run hgd (v := .slice (some ⟨W.heap.size, 0, none⟩) s.size (grownCap W s.size 0 e)) (w1 := Lib.bytesWorld W e s) ?_ (h _ _ _ ⟨by rw [Lib.bytesWorld_size]; omega, fun j hj => ⟨?_, ?_⟩⟩ ⟨rfl, rfl, rfl, by rw [Lib.bytesWorld_size]; omega, fun i hi => Lib.bytesWorld_at_old W e s i hi⟩ (Nat.le_refl _) (grownCap_ge W s.size 0 e))
  · simp [execOp, ho, hx, hr]
  · rw [bytesOf_length] at hj
    rw [Lib.bytesWorld_cell W e s j hj]
    have hjl : j < s.data.toList.length := by simpa using hj
    simp [bytesOf, List.getD_eq_getElem?_getD, hj]
  · rw [bytesOf_length] at hj
    simp [World.frozen?, Lib.bytesWorld_at_new]
    omega
/-- string(b) of such a block. -/
theorem E_str {W : World} (e : TypeId) (hgd : o.guard = none) (src dst : TypeId) (x : Operand) (ho : o.op = .convert src dst x) (g n c : Nat) (xs : List Int) (hn : xs.length = n) (hx : a.eval x = .slice (some ⟨g, 0, none⟩) n c)
    (hs : P.underlying src = some (.slice e)) (he : P.underlying e = some (.int .u8)) (hd : P.underlying dst = some .string) (HR : RowB W g xs) (hl : xs.length ≤ 9223372036854775807)
    (h : wpList P ops Q rest (a.put o.dst (.string (strOfNums xs))) W) : wpList P ops Q (o :: rest) a W := by
  subst hn
  refine Kd.event_run hgd (v := .string (strOfNums xs)) (w1 := W) ?_ h
  simp [execOp, ho, hx, string_of_reads hs he hd (HR.reads hl)]
end
end Go.Proofs.Ytcjkekdmmjfgeaa.More
