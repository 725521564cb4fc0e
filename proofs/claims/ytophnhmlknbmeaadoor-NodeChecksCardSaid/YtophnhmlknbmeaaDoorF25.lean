/- Written by a program of this session over the kit's print: YtophnhmlknbmeaaDoorF25. -/
import Derived.Test.YtophnhmlknbmeaaDoorH
import Derived.Lib.OthersKept
import Derived.Laws.RangeAny
import Derived.WalkLawsBesides
namespace Go.Proofs.YtophnhmlknbmeaaDoor.X
open Go.RowKit Go.Proofs.YtophnhmlknbmeaaDoorW.PrintWords Go.Proofs.YtophnhmlknbmeaaDoorW.PrintLast Go.Proofs.YtophnhmlknbmeaaDoorW.PrintMore Go.Proofs.YtophnhmlknbmeaaDoor.More
attribute [local go_sem] max2_int min2_int max_two min_two max_three min_three max_four min_four binOp_string_leq binOp_string_gtr   -- for this text's walks alone
set_option linter.unusedVariables false
set_option linter.unusedSimpArgs false

/-! ### path_Name: function 25 -/
/-- A sign that may stand in a name. -/
def okSign (c : Int) : Bool := (decide (97 ≤ c) && decide (c ≤ 122)) || (decide (48 ≤ c) && decide (c ≤ 57))
/-- Is a text a name? -/
def okName (s : ByteArray) : Bool := (bytesOf s).all okSign && (decide (1 ≤ s.size) && decide (s.size ≤ 12))
def path_Name.f (a0 : ByteArray) : Option Bool := some (okName a0)
theorem path_Name.bt_get (s : ByteArray) (pos : Nat) (h : pos < s.size) : bt s (pos : Int) = ((s[pos]'h).toNat : Int) := by
  simp [bt, h]
theorem path_Name.all_iff (s : ByteArray) : (bytesOf s).all okSign = true ↔ ∀ j : Nat, j < s.size → okSign (bt s (j : Int)) = true := by
  rw [List.all_eq_true]
  constructor
  · intro h j hj
    refine h _ ?_
    rw [path_Name.bt_get s j hj]
    unfold bytesOf
    refine List.mem_map.2 ⟨s[j], ?_, rfl⟩
    exact (List.mem_iff_getElem).2 ⟨j, by simpa using hj, rfl⟩
  · intro h x hx
    unfold bytesOf at hx
    obtain ⟨b, hb, rfl⟩ := List.mem_map.1 hx
    obtain ⟨j, hj, rfl⟩ := List.mem_iff_getElem.1 hb
    have hj' : j < s.size := by simpa using hj
    have := h j hj'
    rw [path_Name.bt_get s j hj'] at this
    exact this
theorem path_Name.bad (s : ByteArray) (pos : Nat) (h : pos < s.size) (hb : okSign (bt s (pos : Int)) = false) : okName s = false := by
  unfold okName
  rw [Bool.and_eq_false_iff]
  left
  rw [Bool.eq_false_iff]
  intro hall
  rw [(path_Name.all_iff s).1 hall pos h] at hb
  exact absurd hb (by simp)
theorem path_Name.good (s : ByteArray) (hall : ∀ j : Nat, j < s.size → okSign (bt s (j : Int)) = true) : okName s = (decide (1 ≤ s.size) && decide (s.size ≤ 12)) := by
  unfold okName
  rw [(path_Name.all_iff s).2 hall, Bool.true_and]
/-- What the loop asks of the rune at hand is what is asked of its byte. -/
theorem path_Name.rune (s : ByteArray) (pos : Nat) (h : pos < s.size) : okSign (((Utf8.decode s pos).1 : Nat) : Int) = okSign (bt s (pos : Int)) ∧ (okSign (bt s (pos : Int)) = true → (Utf8.decode s pos).2 = 1) := by
  rw [path_Name.bt_get s pos h]
  by_cases ha : (s[pos]'h).toNat < 128
  · rw [decode_ascii s pos h ha]
    exact ⟨rfl, fun _ => rfl⟩
  · have hd := (decode_high s pos h (by omega)).1
    have h1 : okSign (((Utf8.decode s pos).1 : Nat) : Int) = false := by unfold okSign; simp; omega
    have h2 : okSign (((s[pos]'h).toNat : Nat) : Int) = false := by unfold okSign; simp; omega
    rw [h1, h2]
    exact ⟨rfl, fun h3 => absurd h3 (by simp)⟩
set_option maxHeartbeats 4000000 in
set_option maxRecDepth 100000 in
theorem path_Name.calls (a0 : ByteArray) (r : Bool) (w : World) (h : path_Name.f a0 = some r) :
    Calls Tryd.prog 25 #[.string a0] w fun e w' => e = .returned (.bool r) ∧ Below w.heap.size w w' := by
  obtain rfl : okName a0 = r := Option.some.inj h
  clear h
  obtain ⟨b, hb⟩ : ∃ b, okName a0 = b := ⟨_, rfl⟩
  have HB : Aside0 (okName a0 = b) := ⟨hb⟩
  rw [hb]
  clear hb
  go_enter Tryd.func25, Tryd.ntmps25
  go_wp2
  go_loopw [] (fun wr => ∃ (pos : Nat), wr.heap[w.heap.size]? = some (.stringIter a0 pos) ∧ Below w.heap.size w wr ∧ Aside0 (∀ j : Nat, j < pos → j < a0.size → okSign (bt a0 (j : Int)) = true)) (fun wr => a0.size - wr.iterPos w.heap.size)
  case atStart =>
    refine ⟨0, ?_, (Below.refl _ w).alloc (Nat.le_refl _) _, ⟨fun j hj => absurd hj (by omega)⟩⟩
    exact World.iter_heap w a0 0
  case round =>
    obtain ⟨pos, hit, hbw, HP⟩ := hrel
    have hsz : w.heap.size < wr.heap.size := (Array.getElem?_eq_some_iff.1 hit).1
    by_cases hp : pos < a0.size
    · have hnx : ∀ ty, (Instr.next (.pointer (some ⟨w.heap.size, 0, none⟩)) true ty).run Tryd.prog wr = _ := fun ty => Lib.run_next_any_at wr w.heap.size a0 pos ty hit hp
      have hru := path_Name.rune a0 pos hp
      have hit2 := Lib.iterAt_heap wr w.heap.size a0 pos (pos + (Utf8.decode a0 pos).2) hit
      have hbw2 := Lib.below_iterAt hbw (k := w.heap.size) (by omega) a0 (pos + (Utf8.decode a0 pos).2)
      have hd1 := decode_le a0 pos
      cases hok : okSign (bt a0 (pos : Int)) with
      | false =>
        have hbad := path_Name.bad a0 pos hp hok
        obtain rfl : b = false := HB.out.symm.trans hbad
        have hu := hru.1.trans hok
        unfold okSign at hu
        have HX : Aside0 True := ⟨trivial⟩
        have t1 : ((((Utf8.decode a0 pos).1 : Nat) : Int) < 97 ∨ 122 < (((Utf8.decode a0 pos).1 : Nat) : Int)) ∧ ((((Utf8.decode a0 pos).1 : Nat) : Int) < 48 ∨ 57 < (((Utf8.decode a0 pos).1 : Nat) : Int)) := by
          simp at hu
          omega
        have HT := Aside0.mk t1
        have HIT := Aside0.mk hit
        have HIT2 := Aside0.mk hit2
        clear hu hru hbad t1 HB HP hit hit2 hok
        go_wp2
        all_goals first
          | (go_ret; exact ⟨rfl, hbw2⟩)
          | (exfalso; have := HT.out; omega)
      | true =>
        have hw := hru.2 hok
        have hu := hru.1.trans hok
        have t1 : (97 ≤ (((Utf8.decode a0 pos).1 : Nat) : Int) ∧ (((Utf8.decode a0 pos).1 : Nat) : Int) ≤ 122) ∨ (48 ≤ (((Utf8.decode a0 pos).1 : Nat) : Int) ∧ (((Utf8.decode a0 pos).1 : Nat) : Int) ≤ 57) := by
          unfold okSign at hu
          simp at hu
          omega
        have HT := Aside0.mk t1
        have HIT := Aside0.mk hit
        have HIT2 := Aside0.mk hit2
        have HW := Aside0.mk hw
        have HOK := Aside0.mk hok
        clear hu hru t1 hit hit2 hw hok
        go_wp2
        all_goals first
          | (exfalso; have := HT.out; omega)
          | (go_roundw
             case rel =>
              refine ⟨pos + (Utf8.decode a0 pos).2, HIT2.out, hbw2, ⟨fun j hj hs => ?_⟩⟩
              rw [HW.out] at hj
              rcases Nat.lt_or_ge j pos with h1 | h1
              · exact HP.out j h1 hs
              · obtain rfl : j = pos := by omega
                exact HOK.out
             case measure =>
              have e := HIT2.out
              rw [HW.out] at e
              simp only [World.iterPos, HW.out, HIT.out, e]
              omega)
    · have hnx : ∀ ty, (Instr.next (.pointer (some ⟨w.heap.size, 0, none⟩)) true ty).run Tryd.prog wr = _ := fun ty => Lib.run_next_end_at wr w.heap.size a0 pos ty hit hp
      have hg := path_Name.good a0 (fun j hj => HP.out j (by omega) hj)
      have hb2 : (decide (1 ≤ a0.size) && decide (a0.size ≤ 12)) = b := hg.symm.trans HB.out
      clear hg HB HP
      have HB2 := Aside0.mk hb2
      clear hb2
      by_cases h1 : 1 ≤ a0.size
      · by_cases h12 : a0.size ≤ 12
        · obtain rfl : true = b := by have := HB2.out; simpa [h1, h12] using this
          go_wp2
          go_ret
          refine ⟨?_, hbw⟩
          show Ending.returned (Value.bool (decide ((a0.size : Int) ≤ 12))) = _
          rw [decide_eq_true (by omega)]
        · obtain rfl : false = b := by have := HB2.out; simpa [h1, h12] using this
          go_wp2
          go_ret
          refine ⟨?_, hbw⟩
          show Ending.returned (Value.bool (decide ((a0.size : Int) ≤ 12))) = _
          rw [decide_eq_false (by omega)]
      · obtain rfl : false = b := by have := HB2.out; simpa [h1] using this
        go_wp2
        go_ret
        exact ⟨rfl, hbw⟩

end Go.Proofs.YtophnhmlknbmeaaDoor.X
