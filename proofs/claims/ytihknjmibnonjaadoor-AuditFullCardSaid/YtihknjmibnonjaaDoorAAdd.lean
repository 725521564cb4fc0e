/- (*Log).Add: an entry that may not be is refused, one beyond the room, too; else it is the last one of its label. -/
import Derived.Test.YtihknjmibnonjaaDoorALog
import Derived.Test.YtihknjmibnonjaaDoorF31
namespace Go.Proofs.YtihknjmibnonjaaDoor.X
open Go.RowKit Go.Proofs.YtihknjmibnonjaaDoorW.PrintWords Go.Proofs.YtihknjmibnonjaaDoorW.PrintLast Go.Proofs.YtihknjmibnonjaaDoorW.PrintMore Go.Proofs.YtihknjmibnonjaaDoor.More
set_option linter.unusedVariables false
set_option linter.unusedSimpArgs false
set_option maxRecDepth 100000
/-- May a label be? -/
def labOk (x : SL) : Prop := (0 ≤ x.f0 ∧ x.f0 ≤ 3) ∧ (0 ≤ x.f2 ∧ x.f2 ≤ 3) ∧ (0 ≤ x.f1 ∧ x.f1 ≤ 255) ∧ (0 ≤ x.f3 ∧ x.f3 ≤ 255)
instance (x : SL) : Decidable (labOk x) := by unfold labOk; infer_instance
theorem labOk.wf {x : SL} (h : labOk x) : okL x := by
  obtain ⟨h0, h2, h1, h3⟩ := h
  exact ⟨WalkArith.wf_i64 (by omega), WalkArith.wf_i64 (by omega), WalkArith.wf_i64 (by omega), WalkArith.wf_i64 (by omega)⟩
theorem level_f (a : Int) : label_level.f a = some (decide (0 ≤ a ∧ a ≤ 3)) := by
  unfold label_level.f
  by_cases h : a ≥ 0
  · rw [if_pos h]; simp [h]
  · rw [if_neg h]; simp [h]
theorem cats_f (a : Int) : label_cats.f a = some (decide (0 ≤ a ∧ a ≤ 255)) := by
  unfold label_cats.f
  by_cases h : a ≥ 0
  · rw [if_pos h]; simp [h]
  · rw [if_neg h]; simp [h]
theorem check_f (x : SL) : label_Check.f x.f0 x.f1 x.f2 x.f3 = some (if labOk x then 0 else 1) := by
  unfold label_Check.f
  rw [level_f, level_f, cats_f, cats_f]
  simp only [Option.bind_some, decide_eq_true_eq]
  by_cases h0 : 0 ≤ x.f0 ∧ x.f0 ≤ 3
  · by_cases h2 : 0 ≤ x.f2 ∧ x.f2 ≤ 3
    · by_cases h1 : 0 ≤ x.f1 ∧ x.f1 ≤ 255
      · by_cases h3 : 0 ≤ x.f3 ∧ x.f3 ≤ 255
        · rw [if_pos h0, if_pos h2, if_pos h1, if_pos h3, if_pos (show labOk x from ⟨h0, h2, h1, h3⟩)]
        · rw [if_pos h0, if_pos h2, if_pos h1, if_neg h3, if_neg (fun h : labOk x => h3 h.2.2.2)]
      · rw [if_pos h0, if_pos h2, if_neg h1, if_neg (fun h : labOk x => h1 h.2.2.1)]
    · rw [if_pos h0, if_neg h2, if_neg (fun h : labOk x => h2 h.2.1)]
  · rw [if_neg h0, if_neg (fun h : labOk x => h0 h.1)]
/-- May an entry be? -/
def mayE (e : SE) : Prop := labOk e.f1 ∧ ¬ e.f3 < 1 ∧ ¬ e.f3 > 14 ∧ ¬ (e.f2.size : Int) > 78 ∧ ¬ (e.f4.size : Int) > 78 ∧ ¬ e.f5 < 0 ∧ ¬ e.f5 > 255
instance (e : SE) : Decidable (mayE e) := by unfold mayE; infer_instance
def updR (rows : SL → List SE) (x : SL) (l : List SE) : SL → List SE := fun y => if y = x then l else rows y
/-- What has turned at most: the log's map, and its rows; else what was there is as it was. -/
structure LogStep (w w' : World) (mb : Nat) (hdr : SL → Value) : Prop where
  os : w'.os = w.os
  tape : w'.tape = w.tape
  output : w'.output = w.output
  size : w.heap.size ≤ w'.heap.size
  block : ∀ k, k < w.heap.size → k ≠ mb → okA hdr k → w'.heap[k]? = w.heap[k]?
def ev (e : SE) : Value := .agg #[.int .i64 e.f0, .int .i64 e.f1.f0, .int .i64 e.f1.f1, .int .i64 e.f1.f2, .int .i64 e.f1.f3, .string e.f2, .int .i64 e.f3, .string e.f4, .int .i64 e.f5]
theorem LogStep.of_below {w w' : World} (hb : Below w.heap.size w w') (mb : Nat) (hdr : SL → Value) : LogStep w w' mb hdr := ⟨hb.os, hb.tape, hb.output, hb.size, fun k hk _ _ => hb.block k hk⟩
/-- What was made before the log was, stands. -/
theorem LogStep.below {B : Nat} {w0 w w' : World} {lb mb n base : Nat} {hdr : SL → Value} {rows : SL → List SE} (h : Below B w0 w) (hB : B ≤ w.heap.size) (hL : LogIs w lb mb n base hdr rows) (s : LogStep w w' mb hdr) (hm : B ≤ mb) (hbase : B ≤ base) : Below B w0 w' :=
  ⟨s.os.trans h.os, s.tape.trans h.tape, s.output.trans h.output, Nat.le_trans h.size s.size, fun k hk => (s.block k (Nat.lt_of_lt_of_le hk hB) (by omega) (fun y hy e => by have := Kd.R_base (hL.row hy) _ e; omega)).trans (h.block k hk)⟩
theorem LogStep.row {w w' : World} {mb : Nat} {hdr : SL → Value} (s : LogStep w w' mb hdr) (hm : ∃ es c, w.heap[mb]? = some (.map es c)) {α : Type} {d : Kd α} {e base : Nat} {v : Value} {xs : List α} (hR : Kd.R d e w base (okA hdr) v xs) : Kd.R d e w' base (fun k => okA hdr k ∧ k < w.heap.size) v xs :=
  Kd.R_mono (Kd.R_move (Kd.R_bound hR) (fun k hk => by
    obtain ⟨ho, _, hlt, q, _, cells, hc⟩ := hk
    refine s.block k hlt (fun e => ?_) ho
    obtain ⟨es, c, hm⟩ := hm
    rw [e, hm] at hc
    cases hc)) (fun _ hk => ⟨hk.1, hk.2.2.1⟩)
theorem LogStep.blk {w w' : World} {lb mb n base : Nat} {hdr : SL → Value} {rows : SL → List SE} (s : LogStep w w' mb hdr) (hL : LogIs w lb mb n base hdr rows) {g : Nat} {cs : Array Value} {t : TypeId} (h : w.heap[g]? = some (.cells cs t (0, 0))) (ht : t ≠ 26) : w'.heap[g]? = some (.cells cs t (0, 0)) := by
  refine (s.block g (Array.getElem?_eq_some_iff.1 h).1 (fun e => ?_) (fun y hy e => ?_)).trans h
  · obtain ⟨es, c, hm⟩ := hL.isMap
    rw [← e, h] at hm
    cases hm
  · obtain ⟨cells, hc⟩ := Kd.R_typed (hL.row hy) g e
    rw [hc] at h
    injection h with h
    injection h with _ h
    exact ht h.symm
theorem LogStep.blkA {w w' : World} {lb mb n base : Nat} {hdr : SL → Value} {rows : SL → List SE} (s : LogStep w w' mb hdr) (hL : LogIs w lb mb n base hdr rows) {g : Nat} {cs : Array Value} {t : TypeId} (h : w.heap[g]? = some (.cells cs t (0, 0))) (ho : okA hdr g) : w'.heap[g]? = some (.cells cs t (0, 0)) := by
  refine (s.block g (Array.getElem?_eq_some_iff.1 h).1 (fun e => ?_) ho).trans h
  obtain ⟨es, c, hm⟩ := hL.isMap
  rw [← e, h] at hm
  cases hm
theorem reads_one {W : World} {g : Nat} {cs : List Value} (e : SE) (hcs : k26.K W e cs) (h : W.heap[g]? = some (.cells cs.toArray 26 (0, 0))) : ReadsRow (k26.K W) 9 W (some ⟨g, 0, none⟩) 1 [e] := by
  refine ⟨rfl, by omega, fun _ => ⟨_, rfl, fun j p hj => ?_⟩⟩
  match j, hj with
  | 0, hj =>
    simp only [List.getElem?_cons_zero, Option.some.injEq] at hj
    subst hj
    refine ⟨cs, k26.K_len hcs, hcs, fun i u hu => ?_⟩
    rw [add_plain, Nat.zero_mul, Nat.zero_add, blk_cell h]
    simpa using hu
  | j + 1, hj => simp at hj
section
variable {w : World} {lb mb n base : Nat} {hdr : SL → Value} {rows : SL → List SE}
/-- A label's row has a last one more: what the log is behind it. -/
theorem log_put {WA w1 w3 : World} (h : LogIs w lb mb n base hdr rows) {x : SL} (hx : okL x) (hA : w.grownBy WA (some mb)) {v1 : Value} {l : List SE} (hl : l ≠ [])
    (hR1 : RE w1 base (fun k => ∀ y, okL y → y ≠ x → (hdr y).ownBlock ≠ some k) v1 l) (hg1 : WA.grownBy w1 (hdr x).ownBlock) (hat : v1.ownBlock = (hdr x).ownBlock ∨ ∃ b, v1.ownBlock = some b ∧ WA.heap.size ≤ b)
    (hM : MapIs w3 mb (n + 1) (.slice none 0 0) (upd hdr x v1)) (hg3 : w1.grownBy w3 (some mb)) (hmA : ∃ es c, WA.heap[mb]? = some (.map es c)) :
    LogIs w3 lb mb (n + 1) base (upd hdr x v1) (updR rows x l) ∧ LogStep w w3 mb hdr ∧ ∀ k, k < w.heap.size → okA hdr k → okA (upd hdr x v1) k := by
  have hbn : ∀ y, okL y → ∀ k, (hdr y).ownBlock = some k → k < w.heap.size ∧ k ≠ mb := fun y hy k hk => ⟨Kd.R_lt (h.row hy) k hk, fun e => by
    obtain ⟨cells, hc⟩ := Kd.R_typed (h.row hy) k hk
    obtain ⟨es, c, hm⟩ := h.isMap
    rw [e, hm] at hc
    cases hc⟩
  have hstep : ∀ k, k < w.heap.size → k ≠ mb → (hdr x).ownBlock ≠ some k → w3.heap[k]? = w.heap[k]? := fun k hk h1 h2 => by
    have a1 := hA.block k hk (fun e => h1 (Option.some.inj e))
    have a2 := hg1.block k (Nat.lt_of_lt_of_le hk hA.size) (fun e => h2 e.symm)
    have a3 := hg3.block k (Nat.lt_of_lt_of_le (Nat.lt_of_lt_of_le hk hA.size) hg1.size) (fun e => h1 (Option.some.inj e))
    rw [a3, a2, a1]
  have hup : ∀ k, k < w.heap.size → okA hdr k → okA (upd hdr x v1) k := fun k hk ho y hy e => by
    unfold upd at e
    split at e
    · rcases hat with hat | ⟨b, hb, hlt⟩
      · exact ho x hx (hat ▸ e)
      · rw [hb] at e
        have := Option.some.inj e
        have := hA.size
        omega
    · exact ho y hy e
  refine ⟨⟨?_, hM, fun y hy => ?_⟩, ⟨hg3.os.trans (hg1.os.trans hA.os), hg3.tape.trans (hg1.tape.trans hA.tape), hg3.output.trans (hg1.output.trans hA.output), Nat.le_trans hA.size (Nat.le_trans hg1.size hg3.size), fun k hk h1 ho => hstep k hk h1 (ho x hx)⟩, hup⟩
  · have hlb := h.1
    refine (hstep lb (Array.getElem?_eq_some_iff.1 hlb).1 h.ne (fun e => ?_)).trans hlb
    obtain ⟨cells, hc⟩ := Kd.R_typed (h.row hx) lb e
    rw [hlb] at hc
    injection hc with hc
    injection hc with _ hc
    exact absurd hc (by decide)
  · by_cases hyx : y = x
    · subst hyx
      rw [show upd hdr y v1 y = v1 from upd_same _ _ _, show updR rows y l y = l from if_pos rfl]
      refine ⟨Kd.R_mono (Kd.R_move (Kd.R_bound hR1) (fun k hk => ?_)) (fun k hk z hz hzy e => ?_), fun e => absurd e hl⟩
      · obtain ⟨_, _, hlt, q, _, cells, hc⟩ := hk
        refine hg3.block k hlt (fun e => ?_)
        obtain ⟨es, c, hm⟩ := h.isMap
        have hm1 : ∃ es c, w1.heap[mb]? = some (.map es c) := by
          obtain ⟨es3, c3, hm3⟩ := hmA
          exact ⟨es3, c3, (hg1.block mb (Array.getElem?_eq_some_iff.1 hm3).1 (fun e => (hbn y hx mb e.symm).2 rfl)).trans hm3⟩
        obtain ⟨es1, c1, hm1⟩ := hm1
        rw [Option.some.inj e, hm1] at hc
        cases hc
      · rw [show upd hdr y v1 z = hdr z by simp [upd, hzy]] at e
        exact hk.1 z hz hzy e
    · rw [show upd hdr x v1 y = hdr y by simp [upd, hyx], show updR rows x l y = rows y by simp [updR, hyx]]
      refine ⟨Kd.R_mono (Kd.R_move (Kd.R_bound (h.2.2 y hy).1) (fun k hk => ?_)) (fun k hk z hz hzy e => ?_), (h.2.2 y hy).2⟩
      · obtain ⟨ho, _, hlt, q, _, cells, hc⟩ := hk
        refine hstep k hlt (fun e => ?_) (ho x hx (fun e => hyx e.symm))
        obtain ⟨es, c, hm⟩ := h.isMap
        rw [e, hm] at hc
        cases hc
      · unfold upd at e
        split at e
        · rename_i hzx
          rcases hat with hat | ⟨b, hb, hlt⟩
          · rw [hat] at e
            exact hk.1 x hx (fun e => hyx e.symm) e
          · rw [hb] at e
            have h1 := Option.some.inj e
            have h2 := hA.size
            have h3 := hk.2.2.1
            omega
        · exact hk.1 z hz hzy e
end
theorem log_Add_bad0 (lb : Nat) (w : World) (e : SE) (h0 : ¬ labOk e.f1) : Calls Tryd.prog 13 #[.pointer (some ⟨lb, 0, none⟩), ev e] w fun r w' => r = .returned (.int .i64 1) ∧ Below w.heap.size w w' := by
  have HCK : Aside0 (label_Check.f e.f1.f0 e.f1.f1 e.f1.f2 e.f1.f3 = some 1) := ⟨by rw [check_f, if_neg h0]⟩
  clear h0
  unfold ev
  go_enter Tryd.func13, Tryd.ntmps13
  go_wp2_with fail
  refine (label_Check.calls e.f1.f0 e.f1.f1 e.f1.f2 e.f1.f3 1 _ HCK.out).mono ?_
  rintro r w1 ⟨rfl, hb⟩
  have HB1 := Aside0.mk (below_step (below_alloc (Below.refl _ w) _) hb)
  have BE1 := Aside0.mk (blk_below (blk_new w (.cells #[.int .i64 e.f0, .int .i64 e.f1.f0, .int .i64 e.f1.f1, .int .i64 e.f1.f2, .int .i64 e.f1.f3, .string e.f2, .int .i64 e.f3, .string e.f4, .int .i64 e.f5] 26)) hb)
  clear hb
  have c0 : w1.cell? ⟨w.heap.size, 0, none⟩ = some (.int .i64 e.f0) := (blk_cell BE1.out 0).trans rfl
  have c1 : w1.cell? ⟨w.heap.size, 1, none⟩ = some (.int .i64 e.f1.f0) := (blk_cell BE1.out 1).trans rfl
  have c2 : w1.cell? ⟨w.heap.size, 2, none⟩ = some (.int .i64 e.f1.f1) := (blk_cell BE1.out 2).trans rfl
  have c3 : w1.cell? ⟨w.heap.size, 3, none⟩ = some (.int .i64 e.f1.f2) := (blk_cell BE1.out 3).trans rfl
  have c4 : w1.cell? ⟨w.heap.size, 4, none⟩ = some (.int .i64 e.f1.f3) := (blk_cell BE1.out 4).trans rfl
  have c5 : w1.cell? ⟨w.heap.size, 5, none⟩ = some (.string e.f2) := (blk_cell BE1.out 5).trans rfl
  have c6 : w1.cell? ⟨w.heap.size, 6, none⟩ = some (.int .i64 e.f3) := (blk_cell BE1.out 6).trans rfl
  have c7 : w1.cell? ⟨w.heap.size, 7, none⟩ = some (.string e.f4) := (blk_cell BE1.out 7).trans rfl
  have c8 : w1.cell? ⟨w.heap.size, 8, none⟩ = some (.int .i64 e.f5) := (blk_cell BE1.out 8).trans rfl
  go_wp2
  go_ret
  exact ⟨rfl, HB1.out⟩
theorem log_Add_bad1 (lb : Nat) (w : World) (e : SE) (h0 : labOk e.f1) (t1 : e.f3 < 1) : Calls Tryd.prog 13 #[.pointer (some ⟨lb, 0, none⟩), ev e] w fun r w' => r = .returned (.int .i64 1) ∧ Below w.heap.size w w' := by
  have HCK : Aside0 (label_Check.f e.f1.f0 e.f1.f1 e.f1.f2 e.f1.f3 = some 0) := ⟨by rw [check_f, if_pos h0]⟩
  have d0 : decide (e.f3 < 1) = true := decide_eq_true t1
  clear h0 t1
  unfold ev
  go_enter Tryd.func13, Tryd.ntmps13
  go_wp2_with fail
  refine (label_Check.calls e.f1.f0 e.f1.f1 e.f1.f2 e.f1.f3 0 _ HCK.out).mono ?_
  rintro r w1 ⟨rfl, hb⟩
  have HB1 := Aside0.mk (below_step (below_alloc (Below.refl _ w) _) hb)
  have BE1 := Aside0.mk (blk_below (blk_new w (.cells #[.int .i64 e.f0, .int .i64 e.f1.f0, .int .i64 e.f1.f1, .int .i64 e.f1.f2, .int .i64 e.f1.f3, .string e.f2, .int .i64 e.f3, .string e.f4, .int .i64 e.f5] 26)) hb)
  clear hb
  have c0 : w1.cell? ⟨w.heap.size, 0, none⟩ = some (.int .i64 e.f0) := (blk_cell BE1.out 0).trans rfl
  have c1 : w1.cell? ⟨w.heap.size, 1, none⟩ = some (.int .i64 e.f1.f0) := (blk_cell BE1.out 1).trans rfl
  have c2 : w1.cell? ⟨w.heap.size, 2, none⟩ = some (.int .i64 e.f1.f1) := (blk_cell BE1.out 2).trans rfl
  have c3 : w1.cell? ⟨w.heap.size, 3, none⟩ = some (.int .i64 e.f1.f2) := (blk_cell BE1.out 3).trans rfl
  have c4 : w1.cell? ⟨w.heap.size, 4, none⟩ = some (.int .i64 e.f1.f3) := (blk_cell BE1.out 4).trans rfl
  have c5 : w1.cell? ⟨w.heap.size, 5, none⟩ = some (.string e.f2) := (blk_cell BE1.out 5).trans rfl
  have c6 : w1.cell? ⟨w.heap.size, 6, none⟩ = some (.int .i64 e.f3) := (blk_cell BE1.out 6).trans rfl
  have c7 : w1.cell? ⟨w.heap.size, 7, none⟩ = some (.string e.f4) := (blk_cell BE1.out 7).trans rfl
  have c8 : w1.cell? ⟨w.heap.size, 8, none⟩ = some (.int .i64 e.f5) := (blk_cell BE1.out 8).trans rfl
  go_wp2
  go_ret
  exact ⟨rfl, HB1.out⟩
theorem log_Add_bad2 (lb : Nat) (w : World) (e : SE) (h0 : labOk e.f1) (t1 : ¬ e.f3 < 1) (t2 : e.f3 > 14) : Calls Tryd.prog 13 #[.pointer (some ⟨lb, 0, none⟩), ev e] w fun r w' => r = .returned (.int .i64 1) ∧ Below w.heap.size w w' := by
  have HCK : Aside0 (label_Check.f e.f1.f0 e.f1.f1 e.f1.f2 e.f1.f3 = some 0) := ⟨by rw [check_f, if_pos h0]⟩
  have d0 : decide (e.f3 < 1) = false := decide_eq_false t1
  have d1 : decide (e.f3 > 14) = true := decide_eq_true t2
  clear h0 t1 t2
  unfold ev
  go_enter Tryd.func13, Tryd.ntmps13
  go_wp2_with fail
  refine (label_Check.calls e.f1.f0 e.f1.f1 e.f1.f2 e.f1.f3 0 _ HCK.out).mono ?_
  rintro r w1 ⟨rfl, hb⟩
  have HB1 := Aside0.mk (below_step (below_alloc (Below.refl _ w) _) hb)
  have BE1 := Aside0.mk (blk_below (blk_new w (.cells #[.int .i64 e.f0, .int .i64 e.f1.f0, .int .i64 e.f1.f1, .int .i64 e.f1.f2, .int .i64 e.f1.f3, .string e.f2, .int .i64 e.f3, .string e.f4, .int .i64 e.f5] 26)) hb)
  clear hb
  have c0 : w1.cell? ⟨w.heap.size, 0, none⟩ = some (.int .i64 e.f0) := (blk_cell BE1.out 0).trans rfl
  have c1 : w1.cell? ⟨w.heap.size, 1, none⟩ = some (.int .i64 e.f1.f0) := (blk_cell BE1.out 1).trans rfl
  have c2 : w1.cell? ⟨w.heap.size, 2, none⟩ = some (.int .i64 e.f1.f1) := (blk_cell BE1.out 2).trans rfl
  have c3 : w1.cell? ⟨w.heap.size, 3, none⟩ = some (.int .i64 e.f1.f2) := (blk_cell BE1.out 3).trans rfl
  have c4 : w1.cell? ⟨w.heap.size, 4, none⟩ = some (.int .i64 e.f1.f3) := (blk_cell BE1.out 4).trans rfl
  have c5 : w1.cell? ⟨w.heap.size, 5, none⟩ = some (.string e.f2) := (blk_cell BE1.out 5).trans rfl
  have c6 : w1.cell? ⟨w.heap.size, 6, none⟩ = some (.int .i64 e.f3) := (blk_cell BE1.out 6).trans rfl
  have c7 : w1.cell? ⟨w.heap.size, 7, none⟩ = some (.string e.f4) := (blk_cell BE1.out 7).trans rfl
  have c8 : w1.cell? ⟨w.heap.size, 8, none⟩ = some (.int .i64 e.f5) := (blk_cell BE1.out 8).trans rfl
  go_wp2
  go_ret
  exact ⟨rfl, HB1.out⟩
theorem log_Add_bad3 (lb : Nat) (w : World) (e : SE) (h0 : labOk e.f1) (t1 : ¬ e.f3 < 1) (t2 : ¬ e.f3 > 14) (t3 : (e.f2.size : Int) > 78) : Calls Tryd.prog 13 #[.pointer (some ⟨lb, 0, none⟩), ev e] w fun r w' => r = .returned (.int .i64 1) ∧ Below w.heap.size w w' := by
  have HCK : Aside0 (label_Check.f e.f1.f0 e.f1.f1 e.f1.f2 e.f1.f3 = some 0) := ⟨by rw [check_f, if_pos h0]⟩
  have d0 : decide (e.f3 < 1) = false := decide_eq_false t1
  have d1 : decide (e.f3 > 14) = false := decide_eq_false t2
  have d2 : decide ((e.f2.size : Int) > 78) = true := decide_eq_true t3
  clear h0 t1 t2 t3
  unfold ev
  go_enter Tryd.func13, Tryd.ntmps13
  go_wp2_with fail
  refine (label_Check.calls e.f1.f0 e.f1.f1 e.f1.f2 e.f1.f3 0 _ HCK.out).mono ?_
  rintro r w1 ⟨rfl, hb⟩
  have HB1 := Aside0.mk (below_step (below_alloc (Below.refl _ w) _) hb)
  have BE1 := Aside0.mk (blk_below (blk_new w (.cells #[.int .i64 e.f0, .int .i64 e.f1.f0, .int .i64 e.f1.f1, .int .i64 e.f1.f2, .int .i64 e.f1.f3, .string e.f2, .int .i64 e.f3, .string e.f4, .int .i64 e.f5] 26)) hb)
  clear hb
  have c0 : w1.cell? ⟨w.heap.size, 0, none⟩ = some (.int .i64 e.f0) := (blk_cell BE1.out 0).trans rfl
  have c1 : w1.cell? ⟨w.heap.size, 1, none⟩ = some (.int .i64 e.f1.f0) := (blk_cell BE1.out 1).trans rfl
  have c2 : w1.cell? ⟨w.heap.size, 2, none⟩ = some (.int .i64 e.f1.f1) := (blk_cell BE1.out 2).trans rfl
  have c3 : w1.cell? ⟨w.heap.size, 3, none⟩ = some (.int .i64 e.f1.f2) := (blk_cell BE1.out 3).trans rfl
  have c4 : w1.cell? ⟨w.heap.size, 4, none⟩ = some (.int .i64 e.f1.f3) := (blk_cell BE1.out 4).trans rfl
  have c5 : w1.cell? ⟨w.heap.size, 5, none⟩ = some (.string e.f2) := (blk_cell BE1.out 5).trans rfl
  have c6 : w1.cell? ⟨w.heap.size, 6, none⟩ = some (.int .i64 e.f3) := (blk_cell BE1.out 6).trans rfl
  have c7 : w1.cell? ⟨w.heap.size, 7, none⟩ = some (.string e.f4) := (blk_cell BE1.out 7).trans rfl
  have c8 : w1.cell? ⟨w.heap.size, 8, none⟩ = some (.int .i64 e.f5) := (blk_cell BE1.out 8).trans rfl
  go_wp2
  go_ret
  exact ⟨rfl, HB1.out⟩
theorem log_Add_bad4 (lb : Nat) (w : World) (e : SE) (h0 : labOk e.f1) (t1 : ¬ e.f3 < 1) (t2 : ¬ e.f3 > 14) (t3 : ¬ (e.f2.size : Int) > 78) (t4 : (e.f4.size : Int) > 78) : Calls Tryd.prog 13 #[.pointer (some ⟨lb, 0, none⟩), ev e] w fun r w' => r = .returned (.int .i64 1) ∧ Below w.heap.size w w' := by
  have HCK : Aside0 (label_Check.f e.f1.f0 e.f1.f1 e.f1.f2 e.f1.f3 = some 0) := ⟨by rw [check_f, if_pos h0]⟩
  have d0 : decide (e.f3 < 1) = false := decide_eq_false t1
  have d1 : decide (e.f3 > 14) = false := decide_eq_false t2
  have d2 : decide ((e.f2.size : Int) > 78) = false := decide_eq_false t3
  have d3 : decide ((e.f4.size : Int) > 78) = true := decide_eq_true t4
  clear h0 t1 t2 t3 t4
  unfold ev
  go_enter Tryd.func13, Tryd.ntmps13
  go_wp2_with fail
  refine (label_Check.calls e.f1.f0 e.f1.f1 e.f1.f2 e.f1.f3 0 _ HCK.out).mono ?_
  rintro r w1 ⟨rfl, hb⟩
  have HB1 := Aside0.mk (below_step (below_alloc (Below.refl _ w) _) hb)
  have BE1 := Aside0.mk (blk_below (blk_new w (.cells #[.int .i64 e.f0, .int .i64 e.f1.f0, .int .i64 e.f1.f1, .int .i64 e.f1.f2, .int .i64 e.f1.f3, .string e.f2, .int .i64 e.f3, .string e.f4, .int .i64 e.f5] 26)) hb)
  clear hb
  have c0 : w1.cell? ⟨w.heap.size, 0, none⟩ = some (.int .i64 e.f0) := (blk_cell BE1.out 0).trans rfl
  have c1 : w1.cell? ⟨w.heap.size, 1, none⟩ = some (.int .i64 e.f1.f0) := (blk_cell BE1.out 1).trans rfl
  have c2 : w1.cell? ⟨w.heap.size, 2, none⟩ = some (.int .i64 e.f1.f1) := (blk_cell BE1.out 2).trans rfl
  have c3 : w1.cell? ⟨w.heap.size, 3, none⟩ = some (.int .i64 e.f1.f2) := (blk_cell BE1.out 3).trans rfl
  have c4 : w1.cell? ⟨w.heap.size, 4, none⟩ = some (.int .i64 e.f1.f3) := (blk_cell BE1.out 4).trans rfl
  have c5 : w1.cell? ⟨w.heap.size, 5, none⟩ = some (.string e.f2) := (blk_cell BE1.out 5).trans rfl
  have c6 : w1.cell? ⟨w.heap.size, 6, none⟩ = some (.int .i64 e.f3) := (blk_cell BE1.out 6).trans rfl
  have c7 : w1.cell? ⟨w.heap.size, 7, none⟩ = some (.string e.f4) := (blk_cell BE1.out 7).trans rfl
  have c8 : w1.cell? ⟨w.heap.size, 8, none⟩ = some (.int .i64 e.f5) := (blk_cell BE1.out 8).trans rfl
  go_wp2
  go_ret
  exact ⟨rfl, HB1.out⟩
theorem log_Add_bad5 (lb : Nat) (w : World) (e : SE) (h0 : labOk e.f1) (t1 : ¬ e.f3 < 1) (t2 : ¬ e.f3 > 14) (t3 : ¬ (e.f2.size : Int) > 78) (t4 : ¬ (e.f4.size : Int) > 78) (t5 : e.f5 < 0) : Calls Tryd.prog 13 #[.pointer (some ⟨lb, 0, none⟩), ev e] w fun r w' => r = .returned (.int .i64 1) ∧ Below w.heap.size w w' := by
  have HCK : Aside0 (label_Check.f e.f1.f0 e.f1.f1 e.f1.f2 e.f1.f3 = some 0) := ⟨by rw [check_f, if_pos h0]⟩
  have d0 : decide (e.f3 < 1) = false := decide_eq_false t1
  have d1 : decide (e.f3 > 14) = false := decide_eq_false t2
  have d2 : decide ((e.f2.size : Int) > 78) = false := decide_eq_false t3
  have d3 : decide ((e.f4.size : Int) > 78) = false := decide_eq_false t4
  have d4 : decide (e.f5 < 0) = true := decide_eq_true t5
  clear h0 t1 t2 t3 t4 t5
  unfold ev
  go_enter Tryd.func13, Tryd.ntmps13
  go_wp2_with fail
  refine (label_Check.calls e.f1.f0 e.f1.f1 e.f1.f2 e.f1.f3 0 _ HCK.out).mono ?_
  rintro r w1 ⟨rfl, hb⟩
  have HB1 := Aside0.mk (below_step (below_alloc (Below.refl _ w) _) hb)
  have BE1 := Aside0.mk (blk_below (blk_new w (.cells #[.int .i64 e.f0, .int .i64 e.f1.f0, .int .i64 e.f1.f1, .int .i64 e.f1.f2, .int .i64 e.f1.f3, .string e.f2, .int .i64 e.f3, .string e.f4, .int .i64 e.f5] 26)) hb)
  clear hb
  have c0 : w1.cell? ⟨w.heap.size, 0, none⟩ = some (.int .i64 e.f0) := (blk_cell BE1.out 0).trans rfl
  have c1 : w1.cell? ⟨w.heap.size, 1, none⟩ = some (.int .i64 e.f1.f0) := (blk_cell BE1.out 1).trans rfl
  have c2 : w1.cell? ⟨w.heap.size, 2, none⟩ = some (.int .i64 e.f1.f1) := (blk_cell BE1.out 2).trans rfl
  have c3 : w1.cell? ⟨w.heap.size, 3, none⟩ = some (.int .i64 e.f1.f2) := (blk_cell BE1.out 3).trans rfl
  have c4 : w1.cell? ⟨w.heap.size, 4, none⟩ = some (.int .i64 e.f1.f3) := (blk_cell BE1.out 4).trans rfl
  have c5 : w1.cell? ⟨w.heap.size, 5, none⟩ = some (.string e.f2) := (blk_cell BE1.out 5).trans rfl
  have c6 : w1.cell? ⟨w.heap.size, 6, none⟩ = some (.int .i64 e.f3) := (blk_cell BE1.out 6).trans rfl
  have c7 : w1.cell? ⟨w.heap.size, 7, none⟩ = some (.string e.f4) := (blk_cell BE1.out 7).trans rfl
  have c8 : w1.cell? ⟨w.heap.size, 8, none⟩ = some (.int .i64 e.f5) := (blk_cell BE1.out 8).trans rfl
  go_wp2
  go_ret
  exact ⟨rfl, HB1.out⟩
theorem log_Add_bad6 (lb : Nat) (w : World) (e : SE) (h0 : labOk e.f1) (t1 : ¬ e.f3 < 1) (t2 : ¬ e.f3 > 14) (t3 : ¬ (e.f2.size : Int) > 78) (t4 : ¬ (e.f4.size : Int) > 78) (t5 : ¬ e.f5 < 0) (t6 : e.f5 > 255) : Calls Tryd.prog 13 #[.pointer (some ⟨lb, 0, none⟩), ev e] w fun r w' => r = .returned (.int .i64 1) ∧ Below w.heap.size w w' := by
  have HCK : Aside0 (label_Check.f e.f1.f0 e.f1.f1 e.f1.f2 e.f1.f3 = some 0) := ⟨by rw [check_f, if_pos h0]⟩
  have d0 : decide (e.f3 < 1) = false := decide_eq_false t1
  have d1 : decide (e.f3 > 14) = false := decide_eq_false t2
  have d2 : decide ((e.f2.size : Int) > 78) = false := decide_eq_false t3
  have d3 : decide ((e.f4.size : Int) > 78) = false := decide_eq_false t4
  have d4 : decide (e.f5 < 0) = false := decide_eq_false t5
  have d5 : decide (e.f5 > 255) = true := decide_eq_true t6
  clear h0 t1 t2 t3 t4 t5 t6
  unfold ev
  go_enter Tryd.func13, Tryd.ntmps13
  go_wp2_with fail
  refine (label_Check.calls e.f1.f0 e.f1.f1 e.f1.f2 e.f1.f3 0 _ HCK.out).mono ?_
  rintro r w1 ⟨rfl, hb⟩
  have HB1 := Aside0.mk (below_step (below_alloc (Below.refl _ w) _) hb)
  have BE1 := Aside0.mk (blk_below (blk_new w (.cells #[.int .i64 e.f0, .int .i64 e.f1.f0, .int .i64 e.f1.f1, .int .i64 e.f1.f2, .int .i64 e.f1.f3, .string e.f2, .int .i64 e.f3, .string e.f4, .int .i64 e.f5] 26)) hb)
  clear hb
  have c0 : w1.cell? ⟨w.heap.size, 0, none⟩ = some (.int .i64 e.f0) := (blk_cell BE1.out 0).trans rfl
  have c1 : w1.cell? ⟨w.heap.size, 1, none⟩ = some (.int .i64 e.f1.f0) := (blk_cell BE1.out 1).trans rfl
  have c2 : w1.cell? ⟨w.heap.size, 2, none⟩ = some (.int .i64 e.f1.f1) := (blk_cell BE1.out 2).trans rfl
  have c3 : w1.cell? ⟨w.heap.size, 3, none⟩ = some (.int .i64 e.f1.f2) := (blk_cell BE1.out 3).trans rfl
  have c4 : w1.cell? ⟨w.heap.size, 4, none⟩ = some (.int .i64 e.f1.f3) := (blk_cell BE1.out 4).trans rfl
  have c5 : w1.cell? ⟨w.heap.size, 5, none⟩ = some (.string e.f2) := (blk_cell BE1.out 5).trans rfl
  have c6 : w1.cell? ⟨w.heap.size, 6, none⟩ = some (.int .i64 e.f3) := (blk_cell BE1.out 6).trans rfl
  have c7 : w1.cell? ⟨w.heap.size, 7, none⟩ = some (.string e.f4) := (blk_cell BE1.out 7).trans rfl
  have c8 : w1.cell? ⟨w.heap.size, 8, none⟩ = some (.int .i64 e.f5) := (blk_cell BE1.out 8).trans rfl
  go_wp2
  go_ret
  exact ⟨rfl, HB1.out⟩
theorem log_Add_bad (lb : Nat) (w : World) (e : SE) (h : ¬ mayE e) : Calls Tryd.prog 13 #[.pointer (some ⟨lb, 0, none⟩), ev e] w fun r w' => r = .returned (.int .i64 1) ∧ Below w.heap.size w w' := by
  by_cases h0 : labOk e.f1
  · by_cases t1 : e.f3 < 1
    · exact log_Add_bad1 lb w e h0 t1
    · by_cases t2 : e.f3 > 14
      · exact log_Add_bad2 lb w e h0 t1 t2
      · by_cases t3 : (e.f2.size : Int) > 78
        · exact log_Add_bad3 lb w e h0 t1 t2 t3
        · by_cases t4 : (e.f4.size : Int) > 78
          · exact log_Add_bad4 lb w e h0 t1 t2 t3 t4
          · by_cases t5 : e.f5 < 0
            · exact log_Add_bad5 lb w e h0 t1 t2 t3 t4 t5
            · by_cases t6 : e.f5 > 255
              · exact log_Add_bad6 lb w e h0 t1 t2 t3 t4 t5 t6
              · exact absurd ⟨h0, t1, t2, t3, t4, t5, t6⟩ h
  · exact log_Add_bad0 lb w e h0
theorem log_Add_full {w : World} {lb mb n base : Nat} {hdr : SL → Value} {rows : SL → List SE} (h : LogIs w lb mb n base hdr rows) (e : SE) (hm : mayE e) (hf : 40 ≤ (rows e.f1).length) : Calls Tryd.prog 13 #[.pointer (some ⟨lb, 0, none⟩), ev e] w fun r w' => r = .returned (.int .i64 18) ∧ Below w.heap.size w w' := by
  have hf2 : decide ((40 : Int) ≤ (rows e.f1).length) = true := decide_eq_true (by omega)
  obtain ⟨h0, t1, t2, t3, t4, t5, t6⟩ := hm
  have HCK : Aside0 (label_Check.f e.f1.f0 e.f1.f1 e.f1.f2 e.f1.f3 = some 0) := ⟨by rw [check_f, if_pos h0]⟩
  have HX := Aside0.mk h0.wf
  have d0 : decide (e.f3 < 1) = false := decide_eq_false t1
  have d1 : decide (e.f3 > 14) = false := decide_eq_false t2
  have d2 : decide ((e.f2.size : Int) > 78) = false := decide_eq_false t3
  have d3 : decide ((e.f4.size : Int) > 78) = false := decide_eq_false t4
  have d4 : decide (e.f5 < 0) = false := decide_eq_false t5
  have d5 : decide (e.f5 > 255) = false := decide_eq_false t6
  have H := Aside0.mk h
  clear h0 t1 t2 t3 t4 t5 t6 h
  unfold ev
  go_enter Tryd.func13, Tryd.ntmps13
  go_wp2_with fail
  refine (label_Check.calls e.f1.f0 e.f1.f1 e.f1.f2 e.f1.f3 0 _ HCK.out).mono ?_
  rintro r w1 ⟨rfl, hb⟩
  have HB1 := Aside0.mk (below_step (below_alloc (Below.refl _ w) _) hb)
  have BE1 := Aside0.mk (blk_below (blk_new w (.cells #[.int .i64 e.f0, .int .i64 e.f1.f0, .int .i64 e.f1.f1, .int .i64 e.f1.f2, .int .i64 e.f1.f3, .string e.f2, .int .i64 e.f3, .string e.f4, .int .i64 e.f5] 26)) hb)
  clear hb
  have c0 : w1.cell? ⟨w.heap.size, 0, none⟩ = some (.int .i64 e.f0) := (blk_cell BE1.out 0).trans rfl
  have c1 : w1.cell? ⟨w.heap.size, 1, none⟩ = some (.int .i64 e.f1.f0) := (blk_cell BE1.out 1).trans rfl
  have c2 : w1.cell? ⟨w.heap.size, 2, none⟩ = some (.int .i64 e.f1.f1) := (blk_cell BE1.out 2).trans rfl
  have c3 : w1.cell? ⟨w.heap.size, 3, none⟩ = some (.int .i64 e.f1.f2) := (blk_cell BE1.out 3).trans rfl
  have c4 : w1.cell? ⟨w.heap.size, 4, none⟩ = some (.int .i64 e.f1.f3) := (blk_cell BE1.out 4).trans rfl
  have c5 : w1.cell? ⟨w.heap.size, 5, none⟩ = some (.string e.f2) := (blk_cell BE1.out 5).trans rfl
  have c6 : w1.cell? ⟨w.heap.size, 6, none⟩ = some (.int .i64 e.f3) := (blk_cell BE1.out 6).trans rfl
  have c7 : w1.cell? ⟨w.heap.size, 7, none⟩ = some (.string e.f4) := (blk_cell BE1.out 7).trans rfl
  have c8 : w1.cell? ⟨w.heap.size, 8, none⟩ = some (.int .i64 e.f5) := (blk_cell BE1.out 8).trans rfl
  go_wp2_with fail
  refine (log_Full.calls (LogIs.below H.out HB1.out) HX.out).mono ?_
  rintro r w2 ⟨rfl, hb⟩
  have HB2 := Aside0.mk (below_step HB1.out hb)
  have BE2 := Aside0.mk (blk_below BE1.out hb)
  clear hb HB1 BE1 c0 c1 c2 c3 c4 c5 c6 c7 c8
  rw [hf2]
  clear hf2 hf
  go_wp2
  go_ret
  exact ⟨rfl, HB2.out⟩
def log_Add.T5 : Bool × List (List Nat × List Nat) := (true, [([], []), ([0], [0]), ([1], [1]), ([2], [2]), ([], []), ([4], [4]), ([3, 5], [3, 5]), ([6], [6]), ([7], [7]), ([0, 1, 2, 3, 4, 5, 6, 7, 8], []), ([9, 8, 0, 1, 2, 3, 4, 5, 6, 7, 8], [8, 9])])
def log_Add.B5 : List Nat := [0, 1, 3, 7, 0, 16, 63, 127, 255, 511, 1023]
theorem log_Add.tab5 : rtab .any (opsOf Tryd.f13 5) = log_Add.T5 := by kernel_rfl
theorem log_Add.bits5 : waitsOk log_Add.T5.2 log_Add.B5 = true := by kernel_rfl
def log_Add.T6 : Bool × List (List Nat × List Nat) := (true, [([], []), ([0], [0]), ([1], [1]), ([2], [2]), ([], []), ([4], [4]), ([], []), ([6], [6]), ([3, 5, 0, 1, 2, 3, 4, 5, 6, 7], [3, 5]), ([8], [8]), ([9, 7, 8], [7, 9]), ([8], [8]), ([3, 11, 10, 10, 0, 1, 2, 3, 4, 5, 6, 7, 8, 9, 10, 11], [3, 10, 11])])
def log_Add.B6 : List Nat := [0, 1, 3, 7, 0, 16, 0, 64, 255, 511, 1023, 511, 4095]
theorem log_Add.tab6 : rtab .any (opsOf Tryd.f13 6) = log_Add.T6 := by kernel_rfl
theorem log_Add.bits6 : waitsOk log_Add.T6.2 log_Add.B6 = true := by kernel_rfl
set_option maxHeartbeats 8000000 in
theorem log_Add_ok {w : World} {lb mb n base : Nat} {hdr : SL → Value} {rows : SL → List SE} (h : LogIs w lb mb n base hdr rows) (e : SE) (hm : mayE e) (hf : (rows e.f1).length < 40) (hn : n < maxLen) (hbase : base ≤ w.heap.size) :
    Calls Tryd.prog 13 #[.pointer (some ⟨lb, 0, none⟩), ev e] w fun r w' => r = .returned (.int .i64 0) ∧ ∃ hdr' : SL → Value, LogIs w' lb mb (n + 1) base hdr' (updR rows e.f1 (rows e.f1 ++ [(⟨((rows e.f1).length : Int) + 1, e.f1, e.f2, e.f3, e.f4, e.f5⟩ : SE)])) ∧ LogStep w w' mb hdr ∧ ∀ k, k < w.heap.size → okA hdr k → okA hdr' k := by
  obtain ⟨N, hN⟩ : ∃ N, (rows e.f1).length = N := ⟨_, rfl⟩
  rw [hN] at hf ⊢
  have HN := Aside0.mk hN
  have HNL := Aside0.mk hf
  have hf2 : decide ((40 : Int) ≤ (N : Int)) = false := decide_eq_false (by omega)
  clear hf hN
  have HBASE := Aside0.mk hbase
  have HNN := Aside0.mk hn
  obtain ⟨h0, t1, t2, t3, t4, t5, t6⟩ := hm
  have HCK : Aside0 (label_Check.f e.f1.f0 e.f1.f1 e.f1.f2 e.f1.f3 = some 0) := ⟨by rw [check_f, if_pos h0]⟩
  have HX := Aside0.mk h0.wf
  have d0 : decide (e.f3 < 1) = false := decide_eq_false t1
  have d1 : decide (e.f3 > 14) = false := decide_eq_false t2
  have d2 : decide ((e.f2.size : Int) > 78) = false := decide_eq_false t3
  have d3 : decide ((e.f4.size : Int) > 78) = false := decide_eq_false t4
  have d4 : decide (e.f5 < 0) = false := decide_eq_false t5
  have d5 : decide (e.f5 > 255) = false := decide_eq_false t6
  have H := Aside0.mk h
  clear h0 t1 t2 t3 t4 t5 t6 h
  unfold ev
  go_enter Tryd.func13, Tryd.ntmps13
  go_wp2_with fail
  refine (label_Check.calls e.f1.f0 e.f1.f1 e.f1.f2 e.f1.f3 0 _ HCK.out).mono ?_
  rintro r w1 ⟨rfl, hb⟩
  have HB1 := Aside0.mk (below_step (below_alloc (Below.refl _ w) _) hb)
  have BE1 := Aside0.mk (blk_below (blk_new w (.cells #[.int .i64 e.f0, .int .i64 e.f1.f0, .int .i64 e.f1.f1, .int .i64 e.f1.f2, .int .i64 e.f1.f3, .string e.f2, .int .i64 e.f3, .string e.f4, .int .i64 e.f5] 26)) hb)
  clear hb
  have c0 : w1.cell? ⟨w.heap.size, 0, none⟩ = some (.int .i64 e.f0) := (blk_cell BE1.out 0).trans rfl
  have c1 : w1.cell? ⟨w.heap.size, 1, none⟩ = some (.int .i64 e.f1.f0) := (blk_cell BE1.out 1).trans rfl
  have c2 : w1.cell? ⟨w.heap.size, 2, none⟩ = some (.int .i64 e.f1.f1) := (blk_cell BE1.out 2).trans rfl
  have c3 : w1.cell? ⟨w.heap.size, 3, none⟩ = some (.int .i64 e.f1.f2) := (blk_cell BE1.out 3).trans rfl
  have c4 : w1.cell? ⟨w.heap.size, 4, none⟩ = some (.int .i64 e.f1.f3) := (blk_cell BE1.out 4).trans rfl
  have c5 : w1.cell? ⟨w.heap.size, 5, none⟩ = some (.string e.f2) := (blk_cell BE1.out 5).trans rfl
  have c6 : w1.cell? ⟨w.heap.size, 6, none⟩ = some (.int .i64 e.f3) := (blk_cell BE1.out 6).trans rfl
  have c7 : w1.cell? ⟨w.heap.size, 7, none⟩ = some (.string e.f4) := (blk_cell BE1.out 7).trans rfl
  have c8 : w1.cell? ⟨w.heap.size, 8, none⟩ = some (.int .i64 e.f5) := (blk_cell BE1.out 8).trans rfl
  go_wp2_with fail
  refine (log_Full.calls (LogIs.below H.out HB1.out) HX.out).mono ?_
  rintro r w2 ⟨rfl, hb⟩
  have HB2 := Aside0.mk (below_step HB1.out hb)
  have BE2 := Aside0.mk (blk_below BE1.out hb)
  clear hb HB1 BE1 c0 c1 c2 c3 c4 c5 c6 c7 c8
  rw [HN.out, hf2]
  clear hf2
  obtain ⟨A, c, hsh⟩ := H.out.shape HX.out
  have HLK : Aside0 (∀ W, Below w.heap.size w W → (Instr.lookup 56 (.map (some mb)) (.agg #[.int .i64 e.f1.f0, .int .i64 e.f1.f1, .int .i64 e.f1.f2, .int .i64 e.f1.f3]) false).run Tryd.prog W = .ok (.slice A (rows e.f1).length c) W) := ⟨fun W hb => by
    have h1 := look_run (h := (H.out.below hb).2.1) HX.out Tryd.underlying56 zeroSl
    rw [hsh] at h1
    exact h1⟩
  have HSH := Aside0.mk hsh
  clear hsh
  rw [HN.out] at HLK HSH
  have ew : wrap64 ((N : Int) + 1) = (N : Int) + 1 := by have := HNL.out; unfold wrap64; omega
  go_wp2_with fail
  have HBd := Aside0.mk (below_drew1 HB2.out)
  have BEd := Aside0.mk (blk_drew BE2.out)
  refine start_ (n := 11) (S := fun w' => w'.cell? ⟨w.heap.size, 1, none⟩ = some (.int .i64 e.f1.f0) ∧ w'.cell? ⟨w.heap.size, 2, none⟩ = some (.int .i64 e.f1.f1) ∧ w'.cell? ⟨w.heap.size, 3, none⟩ = some (.int .i64 e.f1.f2) ∧ w'.cell? ⟨w.heap.size, 4, none⟩ = some (.int .i64 e.f1.f3) ∧ w'.cell? ⟨lb, 0, none⟩ = some (.map (some mb)) ∧ (Instr.lookup 56 (.map (some mb)) (.agg #[.int .i64 e.f1.f0, .int .i64 e.f1.f1, .int .i64 e.f1.f2, .int .i64 e.f1.f3]) false).run Tryd.prog w' = .ok (.slice A N c) w') (ds := []) #[false, false, false, false, false, false, false, false, false, false, false] (by kernel_rfl) rfl rfl ⟨(blk_cell BEd.out 1).trans rfl, (blk_cell BEd.out 2).trans rfl, (blk_cell BEd.out 3).trans rfl, (blk_cell BEd.out 4).trans rfl, (blk_cell (H.out.below HBd.out).1 0).trans rfl, HLK.out _ HBd.out⟩ (fun hHeld => ?_)
  refine with_tabW log_Add.tab5 log_Add.bits5 (fun HT_ HW_ => ?_)
  generalize World.drew _ = wd at HBd BEd hHeld ⊢
  refine pure_ (i := 0) (N := some 47) (v := ?_) (a' := ?_) #[true, false, false, false, false, false, false, false, false, false, false] rfl rfl (any_of HT_.out (by kernel_rfl)) (fun _ _ _ h => h) (Or.inl ⟨by rfl, ?_⟩) ?_ ?_
  rotate_left
  · intro w'
    go_simp
    with_reducible rfl
  rotate_left
  · simp only [Act.put, List.setIfInBounds_toArray, List.set_cons_zero, List.set_cons_succ, i64_w, i32_w]
    rfl
  refine pure_ (i := 1) (N := some 48) (v := ?_) (a' := ?_) #[true, true, false, false, false, false, false, false, false, false, false] rfl rfl (any_of HT_.out (by kernel_rfl)) (fun _ _ _ h => h) (Or.inl ⟨by rfl, ?_⟩) ?_ ?_
  rotate_left
  · intro w'
    go_simp
    with_reducible rfl
  rotate_left
  · simp only [Act.put, List.setIfInBounds_toArray, List.set_cons_zero, List.set_cons_succ, i64_w, i32_w]
    rfl
  refine pure_ (i := 2) (N := some 49) (v := ?_) (a' := ?_) #[true, true, true, false, false, false, false, false, false, false, false] rfl rfl (any_of HT_.out (by kernel_rfl)) (fun _ _ _ h => h) (Or.inl ⟨by rfl, ?_⟩) ?_ ?_
  rotate_left
  · intro w'
    go_simp
    with_reducible rfl
  rotate_left
  · simp only [Act.put, List.setIfInBounds_toArray, List.set_cons_zero, List.set_cons_succ, i64_w, i32_w]
    rfl
  refine pure_ (i := 4) (N := some 51) (v := ?_) (a' := ?_) #[true, true, true, false, true, false, false, false, false, false, false] rfl rfl (any_of HT_.out (by kernel_rfl)) (fun _ _ _ h => h) (Or.inl ⟨by rfl, ?_⟩) ?_ ?_
  rotate_left
  · intro w'
    go_simp
    with_reducible rfl
  rotate_left
  · simp only [Act.put, List.setIfInBounds_toArray, List.set_cons_zero, List.set_cons_succ, i64_w, i32_w]
    rfl
  refine take_ (i := 3) (N := some 50) (v := ?_) (a' := ?_) #[true, true, true, true, true, false, false, false, false, false, false] rfl rfl (take_ofW HT_.out HW_.out (by kernel_rfl)) (fun _ _ _ h => h) (Or.inl ⟨by rfl, ?_⟩) hHeld ?_ ?_
  rotate_left
  · rintro w' ⟨s0, s1, s2, s3, s4, s5⟩
    go_simp
    with_reducible rfl
  rotate_left
  · simp only [Act.put, List.setIfInBounds_toArray, List.set_cons_zero, List.set_cons_succ, i64_w, i32_w]
    rfl
  refine take_ (i := 5) (N := some 52) (v := ?_) (a' := ?_) #[true, true, true, true, true, true, false, false, false, false, false] rfl rfl (take_ofW HT_.out HW_.out (by kernel_rfl)) (fun _ _ _ h => h) (Or.inl ⟨by rfl, ?_⟩) hHeld ?_ ?_
  rotate_left
  · rintro w' ⟨s0, s1, s2, s3, s4, s5⟩
    go_simp
    with_reducible rfl
  rotate_left
  · simp only [Act.put, List.setIfInBounds_toArray, List.set_cons_zero, List.set_cons_succ, i64_w, i32_w]
    rfl
  refine take_ (i := 6) (N := some 53) (v := ?_) (a' := ?_) #[true, true, true, true, true, true, true, false, false, false, false] rfl rfl (take_ofW HT_.out HW_.out (by kernel_rfl)) (fun _ _ _ h => h) (Or.inl ⟨by rfl, ?_⟩) hHeld ?_ ?_
  rotate_left
  · rintro w' ⟨s0, s1, s2, s3, s4, s5⟩
    go_simp
    with_reducible rfl
  rotate_left
  · simp only [Act.put, List.setIfInBounds_toArray, List.set_cons_zero, List.set_cons_succ, i64_w, i32_w]
    rfl
  refine pure_ (i := 7) (N := some 54) (v := ?_) (a' := ?_) #[true, true, true, true, true, true, true, true, false, false, false] rfl rfl (any_of HT_.out (by kernel_rfl)) (fun _ _ _ h => h) (Or.inl ⟨by rfl, ?_⟩) ?_ ?_
  rotate_left
  · intro w'
    go_simp
    with_reducible rfl
  rotate_left
  · simp only [Act.put, List.setIfInBounds_toArray, List.set_cons_zero, List.set_cons_succ, i64_w, i32_w]
    rfl
  refine pure_ (i := 8) (N := some 55) (v := ?_) (a' := ?_) #[true, true, true, true, true, true, true, true, true, false, false] rfl rfl (any_of HT_.out (by kernel_rfl)) (fun _ _ _ h => h) (Or.inl ⟨by rfl, ?_⟩) ?_ ?_
  rotate_left
  · intro w'
    go_simp
    with_reducible rfl
  rotate_left
  · simp only [Act.put, List.setIfInBounds_toArray, List.set_cons_zero, List.set_cons_succ, i64_w, i32_w]
    rfl
  refine pure_ (i := 9) (N := some 56) (v := ?_) (a' := ?_) #[true, true, true, true, true, true, true, true, true, true, false] rfl rfl (any_of HT_.out (by kernel_rfl)) (fun _ _ _ h => h) (Or.inl ⟨by rfl, ?_⟩) ?_ ?_
  rotate_left
  · intro w'
    go_simp
    with_reducible rfl
  rotate_left
  · simp only [Act.put, List.setIfInBounds_toArray, List.set_cons_zero, List.set_cons_succ, i64_w, i32_w]
    rfl
  refine one_ (i := 10) (N := none) #[true, true, true, true, true, true, true, true, true, true, true] rfl rfl (one_of HT_.out (by kernel_rfl)) (by decide) (fun K hK => ?_)
  have q0 := (blk_cell BEd.out 0).trans rfl
  have z0 := blk_frozen BEd.out 0
  with_reducible refine skip_ (w1 := ?_) ?_ rfl ?_ ?_
  rotate_left
  · rfl
  · go_simp
    rfl
  clear q0 z0
  have BE3 : Aside0 ((wd.setCell ⟨w.heap.size, 0, none⟩ (.int .i64 ((N : Int) + 1))).heap[w.heap.size]? = some (.cells #[.int .i64 ((N : Int) + 1), .int .i64 e.f1.f0, .int .i64 e.f1.f1, .int .i64 e.f1.f2, .int .i64 e.f1.f3, .string e.f2, .int .i64 e.f3, .string e.f4, .int .i64 e.f5] 26 (0, 0))) := ⟨blk_put (cs := #[.int .i64 e.f0, .int .i64 e.f1.f0, .int .i64 e.f1.f1, .int .i64 e.f1.f2, .int .i64 e.f1.f3, .string e.f2, .int .i64 e.f3, .string e.f4, .int .i64 e.f5]) BEd.out 0 _ rfl⟩
  have HB3 := Aside0.mk (below_set (v := .int .i64 ((N : Int) + 1)) (j := 0) HBd.out (Nat.le_refl _))
  refine hK.out _ _ ⟨(blk_cell BE3.out 1).trans rfl, (blk_cell BE3.out 2).trans rfl, (blk_cell BE3.out 3).trans rfl, (blk_cell BE3.out 4).trans rfl, (blk_cell (H.out.below HB3.out).1 0).trans rfl, HLK.out _ HB3.out⟩ (fun hHeld => ?_)
  clear hK K
  refine done_ (done_of HT_.out (by kernel_rfl)) ?_
  try go_wp2_with fail
  clear HBd BEd
  generalize wd.setCell ⟨w.heap.size, 0, none⟩ (.int .i64 ((N : Int) + 1)) = w3 at BE3 HB3 hHeld ⊢
  clear hHeld HT_ HW_ ew
  have HBd := Aside0.mk (below_drew1 HB3.out)
  have BEd := Aside0.mk (blk_drew BE3.out)
  have HGd := Aside0.mk (grown_of_below HBd.out (some mb))
  have HMd : Aside0 (MapIs _ mb n (.slice none 0 0) hdr) := ⟨(H.out.below HBd.out).2.1⟩
  have BLd := Aside0.mk (H.out.below HBd.out).1
  clear HBd
  refine start_ (n := 13) (S := fun w' => w'.cell? ⟨w.heap.size, 0, none⟩ = some (.int .i64 ((N : Int) + 1)) ∧ w'.cell? ⟨w.heap.size, 1, none⟩ = some (.int .i64 e.f1.f0) ∧ w'.cell? ⟨w.heap.size, 2, none⟩ = some (.int .i64 e.f1.f1) ∧ w'.cell? ⟨w.heap.size, 3, none⟩ = some (.int .i64 e.f1.f2) ∧ w'.cell? ⟨w.heap.size, 4, none⟩ = some (.int .i64 e.f1.f3) ∧ w'.cell? ⟨w.heap.size, 5, none⟩ = some (.string e.f2) ∧ w'.cell? ⟨w.heap.size, 6, none⟩ = some (.int .i64 e.f3) ∧ w'.cell? ⟨w.heap.size, 7, none⟩ = some (.string e.f4) ∧ w'.cell? ⟨w.heap.size, 8, none⟩ = some (.int .i64 e.f5) ∧ w'.cell? ⟨lb, 0, none⟩ = some (.map (some mb))) (ds := []) #[false, false, false, false, false, false, false, false, false, false, false, false, false] (by kernel_rfl) rfl rfl ⟨(blk_cell BEd.out 0).trans rfl, (blk_cell BEd.out 1).trans rfl, (blk_cell BEd.out 2).trans rfl, (blk_cell BEd.out 3).trans rfl, (blk_cell BEd.out 4).trans rfl, (blk_cell BEd.out 5).trans rfl, (blk_cell BEd.out 6).trans rfl, (blk_cell BEd.out 7).trans rfl, (blk_cell BEd.out 8).trans rfl, (blk_cell BLd.out 0).trans rfl⟩ (fun hHeld => ?_)
  refine with_tabW log_Add.tab6 log_Add.bits6 (fun HT_ HW_ => ?_)
  generalize World.drew _ = wd at BEd HGd HMd BLd hHeld ⊢
  refine pure_ (i := 0) (N := some 57) (v := ?_) (a' := ?_) #[true, false, false, false, false, false, false, false, false, false, false, false, false] rfl rfl (any_of HT_.out (by kernel_rfl)) (fun _ _ _ h => h) (Or.inl ⟨by rfl, ?_⟩) ?_ ?_
  rotate_left
  · intro w'
    go_simp
    with_reducible rfl
  rotate_left
  · simp only [Act.put, List.setIfInBounds_toArray, List.set_cons_zero, List.set_cons_succ, i64_w, i32_w]
    rfl
  refine pure_ (i := 1) (N := some 58) (v := ?_) (a' := ?_) #[true, true, false, false, false, false, false, false, false, false, false, false, false] rfl rfl (any_of HT_.out (by kernel_rfl)) (fun _ _ _ h => h) (Or.inl ⟨by rfl, ?_⟩) ?_ ?_
  rotate_left
  · intro w'
    go_simp
    with_reducible rfl
  rotate_left
  · simp only [Act.put, List.setIfInBounds_toArray, List.set_cons_zero, List.set_cons_succ, i64_w, i32_w]
    rfl
  refine pure_ (i := 2) (N := some 59) (v := ?_) (a' := ?_) #[true, true, true, false, false, false, false, false, false, false, false, false, false] rfl rfl (any_of HT_.out (by kernel_rfl)) (fun _ _ _ h => h) (Or.inl ⟨by rfl, ?_⟩) ?_ ?_
  rotate_left
  · intro w'
    go_simp
    with_reducible rfl
  rotate_left
  · simp only [Act.put, List.setIfInBounds_toArray, List.set_cons_zero, List.set_cons_succ, i64_w, i32_w]
    rfl
  refine pure_ (i := 4) (N := some 61) (v := ?_) (a' := ?_) #[true, true, true, false, true, false, false, false, false, false, false, false, false] rfl rfl (any_of HT_.out (by kernel_rfl)) (fun _ _ _ h => h) (Or.inl ⟨by rfl, ?_⟩) ?_ ?_
  rotate_left
  · intro w'
    go_simp
    with_reducible rfl
  rotate_left
  · simp only [Act.put, List.setIfInBounds_toArray, List.set_cons_zero, List.set_cons_succ, i64_w, i32_w]
    rfl
  refine take_ (i := 3) (N := some 60) (v := ?_) (a' := ?_) #[true, true, true, true, true, false, false, false, false, false, false, false, false] rfl rfl (take_ofW HT_.out HW_.out (by kernel_rfl)) (fun _ _ _ h => h) (Or.inl ⟨by rfl, ?_⟩) hHeld ?_ ?_
  rotate_left
  · rintro w' ⟨s0, s1, s2, s3, s4, s5, s6, s7, s8, s9⟩
    go_simp
    with_reducible rfl
  rotate_left
  · simp only [Act.put, List.setIfInBounds_toArray, List.set_cons_zero, List.set_cons_succ, i64_w, i32_w]
    rfl
  refine take_ (i := 5) (N := some 62) (v := ?_) (a' := ?_) #[true, true, true, true, true, true, false, false, false, false, false, false, false] rfl rfl (take_ofW HT_.out HW_.out (by kernel_rfl)) (fun _ _ _ h => h) (Or.inl ⟨by rfl, ?_⟩) hHeld ?_ ?_
  rotate_left
  · rintro w' ⟨s0, s1, s2, s3, s4, s5, s6, s7, s8, s9⟩
    go_simp
    with_reducible rfl
  rotate_left
  · simp only [Act.put, List.setIfInBounds_toArray, List.set_cons_zero, List.set_cons_succ, i64_w, i32_w]
    rfl
  refine take_ (i := 6) (N := some 64) (v := ?_) (a' := ?_) #[true, true, true, true, true, true, true, false, false, false, false, false, false] rfl rfl (take_ofW HT_.out HW_.out (by kernel_rfl)) (fun _ _ _ h => h) (Or.inl ⟨by rfl, ?_⟩) hHeld ?_ ?_
  rotate_left
  · rintro w' ⟨s0, s1, s2, s3, s4, s5, s6, s7, s8, s9⟩
    go_simp
    with_reducible rfl
  rotate_left
  · simp only [Act.put, List.setIfInBounds_toArray, List.set_cons_zero, List.set_cons_succ, i64_w, i32_w]
    rfl
  refine one_ (i := 7) (N := some 65) #[true, true, true, true, true, true, true, true, false, false, false, false, false] rfl rfl (one_of HT_.out (by kernel_rfl)) (by decide) (fun K hK => ?_)
  refine value_ (v := .slice (some ⟨wd.heap.size, 0, none⟩) 1 1) (w1 := wd.alloc (.cells #[.int .i64 ((N : Int) + 1), .int .i64 e.f1.f0, .int .i64 e.f1.f1, .int .i64 e.f1.f2, .int .i64 e.f1.f3, .string e.f2, .int .i64 e.f3, .string e.f4, .int .i64 e.f5] 26)) (by rfl) rfl (by go_simp) ?_
  have BS_ := Aside0.mk (blk_new wd (.cells #[.int .i64 ((N : Int) + 1), .int .i64 e.f1.f0, .int .i64 e.f1.f1, .int .i64 e.f1.f2, .int .i64 e.f1.f3, .string e.f2, .int .i64 e.f3, .string e.f4, .int .i64 e.f5] 26))
  have BE_ := Aside0.mk (blk_alloc BEd.out (.cells #[.int .i64 ((N : Int) + 1), .int .i64 e.f1.f0, .int .i64 e.f1.f1, .int .i64 e.f1.f2, .int .i64 e.f1.f3, .string e.f2, .int .i64 e.f3, .string e.f4, .int .i64 e.f5] 26))
  have BL_ := Aside0.mk (blk_alloc BLd.out (.cells #[.int .i64 ((N : Int) + 1), .int .i64 e.f1.f0, .int .i64 e.f1.f1, .int .i64 e.f1.f2, .int .i64 e.f1.f3, .string e.f2, .int .i64 e.f3, .string e.f4, .int .i64 e.f5] 26))
  have HG_ := Aside0.mk (HGd.out.trans (World.grownBy_alloc wd (.cells #[.int .i64 ((N : Int) + 1), .int .i64 e.f1.f0, .int .i64 e.f1.f1, .int .i64 e.f1.f2, .int .i64 e.f1.f3, .string e.f2, .int .i64 e.f3, .string e.f4, .int .i64 e.f5] 26) (some mb)))
  have HM_ : Aside0 (MapIs (wd.alloc (.cells #[.int .i64 ((N : Int) + 1), .int .i64 e.f1.f0, .int .i64 e.f1.f1, .int .i64 e.f1.f2, .int .i64 e.f1.f3, .string e.f2, .int .i64 e.f3, .string e.f4, .int .i64 e.f5] 26)) mb n (.slice none 0 0) hdr) := ⟨HMd.out.below (below_alloc (Below.refl _ _) _)⟩
  clear BEd BLd HGd HMd
  have BEd := BE_
  have BLd := BL_
  have HGd := HG_
  have HMd := HM_
  have BSd := BS_
  clear BE_ BL_ HG_ HM_ BS_
  generalize wd.heap.size = gs at BSd ⊢
  generalize wd.alloc (.cells #[.int .i64 ((N : Int) + 1), .int .i64 e.f1.f0, .int .i64 e.f1.f1, .int .i64 e.f1.f2, .int .i64 e.f1.f3, .string e.f2, .int .i64 e.f3, .string e.f4, .int .i64 e.f5] 26) = wd at BEd BLd HGd HMd BSd ⊢
  refine hK.out _ _ ⟨(blk_cell BEd.out 0).trans rfl, (blk_cell BEd.out 1).trans rfl, (blk_cell BEd.out 2).trans rfl, (blk_cell BEd.out 3).trans rfl, (blk_cell BEd.out 4).trans rfl, (blk_cell BEd.out 5).trans rfl, (blk_cell BEd.out 6).trans rfl, (blk_cell BEd.out 7).trans rfl, (blk_cell BEd.out 8).trans rfl, (blk_cell BLd.out 0).trans rfl⟩ (fun hHeld => ?_)
  clear hK K
  refine norm_ (a' := ?_) ?_ ?_
  rotate_left
  · show Act.put _ (some 65) _ = _
    simp only [Act.put, List.setIfInBounds_toArray, List.set_cons_zero, List.set_cons_succ, i64_w, i32_w]
    rfl
  refine one_ (i := 8) (N := some 66) #[true, true, true, true, true, true, true, true, true, false, false, false, false] rfl rfl (one_of HT_.out (by kernel_rfl)) (by decide) (fun K hK => ?_)
  obtain ⟨st, wB, hme, hmB, hgB, hsB, hst⟩ := mapEntry_run HMd.out HX.out Tryd.underlying56 zeroSl HNN.out
  rw [HSH.out] at hme
  simp only [lv, goInt] at hme
  refine value_ (v := .tuple #[.slice A N c, .int .i64 st]) (w1 := wB) (by rfl) rfl (by go_simp) ?_
  have HST := Aside0.mk hst
  have BE_ := Aside0.mk (blk_beside HMd.out.isMap BEd.out hgB)
  have BL_ := Aside0.mk (blk_beside HMd.out.isMap BLd.out hgB)
  have HG_ := Aside0.mk (HGd.out.trans hgB)
  have BS_ := Aside0.mk (blk_beside HMd.out.isMap BSd.out hgB)
  have HM_ := Aside0.mk hmB
  clear hme hmB hgB hsB hst BEd BLd HGd HMd BSd
  have BEd := BE_
  have BLd := BL_
  have HGd := HG_
  have HMd := HM_
  have BSd := BS_
  clear BS_
  clear BE_ BL_ HG_ HM_
  rename World => wd
  refine hK.out _ _ ⟨(blk_cell BEd.out 0).trans rfl, (blk_cell BEd.out 1).trans rfl, (blk_cell BEd.out 2).trans rfl, (blk_cell BEd.out 3).trans rfl, (blk_cell BEd.out 4).trans rfl, (blk_cell BEd.out 5).trans rfl, (blk_cell BEd.out 6).trans rfl, (blk_cell BEd.out 7).trans rfl, (blk_cell BEd.out 8).trans rfl, (blk_cell BLd.out 0).trans rfl⟩ (fun hHeld => ?_)
  clear hK K
  refine norm_ (a' := ?_) ?_ ?_
  rotate_left
  · show Act.put _ (some 66) _ = _
    simp only [Act.put, List.setIfInBounds_toArray, List.set_cons_zero, List.set_cons_succ, i64_w, i32_w]
    rfl
  refine pure_ (i := 9) (N := some 63) (v := ?_) (a' := ?_) #[true, true, true, true, true, true, true, true, true, true, false, false, false] rfl rfl (any_of HT_.out (by kernel_rfl)) (fun _ _ _ h => h) (Or.inl ⟨by rfl, ?_⟩) ?_ ?_
  rotate_left
  · intro w'
    go_simp
    with_reducible rfl
  rotate_left
  · simp only [Act.put, List.setIfInBounds_toArray, List.set_cons_zero, List.set_cons_succ, i64_w, i32_w]
    rfl
  refine pure_ (i := 11) (N := some 68) (v := ?_) (a' := ?_) #[true, true, true, true, true, true, true, true, true, true, false, true, false] rfl rfl (any_of HT_.out (by kernel_rfl)) (fun _ _ _ h => h) (Or.inl ⟨by rfl, ?_⟩) ?_ ?_
  rotate_left
  · intro w'
    go_simp
    with_reducible rfl
  rotate_left
  · simp only [Act.put, List.setIfInBounds_toArray, List.set_cons_zero, List.set_cons_succ, i64_w, i32_w]
    rfl
  refine one_ (i := 10) (N := some 67) #[true, true, true, true, true, true, true, true, true, true, true, true, false] rfl rfl (one_of HT_.out (by kernel_rfl)) (by decide) (fun K hK => ?_)
  have hRA : RE wd base (fun k => ∀ y, okL y → y ≠ e.f1 → (hdr y).ownBlock ≠ some k) (.slice A N c) (rows e.f1) := by
    have h1 := row_beside H.out.isMap (H.out.2.2 e.f1 HX.out).1 HGd.out
    rwa [HSH.out] at h1
  have HRA := Aside0.mk hRA
  clear hRA
  refine Kd.R_append_rows_step k26 (Rr := k26.K wd) (w0 := wd) base (by rfl) (.tmp 63) (.tmp 65) 34 26 _ 88 rfl Tryd.underlying34 info26 rfl (by decide) (by omega) (.slice A N c) (rows e.f1) [(⟨(N : Int) + 1, e.f1, e.f2, e.f3, e.f4, e.f5⟩ : SE)] (some ⟨gs, 0, none⟩) 1 1 (fun k => ∀ y, okL y → y ≠ e.f1 → (hdr y).ownBlock ≠ some k) (fun _ => False) rfl rfl HRA.out (reads_one (⟨(N : Int) + 1, e.f1, e.f2, e.f3, e.f4, e.f5⟩ : SE) (k26_mk _ _) BSd.out) ?aK (fun _ h => h.elim) ?aF (Below.refl _ _) ?aS ?aL ?_
  (case aK => exact fun _ _ h => entry_KM h)
  (case aF => exact fun k hk y hy _ e_ => by have h1 := Kd.R_lt (H.out.row hy) _ e_; have h2 := HGd.out.size; omega)
  (case aS => exact Nat.le_trans HBASE.out HGd.out.size)
  (case aL => rw [HN.out]; have := HNL.out; omega)
  intro v1 w1 ho hb hg hat
  have HR1 := Aside0.mk ho
  have HG1 := Aside0.mk hg
  have HAT := Aside0.mk hat
  have hown : ∀ k, (Value.slice A N c).ownBlock = some k → k < w.heap.size ∧ ∃ cells, w.heap[k]? = some (.cells cells 26 (0, 0)) := fun k hk => by
    rw [← HSH.out] at hk
    exact ⟨Kd.R_lt (H.out.row HX.out) k hk, Kd.R_typed (H.out.row HX.out) k hk⟩
  have BE_ := Aside0.mk (blk_grown BEd.out hg (fun e_ => by have := (hown _ e_.symm).1; omega))
  have BL_ : Aside0 (w1.heap[lb]? = some (.cells #[.map (some mb)] 58 (0, 0))) := ⟨blk_grown BLd.out hg (fun e_ => by
    obtain ⟨cells, hc⟩ := (hown _ e_.symm).2
    have h1 := H.out.1
    rw [h1] at hc
    injection hc with hc
    injection hc with _ hc
    exact absurd hc (by decide))⟩
  have HMK : Aside0 (w1.heap[mb]? = wd.heap[mb]?) := ⟨hg.block mb HMd.out.lt (fun e_ => by
    obtain ⟨cells, hc⟩ := (hown _ e_.symm).2
    obtain ⟨es, c_, hm⟩ := H.out.isMap
    rw [hm] at hc
    cases hc)⟩
  clear ho hb hg hat hown
  have HBE := BEd
  clear HBE BEd BLd
  have BEd := BE_
  have BLd := BL_
  clear BE_ BL_
  refine hK.out _ _ ⟨(blk_cell BEd.out 0).trans rfl, (blk_cell BEd.out 1).trans rfl, (blk_cell BEd.out 2).trans rfl, (blk_cell BEd.out 3).trans rfl, (blk_cell BEd.out 4).trans rfl, (blk_cell BEd.out 5).trans rfl, (blk_cell BEd.out 6).trans rfl, (blk_cell BEd.out 7).trans rfl, (blk_cell BEd.out 8).trans rfl, (blk_cell BLd.out 0).trans rfl⟩ (fun hHeld => ?_)
  clear hK K
  refine norm_ (a' := ?_) ?_ ?_
  rotate_left
  · show Act.put _ (some 67) _ = _
    simp only [Act.put, List.setIfInBounds_toArray, List.set_cons_zero, List.set_cons_succ, i64_w, i32_w]
    rfl
  refine one_ (i := 12) (N := none) #[true, true, true, true, true, true, true, true, true, true, true, true, true] rfl rfl (one_of HT_.out (by kernel_rfl)) (by decide) (fun K hK => ?_)
  obtain ⟨w4, hse, hM4, hg4, hs4⟩ := HST.out w1 v1 HMK.out
  simp only [goInt] at hse
  with_reducible refine skip_ (w1 := w4) ?_ rfl ?_ ?_
  · rfl
  · go_simp
  have hmw1 : ∃ es c_, w1.heap[mb]? = some (.map es c_) := by
    obtain ⟨es, c_, hm⟩ := HMd.out.isMap
    exact ⟨es, c_, HMK.out.trans hm⟩
  have BE_ := Aside0.mk (blk_beside hmw1 BEd.out hg4)
  have BL_ := Aside0.mk (blk_beside hmw1 BLd.out hg4)
  have HM4 := Aside0.mk hM4
  have HG4 := Aside0.mk hg4
  clear hse hM4 hg4 hs4 hmw1 BEd BLd
  have BEd := BE_
  have BLd := BL_
  clear BE_ BL_
  refine hK.out _ _ ⟨(blk_cell BEd.out 0).trans rfl, (blk_cell BEd.out 1).trans rfl, (blk_cell BEd.out 2).trans rfl, (blk_cell BEd.out 3).trans rfl, (blk_cell BEd.out 4).trans rfl, (blk_cell BEd.out 5).trans rfl, (blk_cell BEd.out 6).trans rfl, (blk_cell BEd.out 7).trans rfl, (blk_cell BEd.out 8).trans rfl, (blk_cell BLd.out 0).trans rfl⟩ (fun hHeld => ?_)
  clear hK K
  refine done_ (done_of HT_.out (by kernel_rfl)) ?_
  try go_wp2
  go_ret
  have hat := HAT.out
  have hg1 := HG1.out
  rw [← HSH.out] at hat hg1
  exact ⟨rfl, _, log_put H.out HX.out HGd.out (by simp) HR1.out hg1 hat HM4.out HG4.out HMd.out.isMap⟩
end Go.Proofs.YtihknjmibnonjaaDoor.X
