/- Counts by labels: New, Add, Of. -/
import Derived.Test.YtinbhijeonghaaaMapL
import Derived.Deep.RegionLaw
namespace Go.Proofs.Ytinbhijeonghaaa.X
open Go.RowKit Go.Proofs.YtinbhijeonghaaaW.PrintWords Go.Proofs.YtinbhijeonghaaaW.PrintLast Go.Proofs.YtinbhijeonghaaaW.PrintMore Go.Proofs.Ytinbhijeonghaaa.More
set_option linter.unusedVariables false
set_option linter.unusedSimpArgs false
/-- Counts that lie at cb: how often each label was counted. -/
def CountsIs (w : World) (cb mb n : Nat) (f : SL → Int) : Prop :=
  w.heap[cb]? = some (.cells #[.map (some mb)] 61 (0, 0)) ∧ MapIs w mb n (.int .i64 0) (fun x => .int .i64 (f x))
theorem zeroInt (w : World) : (zeroValue 3).run Try.prog w = .ok (.int .i64 0) w := by kernel_rfl
theorem CountsIs.below {w w' : World} {cb mb n : Nat} {f : SL → Int} (h : CountsIs w cb mb n f) (hb : Below w.heap.size w w') : CountsIs w' cb mb n f := by
  have hlt := (Array.getElem?_eq_some_iff.1 h.1).1
  exact ⟨(hb.block cb hlt).trans h.1, h.2.below hb⟩
theorem look_run {W : World} {b n : Nat} {z : Value} {f : SL → Value} (h : MapIs W b n z f) {x : SL} (hx : okL x) {t e : TypeId} (ht : Try.prog.underlying t = some (.map 43 e)) (hz : ∀ w, (zeroValue e).run Try.prog w = .ok z w) :
    (Instr.lookup t (.map (some b)) (lv x) false).run Try.prog W = .ok (f x) W := by
  obtain ⟨D, hown, hf⟩ := h
  obtain ⟨v, ps, hrun, hv⟩ := hown.lookup lawL ht (hz W) (show rv z = some (.held z, []) from rfl) (keyOf_lv hx)
  have e := rv_inv hv
  rw [hf x hx] at e
  injection e with e1 _
  injection e1 with e1
  rw [hrun, e1]
set_option maxRecDepth 100000 in
theorem quota_New.calls (w : World) : Calls Try.prog 16 #[] w fun e w' => ∃ cb mb : Nat, e = .returned (.pointer (some ⟨cb, 0, none⟩)) ∧ w.heap.size ≤ cb ∧ w.heap.size ≤ mb ∧ CountsIs w' cb mb 0 (fun _ => 0) ∧ Below w.heap.size w w' := by
  have hmm := @run_makeMap Try.prog
  go_enter Try.func16, Try.ntmps16
  go_wp2
  go_ret
  refine ⟨w.heap.size + 1, w.heap.size, rfl, by omega, Nat.le_refl _, ⟨?_, ((MapIs.made w _).below (below_alloc (Below.refl _ _) _)).congr fun _ _ => rfl⟩, below_alloc (below_alloc (Below.refl _ _) _) _⟩
  have h := blk_new (w.alloc (.map #[] 0)) (.cells #[.map (some w.heap.size)] 61)
  rwa [show (w.alloc (.map #[] 0)).heap.size = w.heap.size + 1 by simp] at h
set_option maxRecDepth 100000 in
theorem quota_Of.calls (w : World) (cb mb n : Nat) (f : SL → Int) (h : CountsIs w cb mb n f) (x : SL) (hx : okL x) : Calls Try.prog 21 #[.pointer (some ⟨cb, 0, none⟩), lv x] w fun e w' => e = .returned (.int .i64 (f x)) ∧ Below w.heap.size w w' := by
  have hc : w.cell? ⟨cb, 0, none⟩ = some (.map (some mb)) := (blk_cell h.1 0).trans rfl
  have hb0 : Below w.heap.size w (w.alloc (.cells #[.int .i64 x.f0, .int .i64 x.f1, .int .i64 x.f2, .int .i64 x.f3] 43)).drew := below_drew1 (below_alloc (Below.refl _ _) _)
  have hrun := look_run (h.2.below hb0) hx Try.underlying59 zeroInt
  have hc' := (hb0.cell (p := ⟨cb, 0, none⟩) (World.block_lt_of_cell? _ _ hc)).trans hc
  have HB := Aside0.mk hb0
  clear h hb0
  unfold lv at hrun ⊢
  go_enter Try.func21, Try.ntmps21
  go_wp2
  go_region
  all_goals
    go_wp2
    go_ret
    exact ⟨rfl, HB.out⟩
set_option maxRecDepth 100000 in
theorem quota_Add.calls (w : World) (cb mb n : Nat) (f : SL → Int) (h : CountsIs w cb mb n f) (hn : n < maxLen) (x : SL) (hx : okL x) : Calls Try.prog 19 #[.pointer (some ⟨cb, 0, none⟩), lv x] w fun e w' =>
    e = .returned (.int .i64 (wrap64 (f x + 1))) ∧ CountsIs w' cb mb (n + 1) (fun y => if y = x then wrap64 (f x + 1) else f y) ∧ w.grownBy w' (some mb) := by
  have hc : w.cell? ⟨cb, 0, none⟩ = some (.map (some mb)) := (blk_cell h.1 0).trans rfl
  have hb0 : Below w.heap.size w (w.alloc (.cells #[.int .i64 x.f0, .int .i64 x.f1, .int .i64 x.f2, .int .i64 x.f3] 43)).drew := below_drew1 (below_alloc (Below.refl _ _) _)
  have hnew : (w.alloc (.cells #[.int .i64 x.f0, .int .i64 x.f1, .int .i64 x.f2, .int .i64 x.f3] 43)).drew.heap[w.heap.size]? = some (.cells #[.int .i64 x.f0, .int .i64 x.f1, .int .i64 x.f2, .int .i64 x.f3] 43 (0, 0)) := blk_drew (blk_new w _)
  have hm0 := h.2.below hb0
  have hrun := look_run hm0 hx Try.underlying59 zeroInt
  have hc' := (hb0.cell (p := ⟨cb, 0, none⟩) (World.block_lt_of_cell? _ _ hc)).trans hc
  have hne : cb ≠ mb := fun e => by
    obtain ⟨es, c, hh⟩ := h.2.isMap
    have := h.1
    rw [e, hh] at this
    cases this
  have hmlt := h.2.lt
  obtain ⟨st, w1, he, hm1, hg1, hs1, hst⟩ := mapEntry_run hm0 hx Try.underlying59 zeroInt hn
  obtain ⟨w3, hse, hm3, hg3, hs3⟩ := hst w1 (.int .i64 (wrap64 (f x + 1))) rfl
  have hrun1 := look_run hm1 hx Try.underlying59 zeroInt
  have hrun3 := look_run (W := w3.drew) (hm3.of_block rfl) hx Try.underlying59 zeroInt
  rw [upd_same] at hrun3
  have hsz : w.heap.size < (w.alloc (.cells #[.int .i64 x.f0, .int .i64 x.f1, .int .i64 x.f2, .int .i64 x.f3] 43)).drew.heap.size := (Array.getElem?_eq_some_iff.1 hnew).1
  have hg13 : (w.alloc (.cells #[.int .i64 x.f0, .int .i64 x.f1, .int .i64 x.f2, .int .i64 x.f3] 43)).drew.grownBy w3 (some mb) := hg1.trans hg3
  have hcb3 : w3.heap[cb]? = some (.cells #[.map (some mb)] 61 (0, 0)) := by
    rw [hg13.block cb (Nat.lt_trans (Array.getElem?_eq_some_iff.1 h.1).1 hsz) (fun e => hne (Option.some.inj e)), hb0.block cb (Array.getElem?_eq_some_iff.1 h.1).1]
    exact h.1
  have hnew3 : w3.heap[w.heap.size]? = some (.cells #[.int .i64 x.f0, .int .i64 x.f1, .int .i64 x.f2, .int .i64 x.f3] 43 (0, 0)) := by
    rw [hg13.block _ hsz (fun e => Nat.ne_of_gt hmlt (Option.some.inj e))]
    exact hnew
  have HB := Aside0.mk (show w.grownBy w3.drew (some mb) from ((grown_of_below hb0 _).trans hg13).trans (grown_of_below (below_drew1 (Below.refl _ _)) _))
  have HC := Aside0.mk (show CountsIs w3.drew cb mb (n + 1) (fun y => if y = x then wrap64 (f x + 1) else f y) from ⟨hcb3, (hm3.of_block rfl).congr fun y _ => by by_cases hy : y = x <;> simp [upd, hy]⟩)
  have k0 : w3.drew.cell? ⟨cb, 0, none⟩ = some (.map (some mb)) := (blk_cell (w := w3.drew) hcb3 0).trans rfl
  have n0 : w3.drew.cell? ⟨w.heap.size, 0, none⟩ = some (.int .i64 x.f0) := (blk_cell (w := w3.drew) hnew3 0).trans rfl
  have n1 : w3.drew.cell? ⟨w.heap.size, 1, none⟩ = some (.int .i64 x.f1) := (blk_cell (w := w3.drew) hnew3 1).trans rfl
  have n2 : w3.drew.cell? ⟨w.heap.size, 2, none⟩ = some (.int .i64 x.f2) := (blk_cell (w := w3.drew) hnew3 2).trans rfl
  have n3 : w3.drew.cell? ⟨w.heap.size, 3, none⟩ = some (.int .i64 x.f3) := (blk_cell (w := w3.drew) hnew3 3).trans rfl
  clear h hb0 hnew hm0 hm1 hg1 hs1 hst hm3 hg3 hs3 hsz hg13 hcb3 hnew3
  simp only [lv, goInt] at he hse hrun hrun1 hrun3
  unfold lv
  go_enter Try.func19, Try.ntmps19
  go_wp2
  go_region
  all_goals
    go_wp2
    go_region
    all_goals
      go_wp2
      go_ret
      exact ⟨rfl, HC.out, HB.out⟩
end Go.Proofs.Ytinbhijeonghaaa.X
