/- The log: what lies in it, label by label. New, Full, All. -/
import Derived.Test.YtihknjmibnonjaaDoorMapL
import Derived.Laws.Cover3
import Derived.Deep.RegionLaw
namespace Go.Proofs.YtihknjmibnonjaaDoor.X
open Go.RowKit Go.Proofs.YtihknjmibnonjaaDoorW.PrintWords Go.Proofs.YtihknjmibnonjaaDoorW.PrintLast Go.Proofs.YtihknjmibnonjaaDoorW.PrintMore Go.Proofs.YtihknjmibnonjaaDoor.More
set_option linter.unusedVariables false
set_option linter.unusedSimpArgs false
set_option maxRecDepth 100000
abbrev SE := S26
abbrev RE (W : World) (base : Nat) (ok : Nat → Prop) (v : Value) (xs : List SE) : Prop := Kd.R k26 26 W base ok v xs
/-- No row of the log lies there. -/
def okA (hdr : SL → Value) (k : Nat) : Prop := ∀ y, okL y → (hdr y).ownBlock ≠ some k
/-- A log that lies at lb: its map at mb; at a label x the row hdr x, with the entries rows x; no two rows in one place. -/
def LogIs (w : World) (lb mb n base : Nat) (hdr : SL → Value) (rows : SL → List SE) : Prop :=
  w.heap[lb]? = some (.cells #[.map (some mb)] 58 (0, 0)) ∧ MapIs w mb n (.slice none 0 0) hdr ∧
  ∀ x, okL x → RE w base (fun k => ∀ y, okL y → y ≠ x → (hdr y).ownBlock ≠ some k) (hdr x) (rows x) ∧ (rows x = [] → hdr x = .slice none 0 0)
theorem zeroSl (w : World) : (zeroValue 34).run Tryd.prog w = .ok (.slice none 0 0) w := by kernel_rfl
section
variable {w w' : World} {lb mb n base : Nat} {hdr : SL → Value} {rows : SL → List SE}
theorem LogIs.below (h : LogIs w lb mb n base hdr rows) (hb : Below w.heap.size w w') : LogIs w' lb mb n base hdr rows :=
  ⟨(hb.block lb (Array.getElem?_eq_some_iff.1 h.1).1).trans h.1, h.2.1.below hb, fun x hx => ⟨Kd.R_below (h.2.2 x hx).1 hb, (h.2.2 x hx).2⟩⟩
theorem LogIs.row (h : LogIs w lb mb n base hdr rows) {x : SL} (hx : okL x) : RE w base (fun _ => True) (hdr x) (rows x) := Kd.R_mono (h.2.2 x hx).1 (fun _ _ => trivial)
theorem LogIs.shape (h : LogIs w lb mb n base hdr rows) {x : SL} (hx : okL x) : ∃ A c, hdr x = .slice A (rows x).length c := Kd.R_slice (h.row hx)
theorem LogIs.isMap (h : LogIs w lb mb n base hdr rows) : ∃ es c, w.heap[mb]? = some (.map es c) := h.2.1.isMap
theorem LogIs.ne (h : LogIs w lb mb n base hdr rows) : lb ≠ mb := fun e => by
  obtain ⟨es, c, hm⟩ := h.isMap
  have := h.1
  rw [e, hm] at this
  cases this
theorem LogIs.old (h : LogIs w lb mb n base hdr rows) {k : Nat} (hk : w.heap.size ≤ k) : okA hdr k := fun y hy e => by
  have := Kd.R_lt (h.row hy) _ e
  omega
theorem look_run {W : World} {b n : Nat} {z : Value} {f : SL → Value} (h : MapIs W b n z f) {x : SL} (hx : okL x) {t e : TypeId} (ht : Tryd.prog.underlying t = some (.map 23 e)) (hz : ∀ w, (zeroValue e).run Tryd.prog w = .ok z w) :
    (Instr.lookup t (.map (some b)) (lv x) false).run Tryd.prog W = .ok (f x) W := by
  obtain ⟨D, hown, hf⟩ := h
  obtain ⟨v, ps, hrun, hv⟩ := hown.lookup lawL ht (hz W) (show rv z = some (.held z, []) from rfl) (keyOf_lv hx)
  have e := rv_inv hv
  rw [hf x hx] at e
  injection e with e1 _
  injection e1 with e1
  rw [hrun, e1]
theorem log_New.calls (w : World) : Calls Tryd.prog 11 #[] w fun e w' => ∃ lb mb : Nat, e = .returned (.pointer (some ⟨lb, 0, none⟩)) ∧ w.heap.size ≤ lb ∧ w.heap.size ≤ mb ∧ LogIs w' lb mb 0 w.heap.size (fun _ => .slice none 0 0) (fun _ => []) ∧ Below w.heap.size w w' := by
  have hmm := @run_makeMap Tryd.prog
  go_enter Tryd.func11, Tryd.ntmps11
  go_wp2
  go_ret
  refine ⟨w.heap.size + 1, w.heap.size, rfl, by omega, Nat.le_refl _, ⟨?_, (MapIs.made w _).below (below_alloc (Below.refl _ _) _), fun x hx => ⟨Kd.R_nil _ _ _ _ _, fun _ => rfl⟩⟩, below_alloc (below_alloc (Below.refl _ _) _) _⟩
  have h := blk_new (w.alloc (.map #[] 0)) (.cells #[.map (some w.heap.size)] 58)
  rwa [show (w.alloc (.map #[] 0)).heap.size = w.heap.size + 1 by simp] at h
theorem log_Full.calls (h : LogIs w lb mb n base hdr rows) {x : SL} (hx : okL x) : Calls Tryd.prog 15 #[.pointer (some ⟨lb, 0, none⟩), lv x] w fun e w' => e = .returned (.bool (decide ((40 : Int) ≤ (rows x).length))) ∧ Below w.heap.size w w' := by
  have hc : w.cell? ⟨lb, 0, none⟩ = some (.map (some mb)) := (blk_cell h.1 0).trans rfl
  have hb0 : Below w.heap.size w (w.alloc (.cells #[.int .i64 x.f0, .int .i64 x.f1, .int .i64 x.f2, .int .i64 x.f3] 23)).drew := below_drew1 (below_alloc (Below.refl _ _) _)
  have hrun := look_run (h.2.1.below hb0) hx Tryd.underlying56 zeroSl
  obtain ⟨A, c, hA⟩ := h.shape hx
  rw [hA] at hrun
  have hc' := (hb0.cell (p := ⟨lb, 0, none⟩) (World.block_lt_of_cell? _ _ hc)).trans hc
  have HB := Aside0.mk hb0
  clear h hb0 hA
  unfold lv at hrun ⊢
  go_enter Tryd.func15, Tryd.ntmps15
  go_wp2
  go_region
  all_goals
    go_wp2
    go_ret
    exact ⟨rfl, HB.out⟩
end
theorem entry_KM {w w' : World} {base : Nat} {ok : Nat → Prop} {x : SE} {cs : List Value} (h : k26.K w x cs) : k26.M w' base ok x cs := by
  rw [k26_open h]
  exact k26_mkM _ _ _ x
/-- slices.Clone at entries. -/
theorem clone_none (c0 : Nat) (w : World) : Calls Tryd.prog 32 #[.slice none 0 c0] w fun e w' => e = .returned (.slice none 0 0) ∧ Below w.heap.size w w' := by
  have hu1 := Tryd.underlying34
  have hq : (binOp .eql 34 (.slice none 0 c0) (.slice none 0 0)).run Tryd.prog w = .ok (.bool true) w := by
    simp only [binOp]
    simp [run_equal_slice_nil w 34 26 none 0 c0 hu1]
  go_enter Tryd.func32, Tryd.ntmps32
  go_wp2_with fail
  go_ret
  exact ⟨rfl, Below.refl _ _⟩
set_option maxHeartbeats 4000000 in
theorem clone_some (ad : Addr) (c0 : Nat) (l0 : List SE) (w : World) (hr0 : Kd.C k26 w (some ad) l0.length l0) (hc0 : l0.length ≤ c0) (hl : l0.length ≤ 1000000) :
    Calls Tryd.prog 32 #[.slice (some ad) l0.length c0] w fun e w' => ∃ v, e = .returned v ∧ RE w' w.heap.size (fun _ => True) v l0 ∧ Below w.heap.size w w' := by
  have hu1 := Tryd.underlying34
  have hq : (binOp .eql 34 (.slice (some ad) l0.length c0) (.slice none 0 0)).run Tryd.prog w = .ok (.bool false) w := by
    simp only [binOp]
    simp [run_equal_slice_nil w 34 26 (some ad) l0.length c0 hu1]
  have HR := Aside0.mk hr0
  have HC := Aside0.mk hc0
  have HL := Aside0.mk hl
  clear hr0 hc0 hl
  go_enter Tryd.func32, Tryd.ntmps32
  go_wp2_with (first
    | ((with_reducible refine gate_dst (N := 5) rfl ?_); refine Kd.R_lit k26 _ 26 ?hg (N := 5) ?hd (xs := ([] : List SE)) (inner := []) (ok := fun _ => True) (okp := fun _ => True) ?hr ?hp (fun _ hk => hk) trivial (Below.refl _ _) (Nat.le_refl _) (by simp) ?_; (case hd => rfl); (case hg => rfl); (case hr => first | (go_simp; done) | (go_simp; rfl)); (case hp => exact (Reps.none _ _)); intro v1 w1 ho hb hg_ hnew_; clear hg_ hnew_; have HO := Aside0.mk ho; have HB := Aside0.mk hb; clear ho hb)
    | ((with_reducible refine gate_builtin (b := .append) (xs := #[.tmp 5, .tmp 6]) rfl ?_); at_builtin; refine Kd.R_append_rows k26 (Rr := k26.K w1) (w0 := w) w.heap.size rfl (.tmp 5) (.tmp 6) 34 26 _ 88 rfl Tryd.underlying34 info26 rfl (by decide) (by omega) v1 [] l0 _ _ _ (fun _ => True) (fun _ => False) rfl rfl ?aO ?aR ?aK (fun _ h => h.elim) ?aF ?aB ?aS ?aL ?_; (case aR => exact Kd.C_below HR.out HB.out); (case aK => exact fun _ _ h => entry_KM h); (case aB => exact HB.out); (case aF => exact fun _ _ => trivial); (case aO => exact HO.out); (case aS => exact below_size HB.out); (case aL => have := HL.out; simp only [List.length_nil]; omega); intro v2 w2 ho2 hb2 hg2 hat2; have HO2 := Aside0.mk ho2; have HB2 := Aside0.mk hb2; clear ho2 hb2 hg2 hat2))
  go_ret
  rw [List.nil_append] at HO2
  exact ⟨_, rfl, HO2.out, HB2.out⟩
theorem clone_row {W : World} {base : Nat} {ok : Nat → Prop} {v : Value} {xs : List SE} (h : RE W base ok v xs) (hn : xs = [] → v = .slice none 0 0) (hl : xs.length ≤ 1000000) :
    Calls Tryd.prog 32 #[v] W fun e w' => ∃ v', e = .returned v' ∧ RE w' W.heap.size (fun _ => True) v' xs ∧ Below W.heap.size W w' := by
  by_cases hx : xs = []
  · rw [hn hx]
    subst hx
    exact (clone_none 0 W).mono fun e w' ⟨he, hb⟩ => ⟨_, he, Kd.R_nil _ _ _ _ _, hb⟩
  · obtain ⟨g, cap, rfl, _, _, _⟩ := Kd.R_form h (List.length_pos_iff.2 hx)
    obtain ⟨_, hc, hC⟩ := Kd.R_reads' h
    exact clone_some _ cap xs W hC hc hl
section
variable {w w' : World} {lb mb n base : Nat} {hdr : SL → Value} {rows : SL → List SE}
set_option maxHeartbeats 4000000 in
theorem log_All.calls (h : LogIs w lb mb n base hdr rows) {x : SL} (hx : okL x) (hl : (rows x).length ≤ 1000000) : Calls Tryd.prog 14 #[.pointer (some ⟨lb, 0, none⟩), lv x] w fun e w' =>
    ∃ v, e = .returned v ∧ RE w' w.heap.size (fun _ => True) v (rows x) ∧ Below w.heap.size w w' := by
  have hc : w.cell? ⟨lb, 0, none⟩ = some (.map (some mb)) := (blk_cell h.1 0).trans rfl
  have hb0 : Below w.heap.size w (w.alloc (.cells #[.int .i64 x.f0, .int .i64 x.f1, .int .i64 x.f2, .int .i64 x.f3] 23)).drew := below_drew1 (below_alloc (Below.refl _ _) _)
  have hrun := look_run (h.2.1.below hb0) hx Tryd.underlying56 zeroSl
  have hcl := fun W (hb : Below w.heap.size w W) => clone_row (Kd.R_below (h.row hx) hb) (h.2.2 x hx).2 hl
  have hc' := (hb0.cell (p := ⟨lb, 0, none⟩) (World.block_lt_of_cell? _ _ hc)).trans hc
  have HB := Aside0.mk hb0
  have HCL := Aside0.mk hcl
  clear h hb0 hcl
  unfold lv at hrun ⊢
  generalize hdr x = v at hrun HCL
  go_enter Tryd.func14, Tryd.ntmps14
  go_wp2
  go_region_with (go_at_call 32; refine (HCL.out _ HB.out).mono ?_; rintro e w2 ⟨v2, rfl, hR, hb⟩; have HR2 := Aside0.mk hR; have HB2 := Aside0.mk hb; clear hR hb)
  all_goals
    go_wp2
    go_ret
    exact ⟨_, rfl, Kd.R_lower HR2.out (below_size HB.out), below_step HB.out HB2.out⟩
end
theorem row_beside {W w1 : World} {mb : Nat} (hm : ∃ es c, W.heap[mb]? = some (.map es c)) {α : Type} {d : Kd α} {e base : Nat} {ok : Nat → Prop} {v : Value} {xs : List α} (hR : Kd.R d e W base ok v xs) (hg : W.grownBy w1 (some mb)) : Kd.R d e w1 base ok v xs :=
  Kd.R_mono (Kd.R_move (Kd.R_bound hR) (fun k hk => by
    obtain ⟨_, _, hlt, q, _, cells, hc⟩ := hk
    refine hg.block k hlt (fun e => ?_)
    obtain ⟨es, c, hm⟩ := hm
    rw [Option.some.inj e, hm] at hc
    cases hc)) (fun _ hk => hk.1)
theorem blk_beside {W w1 : World} {mb : Nat} (hm : ∃ es c, W.heap[mb]? = some (.map es c)) {g : Nat} {cs : Array Value} {t : TypeId} {fr : Nat × Nat} (h : W.heap[g]? = some (.cells cs t fr)) (hg : W.grownBy w1 (some mb)) : w1.heap[g]? = some (.cells cs t fr) := by
  refine (hg.block g (Array.getElem?_eq_some_iff.1 h).1 (fun e => ?_)).trans h
  obtain ⟨es, c, hm⟩ := hm
  rw [Option.some.inj e, hm] at h
  cases h
end Go.Proofs.YtihknjmibnonjaaDoor.X
