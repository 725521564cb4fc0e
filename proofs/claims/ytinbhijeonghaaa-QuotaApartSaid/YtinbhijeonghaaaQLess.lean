/- label.Less, in whatever world: nothing that was there turns, and draws only grow. -/
import Derived.Test.YtinbhijeonghaaaH
import Derived.WalkKit
import Derived.BigCall
import Derived.Deep.RegionWith
import Derived.Deep.DeepCutAuto
import Derived.Deep.QuietTactic
import Derived.BigQuiet
import Derived.Deep.DrawnRows
import Derived.Sort.Grow
namespace Go.Proofs.Ytinbhijeonghaaa.X
open Go.RowKit Go.Proofs.YtinbhijeonghaaaW.PrintWords Go.Proofs.YtinbhijeonghaaaW.PrintLast Go.Proofs.YtinbhijeonghaaaW.PrintMore Go.Proofs.Ytinbhijeonghaaa.More
set_option linter.unusedVariables false
set_option linter.unusedSimpArgs false
/-- Nothing that was there has turned, and draws have only grown. -/
def BelD (w W : World) : Prop := Below w.heap.size w W ∧ w.drawn ≤ W.drawn
theorem BelD.refl (w : World) : BelD w w := ⟨Below.refl _ _, Nat.le_refl _⟩
theorem beld_alloc {w W : World} (h : BelD w W) (o : Obj) : BelD w (W.alloc o) := ⟨below_alloc h.1 o, h.2⟩
theorem beld_drew1 {w W : World} (h : BelD w W) : BelD w W.drew := ⟨below_drew1 h.1, Nat.le_trans h.2 (Nat.le_succ _)⟩
theorem beld_drewN {w W : World} (h : BelD w W) (n : Nat) : BelD w (W.drewN n) := ⟨pw_below_drewN h.1 n, Nat.le_trans h.2 (Nat.le_add_right _ _)⟩
theorem drawn_set (W : World) (a : Addr) (v : Value) : (W.setCell a v).drawn = W.drawn := by
  unfold World.setCell
  split <;> rfl
theorem beld_set {w W : World} {g j : Nat} {v : Value} (h : BelD w W) (hg : w.heap.size ≤ g) : BelD w (W.setCell ⟨g, j, none⟩ v) := ⟨below_set h.1 hg, by rw [drawn_set]; exact h.2⟩
theorem beld_then {w w1 w2 : World} (h : BelD w w1) (hB : w.heap.size ≤ w1.heap.size) (k : BelD w1 w2) : BelD w w2 := ⟨below_then h.1 hB k.1, Nat.le_trans h.2 k.2⟩
open Go.Sort in
theorem BelD.grows {w W : World} (h : BelD w W) : ∃ q os', W = grow (w.drewN q) os' := by
  obtain ⟨hb, hd⟩ := h
  refine ⟨W.drawn - w.drawn, W.heap.extract w.heap.size W.heap.size, ?_⟩
  have e : W.heap = w.heap ++ W.heap.extract w.heap.size W.heap.size := by
    have hs := hb.size
    apply Array.ext
    · simp; omega
    · intro i h1 h2
      rcases Nat.lt_or_ge i w.heap.size with hi | hi
      · have := hb.block i hi
        rw [Array.getElem?_eq_getElem h1, Array.getElem?_eq_getElem hi] at this
        rw [Array.getElem_append_left hi]
        exact Option.some.inj this
      · rw [Array.getElem_append_right hi, Array.getElem_extract]
        congr 1
        omega
  have h1 := hb.os
  have h2 := hb.tape
  have h3 := hb.output
  rcases W with ⟨a, b, c, d, f⟩
  show _ = (⟨_, _, _, _, _⟩ : World)
  dsimp only at e h1 h2 h3 hd ⊢
  rw [World.mk.injEq]
  exact ⟨e, h2, by show c = w.drawn + (c - w.drawn); omega, h1, h3⟩
set_option maxRecDepth 100000 in
theorem numbersD (a b c d : Int) (w : World) : Calls Try.prog 42 #[.agg #[.int .i64 a, .int .i64 b, .int .i64 c, .int .i64 d]] w fun e w' => e = .returned (.agg #[.int .i64 a, .int .i64 b, .int .i64 c, .int .i64 d]) ∧ BelD w w' := by
  go_enter Try.func42, Try.ntmps42
  go_wp2
  refine bodyPost_ret (results_cell_row rfl _ _ (w.heap.size + 1) 70 #[.int .i64 a, .int .i64 b, .int .i64 c, .int .i64 d] (0, 0) _ rfl (heap_alloc2_new w _ _) Try.underlying70 rfl (by kernel_rfl)) rfl ?_
  exact ⟨rfl, by repeat (first | exact BelD.refl _ | refine beld_alloc ?_ _ | refine beld_drew1 ?_)⟩
/-- Does a label stand ahead of another one? From the k-th number on. -/
def lessK (a b c d a' b' c' d' : Int) : Nat → Bool
  | 0 => if a ≠ a' then decide (a < a') else if b ≠ b' then decide (b < b') else if c ≠ c' then decide (c < c') else if d ≠ d' then decide (d < d') else false
  | 1 => if b ≠ b' then decide (b < b') else if c ≠ c' then decide (c < c') else if d ≠ d' then decide (d < d') else false
  | 2 => if c ≠ c' then decide (c < c') else if d ≠ d' then decide (d < d') else false
  | 3 => if d ≠ d' then decide (d < d') else false
  | _ => false
def less_.f (a0_0 : Int) (a0_1 : Int) (a0_2 : Int) (a0_3 : Int) (a1_0 : Int) (a1_1 : Int) (a1_2 : Int) (a1_3 : Int) : Option Bool := some (lessK a0_0 a0_1 a0_2 a0_3 a1_0 a1_1 a1_2 a1_3 0)
def lessHeld (a b c d a' b' c' d' : Int) (w0 : World) (s5 s6 : Value) (wx : World) : Prop := ∃ g h : Nat, s5 = .pointer (some ⟨g, 0, none⟩) ∧ s6 = .pointer (some ⟨h, 0, none⟩) ∧
  wx.cell? ⟨g, 0, none⟩ = some (.int .i64 a) ∧ wx.cell? ⟨g, 1, none⟩ = some (.int .i64 b) ∧ wx.cell? ⟨g, 2, none⟩ = some (.int .i64 c) ∧ wx.cell? ⟨g, 3, none⟩ = some (.int .i64 d) ∧ wx.cell? ⟨h, 0, none⟩ = some (.int .i64 a') ∧ wx.cell? ⟨h, 1, none⟩ = some (.int .i64 b') ∧ wx.cell? ⟨h, 2, none⟩ = some (.int .i64 c') ∧ wx.cell? ⟨h, 3, none⟩ = some (.int .i64 d') ∧ BelD w0 wx
def lessAt (a b c d a' b' c' d' : Int) (r : Bool) (w0 : World) (g h k : Nat) (wx : World) : Prop := lessK a b c d a' b' c' d' k = r ∧ wx.cell? ⟨g, 0, none⟩ = some (.int .i64 a) ∧ wx.cell? ⟨g, 1, none⟩ = some (.int .i64 b) ∧ wx.cell? ⟨g, 2, none⟩ = some (.int .i64 c) ∧ wx.cell? ⟨g, 3, none⟩ = some (.int .i64 d) ∧ wx.cell? ⟨h, 0, none⟩ = some (.int .i64 a') ∧ wx.cell? ⟨h, 1, none⟩ = some (.int .i64 b') ∧ wx.cell? ⟨h, 2, none⟩ = some (.int .i64 c') ∧ wx.cell? ⟨h, 3, none⟩ = some (.int .i64 d') ∧ BelD w0 wx
theorem old_cells' {W w1 : World} (hb : BelD W w1) : (∀ b o, b < W.heap.size → w1.cell? ⟨b, o, none⟩ = W.cell? ⟨b, o, none⟩) ∧ (∀ b o, b < W.heap.size → w1.frozen? ⟨b, o, none⟩ = W.frozen? ⟨b, o, none⟩) :=
  ⟨fun b o h => hb.1.cell (p := ⟨b, o, none⟩) h, fun b o h => hb.1.frozen (p := ⟨b, o, none⟩) h⟩
attribute [local go_sem ↓] Go.wp_at_zero Go.wp_at_succ
set_option maxRecDepth 100000 in
set_option maxHeartbeats 8000000 in
theorem less_.calls (a0_0 : Int) (a0_1 : Int) (a0_2 : Int) (a0_3 : Int) (a1_0 : Int) (a1_1 : Int) (a1_2 : Int) (a1_3 : Int) (r : Bool) (w : World) (h : less_.f a0_0 a0_1 a0_2 a0_3 a1_0 a1_1 a1_2 a1_3 = some r) :
    Calls Try.prog 33 #[.agg #[.int .i64 a0_0, .int .i64 a0_1, .int .i64 a0_2, .int .i64 a0_3], .agg #[.int .i64 a1_0, .int .i64 a1_1, .int .i64 a1_2, .int .i64 a1_3]] w fun e w' => e = .returned (.bool r) ∧ BelD w w' := by
  have hr := Option.some.inj h
  have HR := Aside0.mk hr
  clear h hr
  go_enter Try.func33, Try.ntmps33
  go_upto_region 1 with fail
  go_cut [5, 6] (fun s5 s6 wx => lessHeld a0_0 a0_1 a0_2 a0_3 a1_0 a1_1 a1_2 a1_3 w s5 s6 wx)
  case first =>
    go_region_with (first | (go_at_call_of 42 (Value.agg #[Value.int IntKind.i64 a0_0, Value.int IntKind.i64 a0_1, Value.int IntKind.i64 a0_2, Value.int IntKind.i64 a0_3]); refine (numbersD a0_0 a0_1 a0_2 a0_3 _).mono ?_; rintro e w1 ⟨rfl, hb1⟩; obtain ⟨hc1, hf1⟩ := old_cells' hb1; have hz1 := hb1.1.size; (try simp at hz1); have HB1 : BelD w w1 := beld_then (by with_reducible repeat (first | exact BelD.refl _ | exact BelD.refl _ | apply beld_alloc | apply beld_drew1)) (by first | omega | (simp; done) | (simp; omega)) hb1; (try (have z10 : w.heap.size < w1.heap.size := by omega)); (try (have z11 : w.heap.size + 1 < w1.heap.size := by omega)); (try (have z12 : w.heap.size + 1 + 1 < w1.heap.size := by omega)); (try (have z13 : w.heap.size + 1 + 1 + 1 < w1.heap.size := by omega))) | (go_at_call_of 42 (Value.agg #[Value.int IntKind.i64 a1_0, Value.int IntKind.i64 a1_1, Value.int IntKind.i64 a1_2, Value.int IntKind.i64 a1_3]); refine (numbersD a1_0 a1_1 a1_2 a1_3 _).mono ?_; rintro e w2 ⟨rfl, hb2⟩; obtain ⟨hc2, hf2⟩ := old_cells' hb2; have hz2 := hb2.1.size; (try simp at hz2); have HB2 : BelD w w2 := beld_then (by with_reducible repeat (first | exact HB1 | exact BelD.refl _ | apply beld_alloc | apply beld_drew1)) (by first | omega | (simp; done) | (simp; omega)) hb2; (try (have z20 : w.heap.size < w2.heap.size := by omega)); (try (have z21 : w.heap.size + 1 < w2.heap.size := by omega)); (try (have z22 : w.heap.size + 1 + 1 < w2.heap.size := by omega)); (try (have z23 : w.heap.size + 1 + 1 + 1 < w2.heap.size := by omega)); (try (have z24 : w1.heap.size < w2.heap.size := by omega)); (try (have z25 : w1.heap.size + 1 < w2.heap.size := by omega))))
    all_goals (go_wp2_with fail; go_meet; refine ⟨_, _, rfl, rfl, ?_, ?_, ?_, ?_, ?_, ?_, ?_, ?_, ?_⟩ <;> first | (with_reducible (repeat (first | exact HB2 | refine beld_alloc ?_ _ | refine beld_set ?_ (by omega))); done) | (go_simp; done) | (go_simp; exact World.cell?_setCell_same _ _ _ (by go_simp; rfl)) | (go_simp; exact World.cell?_setCell_same _ _ (.int .i64 0) (by go_simp)))
  case rest =>
    obtain ⟨g, h, rfl, rfl, hx0, hx1, hx2, hx3, hy0, hy1, hy2, hy3, hbx⟩ := hcut
    have HB := Aside0.mk hbx
    clear hbx
    go_wp2
    go_loopw [12] (fun i wr => ∃ k : Nat, k ≤ 4 ∧ i = .int .i64 k ∧ lessAt a0_0 a0_1 a0_2 a0_3 a1_0 a1_1 a1_2 a1_3 r w g h k wr) (fun i _ => 4 - (intOf i).toNat)
    case atStart => exact ⟨0, Nat.zero_le _, rfl, HR.out, hx0, hx1, hx2, hx3, hy0, hy1, hy2, hy3, HB.out⟩
    case round =>
      clear hx0 hx1 hx2 hx3 hy0 hy1 hy2 hy3 HB HR
      obtain ⟨k, hk, rfl, hrk, hx0, hx1, hx2, hx3, hy0, hy1, hy2, hy3, hbx⟩ := hrel
      have HB := Aside0.mk hbx
      clear hbx
      rcases (show k = 0 ∨ k = 1 ∨ k = 2 ∨ k = 3 ∨ k = 4 from by omega) with rfl | rfl | rfl | rfl | rfl
      · by_cases e : a0_0 = a1_0
        · have e1 : (a0_0 == a1_0) = true := by rw [e]; exact beq_self_eq_true _
          have e2 : (a0_0 != a1_0) = false := by rw [bne, e1]; rfl
          have HRK : Aside0 (lessK a0_0 a0_1 a0_2 a0_3 a1_0 a1_1 a1_2 a1_3 1 = r) := ⟨by rw [← hrk]; simp [lessK, e]⟩
          clear e hrk
          go_wp2
          go_quiet (fail)
          go_wp2
          go_roundw
          case rel => exact ⟨1, by omega, by first | rfl | go_num, HRK.out, by simpa using hx0, by simpa using hx1, by simpa using hx2, by simpa using hx3, by simpa using hy0, by simpa using hy1, by simpa using hy2, by simpa using hy3, beld_drewN HB.out _⟩
          case measure => simp [intOf]
        · have e1 : (a0_0 == a1_0) = false := beq_eq_false_iff_ne.2 e
          have e2 : (a0_0 != a1_0) = true := by rw [bne, e1]; rfl
          have HRK : Aside0 (decide (a0_0 < a1_0) = r) := ⟨by rw [← hrk]; simp [lessK, e]⟩
          clear e hrk
          go_wp2
          go_quiet (fail)
          go_wp2
          go_quiet (fail)
          go_wp2
          go_ret
          exact ⟨by rw [← HRK.out]; rfl, beld_drewN (beld_drewN HB.out _) _⟩
      · by_cases e : a0_1 = a1_1
        · have e1 : (a0_1 == a1_1) = true := by rw [e]; exact beq_self_eq_true _
          have e2 : (a0_1 != a1_1) = false := by rw [bne, e1]; rfl
          have HRK : Aside0 (lessK a0_0 a0_1 a0_2 a0_3 a1_0 a1_1 a1_2 a1_3 2 = r) := ⟨by rw [← hrk]; simp [lessK, e]⟩
          clear e hrk
          go_wp2
          go_quiet (fail)
          go_wp2
          go_roundw
          case rel => exact ⟨2, by omega, by first | rfl | go_num, HRK.out, by simpa using hx0, by simpa using hx1, by simpa using hx2, by simpa using hx3, by simpa using hy0, by simpa using hy1, by simpa using hy2, by simpa using hy3, beld_drewN HB.out _⟩
          case measure => simp [intOf]
        · have e1 : (a0_1 == a1_1) = false := beq_eq_false_iff_ne.2 e
          have e2 : (a0_1 != a1_1) = true := by rw [bne, e1]; rfl
          have HRK : Aside0 (decide (a0_1 < a1_1) = r) := ⟨by rw [← hrk]; simp [lessK, e]⟩
          clear e hrk
          go_wp2
          go_quiet (fail)
          go_wp2
          go_quiet (fail)
          go_wp2
          go_ret
          exact ⟨by rw [← HRK.out]; rfl, beld_drewN (beld_drewN HB.out _) _⟩
      · by_cases e : a0_2 = a1_2
        · have e1 : (a0_2 == a1_2) = true := by rw [e]; exact beq_self_eq_true _
          have e2 : (a0_2 != a1_2) = false := by rw [bne, e1]; rfl
          have HRK : Aside0 (lessK a0_0 a0_1 a0_2 a0_3 a1_0 a1_1 a1_2 a1_3 3 = r) := ⟨by rw [← hrk]; simp [lessK, e]⟩
          clear e hrk
          go_wp2
          go_quiet (fail)
          go_wp2
          go_roundw
          case rel => exact ⟨3, by omega, by first | rfl | go_num, HRK.out, by simpa using hx0, by simpa using hx1, by simpa using hx2, by simpa using hx3, by simpa using hy0, by simpa using hy1, by simpa using hy2, by simpa using hy3, beld_drewN HB.out _⟩
          case measure => simp [intOf]
        · have e1 : (a0_2 == a1_2) = false := beq_eq_false_iff_ne.2 e
          have e2 : (a0_2 != a1_2) = true := by rw [bne, e1]; rfl
          have HRK : Aside0 (decide (a0_2 < a1_2) = r) := ⟨by rw [← hrk]; simp [lessK, e]⟩
          clear e hrk
          go_wp2
          go_quiet (fail)
          go_wp2
          go_quiet (fail)
          go_wp2
          go_ret
          exact ⟨by rw [← HRK.out]; rfl, beld_drewN (beld_drewN HB.out _) _⟩
      · by_cases e : a0_3 = a1_3
        · have e1 : (a0_3 == a1_3) = true := by rw [e]; exact beq_self_eq_true _
          have e2 : (a0_3 != a1_3) = false := by rw [bne, e1]; rfl
          have HRK : Aside0 (lessK a0_0 a0_1 a0_2 a0_3 a1_0 a1_1 a1_2 a1_3 4 = r) := ⟨by rw [← hrk]; simp [lessK, e]⟩
          clear e hrk
          go_wp2
          go_quiet (fail)
          go_wp2
          go_roundw
          case rel => exact ⟨4, by omega, by first | rfl | go_num, HRK.out, by simpa using hx0, by simpa using hx1, by simpa using hx2, by simpa using hx3, by simpa using hy0, by simpa using hy1, by simpa using hy2, by simpa using hy3, beld_drewN HB.out _⟩
          case measure => simp [intOf]
        · have e1 : (a0_3 == a1_3) = false := beq_eq_false_iff_ne.2 e
          have e2 : (a0_3 != a1_3) = true := by rw [bne, e1]; rfl
          have HRK : Aside0 (decide (a0_3 < a1_3) = r) := ⟨by rw [← hrk]; simp [lessK, e]⟩
          clear e hrk
          go_wp2
          go_quiet (fail)
          go_wp2
          go_quiet (fail)
          go_wp2
          go_ret
          exact ⟨by rw [← HRK.out]; rfl, beld_drewN (beld_drewN HB.out _) _⟩
      · have HRK : Aside0 (false = r) := ⟨by rw [← hrk]; rfl⟩
        clear hrk
        go_wp2
        go_ret
        exact ⟨by rw [← HRK.out]; rfl, HB.out⟩
end Go.Proofs.Ytinbhijeonghaaa.X
