/- Written by a program of this session over the kit's print: YtnepinkookbanaaDoorF20. -/
import Derived.Test.YtnepinkookbanaaDoorH
import Derived.Test.YtnepinkookbanaaDoorF23
import Derived.Test.YtnepinkookbanaaDoorF23
import Derived.WalkKit
import Derived.BigCall
import Derived.Deep.RegionWith
import Derived.Deep.DeepCutAuto
import Derived.Deep.QuietTactic
import Derived.BigQuiet
import Derived.Deep.DrawnRows
namespace Go.Proofs.YtnepinkookbanaaDoor.X
open Go.RowKit Go.Proofs.YtnepinkookbanaaDoorW.PrintWords Go.Proofs.YtnepinkookbanaaDoorW.PrintLast Go.Proofs.YtnepinkookbanaaDoorW.PrintMore Go.Proofs.YtnepinkookbanaaDoor.More
attribute [local go_sem] max2_int min2_int max_two min_two max_three min_three max_four min_four binOp_string_leq binOp_string_gtr   -- for this text's walks alone
set_option linter.unusedVariables false
set_option linter.unusedSimpArgs false

/-! ### label_Less: function 20 -/
/-- Does a label stand ahead of another one? From the k-th number on. -/
def lessK (a b c d a' b' c' d' : Int) : Nat → Bool
  | 0 => if a ≠ a' then decide (a < a') else if b ≠ b' then decide (b < b') else if c ≠ c' then decide (c < c') else if d ≠ d' then decide (d < d') else false
  | 1 => if b ≠ b' then decide (b < b') else if c ≠ c' then decide (c < c') else if d ≠ d' then decide (d < d') else false
  | 2 => if c ≠ c' then decide (c < c') else if d ≠ d' then decide (d < d') else false
  | 3 => if d ≠ d' then decide (d < d') else false
  | _ => false
def label_Less.f (a0_0 : Int) (a0_1 : Int) (a0_2 : Int) (a0_3 : Int) (a1_0 : Int) (a1_1 : Int) (a1_2 : Int) (a1_3 : Int) : Option Bool := some (lessK a0_0 a0_1 a0_2 a0_3 a1_0 a1_1 a1_2 a1_3 0)
def lessHeld (a b c d a' b' c' d' : Int) (w0 : World) (s5 s6 : Value) (wx : World) : Prop := ∃ g h : Nat, s5 = .pointer (some ⟨g, 0, none⟩) ∧ s6 = .pointer (some ⟨h, 0, none⟩) ∧
  wx.cell? ⟨g, 0, none⟩ = some (.int .i64 a) ∧ wx.cell? ⟨g, 1, none⟩ = some (.int .i64 b) ∧ wx.cell? ⟨g, 2, none⟩ = some (.int .i64 c) ∧ wx.cell? ⟨g, 3, none⟩ = some (.int .i64 d) ∧ wx.cell? ⟨h, 0, none⟩ = some (.int .i64 a') ∧ wx.cell? ⟨h, 1, none⟩ = some (.int .i64 b') ∧ wx.cell? ⟨h, 2, none⟩ = some (.int .i64 c') ∧ wx.cell? ⟨h, 3, none⟩ = some (.int .i64 d') ∧ Below w0.heap.size w0 wx
def lessAt (a b c d a' b' c' d' : Int) (r : Bool) (w0 : World) (g h k : Nat) (wx : World) : Prop := lessK a b c d a' b' c' d' k = r ∧ wx.cell? ⟨g, 0, none⟩ = some (.int .i64 a) ∧ wx.cell? ⟨g, 1, none⟩ = some (.int .i64 b) ∧ wx.cell? ⟨g, 2, none⟩ = some (.int .i64 c) ∧ wx.cell? ⟨g, 3, none⟩ = some (.int .i64 d) ∧ wx.cell? ⟨h, 0, none⟩ = some (.int .i64 a') ∧ wx.cell? ⟨h, 1, none⟩ = some (.int .i64 b') ∧ wx.cell? ⟨h, 2, none⟩ = some (.int .i64 c') ∧ wx.cell? ⟨h, 3, none⟩ = some (.int .i64 d') ∧ Below w0.heap.size w0 wx
theorem old_cells {W w1 : World} (hb : Below W.heap.size W w1) : (∀ b o, b < W.heap.size → w1.cell? ⟨b, o, none⟩ = W.cell? ⟨b, o, none⟩) ∧ (∀ b o, b < W.heap.size → w1.frozen? ⟨b, o, none⟩ = W.frozen? ⟨b, o, none⟩) :=
  ⟨fun b o h => hb.cell (p := ⟨b, o, none⟩) h, fun b o h => hb.frozen (p := ⟨b, o, none⟩) h⟩
attribute [local go_sem ↓] Go.wp_at_zero Go.wp_at_succ
set_option maxRecDepth 100000 in
set_option maxHeartbeats 8000000 in
theorem label_Less.calls (a0_0 : Int) (a0_1 : Int) (a0_2 : Int) (a0_3 : Int) (a1_0 : Int) (a1_1 : Int) (a1_2 : Int) (a1_3 : Int) (r : Bool) (w : World) (h : label_Less.f a0_0 a0_1 a0_2 a0_3 a1_0 a1_1 a1_2 a1_3 = some r) :
    Calls Tryd.prog 20 #[.agg #[.int .i64 a0_0, .int .i64 a0_1, .int .i64 a0_2, .int .i64 a0_3], .agg #[.int .i64 a1_0, .int .i64 a1_1, .int .i64 a1_2, .int .i64 a1_3]] w fun e w' => e = .returned (.bool r) ∧ Below w.heap.size w w' := by
  have hr := Option.some.inj h
  have HR := Aside0.mk hr
  clear h hr
  go_enter Tryd.func20, Tryd.ntmps20
  go_upto_region 1 with fail
  go_cut [5, 6] (fun s5 s6 wx => lessHeld a0_0 a0_1 a0_2 a0_3 a1_0 a1_1 a1_2 a1_3 w s5 s6 wx)
  case first =>
    go_region_with (first | (go_at_call_of 40 (Value.agg #[Value.int IntKind.i64 a0_0, Value.int IntKind.i64 a0_1, Value.int IntKind.i64 a0_2, Value.int IntKind.i64 a0_3]); refine (label_Text.numbers a0_0 a0_1 a0_2 a0_3 _).mono ?_; rintro e w1 ⟨rfl, hb1⟩; obtain ⟨hc1, hf1⟩ := old_cells hb1; have hz1 := hb1.size; (try simp at hz1); have HB1 : Below w.heap.size w w1 := below_then (by with_reducible repeat (first | exact Below.refl _ _ | exact Below.refl _ _ | apply below_alloc | apply below_drew1)) (by first | omega | (simp; done) | (simp; omega)) hb1; (try (have z10 : w.heap.size < w1.heap.size := by omega)); (try (have z11 : w.heap.size + 1 < w1.heap.size := by omega)); (try (have z12 : w.heap.size + 1 + 1 < w1.heap.size := by omega)); (try (have z13 : w.heap.size + 1 + 1 + 1 < w1.heap.size := by omega))) | (go_at_call_of 40 (Value.agg #[Value.int IntKind.i64 a1_0, Value.int IntKind.i64 a1_1, Value.int IntKind.i64 a1_2, Value.int IntKind.i64 a1_3]); refine (label_Text.numbers a1_0 a1_1 a1_2 a1_3 _).mono ?_; rintro e w2 ⟨rfl, hb2⟩; obtain ⟨hc2, hf2⟩ := old_cells hb2; have hz2 := hb2.size; (try simp at hz2); have HB2 : Below w.heap.size w w2 := below_then (by with_reducible repeat (first | exact HB1 | exact Below.refl _ _ | apply below_alloc | apply below_drew1)) (by first | omega | (simp; done) | (simp; omega)) hb2; (try (have z20 : w.heap.size < w2.heap.size := by omega)); (try (have z21 : w.heap.size + 1 < w2.heap.size := by omega)); (try (have z22 : w.heap.size + 1 + 1 < w2.heap.size := by omega)); (try (have z23 : w.heap.size + 1 + 1 + 1 < w2.heap.size := by omega)); (try (have z24 : w1.heap.size < w2.heap.size := by omega)); (try (have z25 : w1.heap.size + 1 < w2.heap.size := by omega))))
    all_goals (go_wp2_with fail; go_meet; refine ⟨_, _, rfl, rfl, ?_, ?_, ?_, ?_, ?_, ?_, ?_, ?_, ?_⟩ <;> first | (with_reducible (repeat (first | exact HB2 | refine below_alloc ?_ _ | refine below_set ?_ (by omega))); done) | (go_simp; done) | (go_simp; exact World.cell?_setCell_same _ _ _ (by go_simp; rfl)) | (go_simp; exact World.cell?_setCell_same _ _ (.int .i64 0) (by go_simp)))
  case rest =>
    obtain ⟨g, h, rfl, rfl, hx0, hx1, hx2, hx3, hy0, hy1, hy2, hy3, hbx⟩ := hcut
    have HB := Aside0.mk hbx
    clear hbx
    go_wp2
    go_loopw [12] (fun i wr => ∃ k : Nat, k ≤ 4 ∧ i = .int .i64 k ∧ lessAt a0_0 a0_1 a0_2 a0_3 a1_0 a1_1 a1_2 a1_3 r w g h k wr) (fun i _ => 4 - (intOf i).toNat)
    case atStart => exact ⟨0, Nat.zero_le _, rfl, HR.out, hx0, hx1, hx2, hx3, hy0, hy1, hy2, hy3, HB.out⟩
    case round =>
      clear hx0 hx1 hx2 hx3 hy0 hy1 hy2 hy3 HB HR
      obtain ⟨k, hk, rfl, hrk, hx0, hx1, hx2, hx3, hy0, hy1, hy2, hy3, hbx⟩ := hrel
      have HB := Aside0.mk hbx
      clear hbx
      rcases (show k = 0 ∨ k = 1 ∨ k = 2 ∨ k = 3 ∨ k = 4 from by omega) with rfl | rfl | rfl | rfl | rfl
      · by_cases e : a0_0 = a1_0
        · have e1 : (a0_0 == a1_0) = true := by rw [e]; exact beq_self_eq_true _
          have e2 : (a0_0 != a1_0) = false := by rw [bne, e1]; rfl
          have HRK : Aside0 (lessK a0_0 a0_1 a0_2 a0_3 a1_0 a1_1 a1_2 a1_3 1 = r) := ⟨by rw [← hrk]; simp [lessK, e]⟩
          clear e hrk
          go_wp2
          go_quiet (fail)
          go_wp2
          go_roundw
          case rel => exact ⟨1, by omega, by first | rfl | go_num, HRK.out, by simpa using hx0, by simpa using hx1, by simpa using hx2, by simpa using hx3, by simpa using hy0, by simpa using hy1, by simpa using hy2, by simpa using hy3, pw_below_drewN HB.out _⟩
          case measure => simp [intOf]
        · have e1 : (a0_0 == a1_0) = false := beq_eq_false_iff_ne.2 e
          have e2 : (a0_0 != a1_0) = true := by rw [bne, e1]; rfl
          have HRK : Aside0 (decide (a0_0 < a1_0) = r) := ⟨by rw [← hrk]; simp [lessK, e]⟩
          clear e hrk
          go_wp2
          go_quiet (fail)
          go_wp2
          go_quiet (fail)
          go_wp2
          go_ret
          exact ⟨by rw [← HRK.out]; rfl, pw_below_drewN (pw_below_drewN HB.out _) _⟩
      · by_cases e : a0_1 = a1_1
        · have e1 : (a0_1 == a1_1) = true := by rw [e]; exact beq_self_eq_true _
          have e2 : (a0_1 != a1_1) = false := by rw [bne, e1]; rfl
          have HRK : Aside0 (lessK a0_0 a0_1 a0_2 a0_3 a1_0 a1_1 a1_2 a1_3 2 = r) := ⟨by rw [← hrk]; simp [lessK, e]⟩
          clear e hrk
          go_wp2
          go_quiet (fail)
          go_wp2
          go_roundw
          case rel => exact ⟨2, by omega, by first | rfl | go_num, HRK.out, by simpa using hx0, by simpa using hx1, by simpa using hx2, by simpa using hx3, by simpa using hy0, by simpa using hy1, by simpa using hy2, by simpa using hy3, pw_below_drewN HB.out _⟩
          case measure => simp [intOf]
        · have e1 : (a0_1 == a1_1) = false := beq_eq_false_iff_ne.2 e
          have e2 : (a0_1 != a1_1) = true := by rw [bne, e1]; rfl
          have HRK : Aside0 (decide (a0_1 < a1_1) = r) := ⟨by rw [← hrk]; simp [lessK, e]⟩
          clear e hrk
          go_wp2
          go_quiet (fail)
          go_wp2
          go_quiet (fail)
          go_wp2
          go_ret
          exact ⟨by rw [← HRK.out]; rfl, pw_below_drewN (pw_below_drewN HB.out _) _⟩
      · by_cases e : a0_2 = a1_2
        · have e1 : (a0_2 == a1_2) = true := by rw [e]; exact beq_self_eq_true _
          have e2 : (a0_2 != a1_2) = false := by rw [bne, e1]; rfl
          have HRK : Aside0 (lessK a0_0 a0_1 a0_2 a0_3 a1_0 a1_1 a1_2 a1_3 3 = r) := ⟨by rw [← hrk]; simp [lessK, e]⟩
          clear e hrk
          go_wp2
          go_quiet (fail)
          go_wp2
          go_roundw
          case rel => exact ⟨3, by omega, by first | rfl | go_num, HRK.out, by simpa using hx0, by simpa using hx1, by simpa using hx2, by simpa using hx3, by simpa using hy0, by simpa using hy1, by simpa using hy2, by simpa using hy3, pw_below_drewN HB.out _⟩
          case measure => simp [intOf]
        · have e1 : (a0_2 == a1_2) = false := beq_eq_false_iff_ne.2 e
          have e2 : (a0_2 != a1_2) = true := by rw [bne, e1]; rfl
          have HRK : Aside0 (decide (a0_2 < a1_2) = r) := ⟨by rw [← hrk]; simp [lessK, e]⟩
          clear e hrk
          go_wp2
          go_quiet (fail)
          go_wp2
          go_quiet (fail)
          go_wp2
          go_ret
          exact ⟨by rw [← HRK.out]; rfl, pw_below_drewN (pw_below_drewN HB.out _) _⟩
      · by_cases e : a0_3 = a1_3
        · have e1 : (a0_3 == a1_3) = true := by rw [e]; exact beq_self_eq_true _
          have e2 : (a0_3 != a1_3) = false := by rw [bne, e1]; rfl
          have HRK : Aside0 (lessK a0_0 a0_1 a0_2 a0_3 a1_0 a1_1 a1_2 a1_3 4 = r) := ⟨by rw [← hrk]; simp [lessK, e]⟩
          clear e hrk
          go_wp2
          go_quiet (fail)
          go_wp2
          go_roundw
          case rel => exact ⟨4, by omega, by first | rfl | go_num, HRK.out, by simpa using hx0, by simpa using hx1, by simpa using hx2, by simpa using hx3, by simpa using hy0, by simpa using hy1, by simpa using hy2, by simpa using hy3, pw_below_drewN HB.out _⟩
          case measure => simp [intOf]
        · have e1 : (a0_3 == a1_3) = false := beq_eq_false_iff_ne.2 e
          have e2 : (a0_3 != a1_3) = true := by rw [bne, e1]; rfl
          have HRK : Aside0 (decide (a0_3 < a1_3) = r) := ⟨by rw [← hrk]; simp [lessK, e]⟩
          clear e hrk
          go_wp2
          go_quiet (fail)
          go_wp2
          go_quiet (fail)
          go_wp2
          go_ret
          exact ⟨by rw [← HRK.out]; rfl, pw_below_drewN (pw_below_drewN HB.out _) _⟩
      · have HRK : Aside0 (false = r) := ⟨by rw [← hrk]; rfl⟩
        clear hrk
        go_wp2
        go_ret
        exact ⟨by rw [← HRK.out]; rfl, HB.out⟩

end Go.Proofs.YtnepinkookbanaaDoor.X
