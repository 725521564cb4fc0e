/- Written by a program of this session over the kit's print: YtophnhmlknbmeaaF20. -/
import Derived.Test.YtophnhmlknbmeaaH
import Derived.Test.YtophnhmlknbmeaaF41
import Derived.Test.YtophnhmlknbmeaaF41
import Derived.WalkKit
import Derived.Deep.RegionWith
import Derived.Deep.QuietTactic
import Derived.BigQuiet
namespace Go.Proofs.Ytophnhmlknbmeaa.X
open Go.RowKit Go.Proofs.YtophnhmlknbmeaaW.PrintWords Go.Proofs.YtophnhmlknbmeaaW.PrintLast Go.Proofs.YtophnhmlknbmeaaW.PrintMore Go.Proofs.Ytophnhmlknbmeaa.More
attribute [local go_sem] max2_int min2_int max_two min_two max_three min_three max_four min_four binOp_string_leq binOp_string_gtr   -- for this text's walks alone
set_option linter.unusedVariables false
set_option linter.unusedSimpArgs false

/-! ### donjonlaw6_Good: function 20 -/
def donjonlaw6_Good.f (a0_0 a0_1 a0_2 a0_3 : Int) : Option (Int × Int × Int × Int) := (donjonlaw6_within.f a0_0 8).bind fun t1 => if 0 ≤ t1 ∧ t1 < 8 then (donjonlaw6_within.f a0_1 (8 - t1)).bind fun t2 => if 0 ≤ t2 ∧ t1 + t2 < 8 then (donjonlaw6_within.f a0_2 (8 - (t1 + t2))).bind fun t3 => if 0 ≤ t3 ∧ t1 + t2 + t3 < 8 then (donjonlaw6_within.f a0_3 17).bind fun t4 => some (t1, t1 + t2, t1 + t2 + t3, t4) else none else none else none
set_option maxHeartbeats 8000000 in
set_option maxRecDepth 100000 in
/-- One region: a number of a row's own block, reckoned by a call, is stored. -/
theorem donjonlaw6_Good.calls (a0_0 a0_1 a0_2 a0_3 : Int) (r1 r2 r3 r4 : Int) (w : World) (h : donjonlaw6_Good.f a0_0 a0_1 a0_2 a0_3 = some (r1, r2, r3, r4)) :
    Calls Try.prog 20 #[.agg #[.int .i64 a0_0, .int .i64 a0_1, .int .i64 a0_2, .int .i64 a0_3]] w fun e w' => e = .returned (.agg #[.int .i64 r1, .int .i64 r2, .int .i64 r3, .int .i64 r4]) ∧ Below w.heap.size w w' := by
  unfold donjonlaw6_Good.f at h
  obtain ⟨t1, q1, h⟩ := Option.bind_eq_some_iff.mp h
  by_cases c1 : 0 ≤ t1 ∧ t1 < 8
  · rw [if_pos c1] at h
    obtain ⟨t2, q2, h⟩ := Option.bind_eq_some_iff.mp h
    by_cases c2 : 0 ≤ t2 ∧ t1 + t2 < 8
    · rw [if_pos c2] at h
      obtain ⟨t3, q3, h⟩ := Option.bind_eq_some_iff.mp h
      by_cases c3 : 0 ≤ t3 ∧ t1 + t2 + t3 < 8
      · rw [if_pos c3] at h
        obtain ⟨t4, q4, h⟩ := Option.bind_eq_some_iff.mp h
        have HRR := Aside0.mk (Option.some.inj h)
        have Q1 := Aside0.mk q1
        have Q2 := Aside0.mk q2
        have Q3 := Aside0.mk q3
        have Q4 := Aside0.mk q4
        obtain ⟨c1a, c1b⟩ := c1
        obtain ⟨c2a, c2b⟩ := c2
        obtain ⟨c3a, c3b⟩ := c3
        have hu := Try.underlying26
        clear h q1 q2 q3 q4
        go_enter Try.func20, Try.ntmps20
        go_wp2_with fail
        refine (donjonlaw6_within.calls a0_0 8 t1 _ Q1.out).mono ?_
        rintro e w1 ⟨rfl, nd, hw1⟩
        have hb0 : (((w.alloc (.cells #[.int .i64 a0_0, .int .i64 a0_1, .int .i64 a0_2, .int .i64 a0_3] 26)).alloc (.cells #[.int .i64 0, .int .i64 0, .int .i64 0, .int .i64 0] 26))).heap[w.heap.size]? = some (.cells #[.int .i64 a0_0, .int .i64 a0_1, .int .i64 a0_2, .int .i64 a0_3] 26 (0, 0)) := blk_alloc (blk_new w _) _
        have hd0 : (((w.alloc (.cells #[.int .i64 a0_0, .int .i64 a0_1, .int .i64 a0_2, .int .i64 a0_3] 26)).alloc (.cells #[.int .i64 0, .int .i64 0, .int .i64 0, .int .i64 0] 26))).heap[w.heap.size + 1]? = some (.cells #[.int .i64 0, .int .i64 0, .int .i64 0, .int .i64 0] 26 (0, 0)) := by
          have h5 := blk_new (w.alloc (.cells #[.int .i64 a0_0, .int .i64 a0_1, .int .i64 a0_2, .int .i64 a0_3] 26)) (.cells #[.int .i64 0, .int .i64 0, .int .i64 0, .int .i64 0] 26)
          rw [show (w.alloc (.cells #[.int .i64 a0_0, .int .i64 a0_1, .int .i64 a0_2, .int .i64 a0_3] 26)).heap.size = w.heap.size + 1 by simp] at h5
          exact h5
        have HB1 : Aside0 (Below w.heap.size w w1) := ⟨by rw [hw1]; exact pw_below_drewN (below_alloc (below_alloc (Below.refl _ w) _) _) nd⟩
        have BA : Aside0 (w1.heap[w.heap.size]? = some (.cells #[.int .i64 a0_0, .int .i64 a0_1, .int .i64 a0_2, .int .i64 a0_3] 26 (0, 0))) := ⟨by rw [hw1]; exact blk_drewN hb0 nd⟩
        have BD : Aside0 (w1.heap[w.heap.size + 1]? = some (.cells #[.int .i64 0, .int .i64 0, .int .i64 0, .int .i64 0] 26 (0, 0))) := ⟨by rw [hw1]; exact blk_drewN hd0 nd⟩
        clear hw1 hb0 hd0
        have k0 := (blk_cell BA.out 0).trans rfl
        have k1 := blk_frozen BA.out 0
        go_wp2
        have BA2 : Aside0 ((w1.setCell ⟨w.heap.size, 0, none⟩ (.int .i64 t1)).heap[w.heap.size]? = some (.cells #[.int .i64 t1, .int .i64 a0_1, .int .i64 a0_2, .int .i64 a0_3] 26 (0, 0))) := ⟨blk_put BA.out 0 _ rfl⟩
        have BD2 : Aside0 ((w1.setCell ⟨w.heap.size, 0, none⟩ (.int .i64 t1)).heap[w.heap.size + 1]? = some (.cells #[.int .i64 0, .int .i64 0, .int .i64 0, .int .i64 0] 26 (0, 0))) := ⟨blk_far BD.out (by show w.heap.size + 1 ≠ w.heap.size; omega) _⟩
        have HB2 : Aside0 (Below w.heap.size w (w1.setCell ⟨w.heap.size, 0, none⟩ (.int .i64 t1))) := ⟨below_set HB1.out (Nat.le_refl _)⟩
        clear BA BD HB1 k0 k1
        generalize w1.setCell ⟨w.heap.size, 0, none⟩ (.int .i64 t1) = w2 at BA2 BD2 HB2 ⊢
        go_cut [15] (fun v15 wc => Aside0 (wc.heap[w.heap.size]? = some (.cells #[.int .i64 t1, .int .i64 (t1 + t2), .int .i64 a0_2, .int .i64 a0_3] 26 (0, 0))) ∧ Aside0 (wc.heap[w.heap.size + 1]? = some (.cells #[.int .i64 0, .int .i64 0, .int .i64 0, .int .i64 0] 26 (0, 0))) ∧ Aside0 (Below w.heap.size w wc))
        case first =>
          have k0 : w2.cell? ⟨w.heap.size, 0, none⟩ = some (.int .i64 t1) := (blk_cell BA2.out 0).trans rfl
          have k1 : w2.cell? ⟨w.heap.size, 1, none⟩ = some (.int .i64 a0_1) := (blk_cell BA2.out 1).trans rfl
          have f1 := blk_frozen BA2.out 1
          have e1 : IntKind.i64.wrap (8 - t1) = 8 - t1 := IntWalk.i64_in _ (by omega)
          have e2 : IntKind.i64.wrap (t1 + t2) = t1 + t2 := IntWalk.i64_in _ (by omega)
          go_region_with (go_at_call 41; ((with_reducible refine (donjonlaw6_within.calls a0_1 (8 - t1) t2 _ Q2.out).mono ?_); rintro e w' ⟨rfl, nd, rfl⟩))
          all_goals
           go_wp2
           go_meet
           case rel => exact ⟨⟨by (with_reducible repeat (first | refine blk_drewN ?_ _ | refine blk_drew ?_)); refine blk_put (cs := #[.int .i64 t1, .int .i64 a0_1, .int .i64 a0_2, .int .i64 a0_3]) ?_ 1 _ rfl; (with_reducible repeat (first | refine blk_drewN ?_ _ | refine blk_drew ?_)); exact BA2.out⟩, ⟨by (with_reducible repeat (first | refine blk_drewN ?_ _ | refine blk_drew ?_)); refine blk_far ?_ (by show w.heap.size + 1 ≠ w.heap.size; omega) _; (with_reducible repeat (first | refine blk_drewN ?_ _ | refine blk_drew ?_)); exact BD2.out⟩, ⟨by repeat (first | (with_reducible first | exact HB2.out | apply pw_below_drewN | apply below_drew1 | refine below_set ?_ (Nat.le_refl _)) | exact HB2.out)⟩⟩
        case rest =>
          clear BA2 BD2 HB2
          obtain ⟨BA3, BD3, HB3⟩ := hcut
          generalize wc = w3 at BA3 BD3 HB3 ⊢
          go_wp2
          go_cut [25] (fun v25 wc => Aside0 (wc.heap[w.heap.size]? = some (.cells #[.int .i64 t1, .int .i64 (t1 + t2), .int .i64 (t1 + t2 + t3), .int .i64 a0_3] 26 (0, 0))) ∧ Aside0 (wc.heap[w.heap.size + 1]? = some (.cells #[.int .i64 0, .int .i64 0, .int .i64 0, .int .i64 0] 26 (0, 0))) ∧ Aside0 (Below w.heap.size w wc))
          case first =>
            have k0 : w3.cell? ⟨w.heap.size, 1, none⟩ = some (.int .i64 (t1 + t2)) := (blk_cell BA3.out 1).trans rfl
            have k1 : w3.cell? ⟨w.heap.size, 2, none⟩ = some (.int .i64 a0_2) := (blk_cell BA3.out 2).trans rfl
            have f1 := blk_frozen BA3.out 2
            have e1 : IntKind.i64.wrap (8 - (t1 + t2)) = 8 - (t1 + t2) := IntWalk.i64_in _ (by omega)
            have e2 : IntKind.i64.wrap ((t1 + t2) + t3) = (t1 + t2) + t3 := IntWalk.i64_in _ (by omega)
            go_region_with (go_at_call 41; ((with_reducible refine (donjonlaw6_within.calls a0_2 (8 - (t1 + t2)) t3 _ Q3.out).mono ?_); rintro e w' ⟨rfl, nd, rfl⟩))
            all_goals
             go_wp2
             go_meet
             case rel => exact ⟨⟨by (with_reducible repeat (first | refine blk_drewN ?_ _ | refine blk_drew ?_)); refine blk_put (cs := #[.int .i64 t1, .int .i64 (t1 + t2), .int .i64 a0_2, .int .i64 a0_3]) ?_ 2 _ rfl; (with_reducible repeat (first | refine blk_drewN ?_ _ | refine blk_drew ?_)); exact BA3.out⟩, ⟨by (with_reducible repeat (first | refine blk_drewN ?_ _ | refine blk_drew ?_)); refine blk_far ?_ (by show w.heap.size + 1 ≠ w.heap.size; omega) _; (with_reducible repeat (first | refine blk_drewN ?_ _ | refine blk_drew ?_)); exact BD3.out⟩, ⟨by repeat (first | (with_reducible first | exact HB3.out | apply pw_below_drewN | apply below_drew1 | refine below_set ?_ (Nat.le_refl _)) | exact HB3.out)⟩⟩
          case rest =>
            clear BA3 BD3 HB3
            obtain ⟨BA4, BD4, HB4⟩ := hcut
            generalize wc = w4 at BA4 BD4 HB4 ⊢
            have k0 : w4.cell? ⟨w.heap.size, 3, none⟩ = some (.int .i64 a0_3) := (blk_cell BA4.out 3).trans rfl
            go_wp2_with fail
            refine (donjonlaw6_within.calls a0_3 17 t4 _ Q4.out).mono ?_
            rintro e w5 ⟨rfl, nd, hw5⟩
            have BA5 : Aside0 (w5.heap[w.heap.size]? = some (.cells #[.int .i64 t1, .int .i64 (t1 + t2), .int .i64 (t1 + t2 + t3), .int .i64 a0_3] 26 (0, 0))) := ⟨by rw [hw5]; exact blk_drewN BA4.out nd⟩
            have BD5 : Aside0 (w5.heap[w.heap.size + 1]? = some (.cells #[.int .i64 0, .int .i64 0, .int .i64 0, .int .i64 0] 26 (0, 0))) := ⟨by rw [hw5]; exact blk_drewN BD4.out nd⟩
            have HB5 : Aside0 (Below w.heap.size w w5) := ⟨by rw [hw5]; exact pw_below_drewN HB4.out nd⟩
            clear hw5 k0 BA4 BD4 HB4
            have k0 : w5.cell? ⟨w.heap.size, 0, none⟩ = some (.int .i64 t1) := (blk_cell BA5.out 0).trans rfl
            have k1 : w5.cell? ⟨w.heap.size, 1, none⟩ = some (.int .i64 (t1 + t2)) := (blk_cell BA5.out 1).trans rfl
            have k2 : w5.cell? ⟨w.heap.size, 2, none⟩ = some (.int .i64 (t1 + t2 + t3)) := (blk_cell BA5.out 2).trans rfl
            have k3 : w5.cell? ⟨w.heap.size, 3, none⟩ = some (.int .i64 a0_3) := (blk_cell BA5.out 3).trans rfl
            have d0 : w5.cell? ⟨w.heap.size + 1, 0, none⟩ = some (.int .i64 0) := (blk_cell BD5.out 0).trans rfl
            have d1 : w5.cell? ⟨w.heap.size + 1, 1, none⟩ = some (.int .i64 0) := (blk_cell BD5.out 1).trans rfl
            have d2 : w5.cell? ⟨w.heap.size + 1, 2, none⟩ = some (.int .i64 0) := (blk_cell BD5.out 2).trans rfl
            have d3 : w5.cell? ⟨w.heap.size + 1, 3, none⟩ = some (.int .i64 0) := (blk_cell BD5.out 3).trans rfl
            have f3 := blk_frozen BA5.out 3
            have g0 := blk_frozen BD5.out 0
            have g1 := blk_frozen BD5.out 1
            have g2 := blk_frozen BD5.out 2
            have g3 := blk_frozen BD5.out 3
            go_wp2
            have BR : ((((w5.setCell ⟨w.heap.size, 3, none⟩ (.int .i64 t4)).setCell ⟨w.heap.size + 1, 0, none⟩ (.int .i64 t1)).setCell ⟨w.heap.size + 1, 1, none⟩ (.int .i64 (t1 + t2))).setCell ⟨w.heap.size + 1, 2, none⟩ (.int .i64 (t1 + t2 + t3))).setCell ⟨w.heap.size + 1, 3, none⟩ (.int .i64 t4) |>.heap[w.heap.size + 1]? = some (.cells #[.int .i64 t1, .int .i64 (t1 + t2), .int .i64 (t1 + t2 + t3), .int .i64 t4] 26 (0, 0)) := by
              refine blk_put (cs := #[.int .i64 t1, .int .i64 (t1 + t2), .int .i64 (t1 + t2 + t3), .int .i64 0]) ?_ 3 _ rfl
              refine blk_put (cs := #[.int .i64 t1, .int .i64 (t1 + t2), .int .i64 0, .int .i64 0]) ?_ 2 _ rfl
              refine blk_put (cs := #[.int .i64 t1, .int .i64 0, .int .i64 0, .int .i64 0]) ?_ 1 _ rfl
              refine blk_put (cs := #[.int .i64 0, .int .i64 0, .int .i64 0, .int .i64 0]) ?_ 0 _ rfl
              exact blk_far BD5.out (by show w.heap.size + 1 ≠ w.heap.size; omega) _
            have HBR : Below w.heap.size w (((((w5.setCell ⟨w.heap.size, 3, none⟩ (.int .i64 t4)).setCell ⟨w.heap.size + 1, 0, none⟩ (.int .i64 t1)).setCell ⟨w.heap.size + 1, 1, none⟩ (.int .i64 (t1 + t2))).setCell ⟨w.heap.size + 1, 2, none⟩ (.int .i64 (t1 + t2 + t3))).setCell ⟨w.heap.size + 1, 3, none⟩ (.int .i64 t4)) := below_set (below_set (below_set (below_set (below_set HB5.out (Nat.le_refl _)) (by omega)) (by omega)) (by omega)) (by omega)
            obtain ⟨rfl, rfl, rfl, rfl⟩ : t1 = r1 ∧ t1 + t2 = r2 ∧ t1 + t2 + t3 = r3 ∧ t4 = r4 := by simpa using HRR.out
            refine bodyPost_ret (results_cell_row rfl _ _ (w.heap.size + 1) 26 #[.int .i64 t1, .int .i64 (t1 + t2), .int .i64 (t1 + t2 + t3), .int .i64 t4] (0, 0) _ rfl BR Try.underlying26 rfl (by kernel_rfl)) rfl ?_
            exact ⟨rfl, HBR⟩
      · rw [if_neg c3] at h
        exact absurd h (by simp)
    · rw [if_neg c2] at h
      exact absurd h (by simp)
  · rw [if_neg c1] at h
    exact absurd h (by simp)

end Go.Proofs.Ytophnhmlknbmeaa.X
