/- Written by a program of this session over the kit's print: YtcjkekdmmjfgeaaF9. -/
import Derived.Test.YtcjkekdmmjfgeaaH
import Derived.Test.YtcjkekdmmjfgeaaF31
import Derived.Test.YtcjkekdmmjfgeaaF32
import Derived.Test.YtcjkekdmmjfgeaaF33
import Derived.Test.YtcjkekdmmjfgeaaF34
import Derived.Test.YtcjkekdmmjfgeaaF35
namespace Go.Proofs.Ytcjkekdmmjfgeaa.X
open Go.RowKit Go.Proofs.YtcjkekdmmjfgeaaW.PrintWords Go.Proofs.YtcjkekdmmjfgeaaW.PrintLast Go.Proofs.YtcjkekdmmjfgeaaW.PrintMore Go.Proofs.Ytcjkekdmmjfgeaa.More
attribute [local go_sem] max2_int min2_int max_two min_two max_three min_three max_four min_four   -- for this text's walks alone
set_option linter.unusedVariables false
set_option linter.unusedSimpArgs false

/-! ### donjonlaw9_UserLower: function 9 -/
def donjonlaw9_UserLower.j0 : Nat → Int → List (S58) → Bool → Int → Int → Int → Int → Int → Int → Int → Int → Option (Bool)
  | 0, _, _, _, _, _, _, _, _, _, _, _ => none
  | k + 1, x1, x9, x21, x102000, x102001, x102002, x102003, x103000, x103001, x103002, x103003 => if x21 = true then (some true) else (if (x9.length : Int) = 0 then (none) else (if 0 ≤ (Int.tmod x1 (x9.length : Int)) then (if (Int.tmod x1 (x9.length : Int)) < (x9.length : Int) then ((donjonlaw4_Good.f x102000 x102001 x102002 x102003).bind fun bt108 => ((donjonlaw4_Good.f x103000 x103001 x103002 x103003).bind fun bt112 => ((donjonref4_Meet.f bt108.1 bt108.2.1 bt108.2.2.1 bt108.2.2.2 bt112.1 bt112.2.1 bt112.2.2.1 bt112.2.2.2).bind fun bt116 => (if ((rd_T58 x9 (Int.tmod x1 (x9.length : Int))).f0).size + ((rd_T58 x9 (Int.tmod x1 (x9.length : Int))).f0).size ≤ 9223372036854775807 then ((user_Enter.f k x9 ((rd_T58 x9 (Int.tmod x1 (x9.length : Int))).f0) (((rd_T58 x9 (Int.tmod x1 (x9.length : Int))).f0) ++ ((rd_T58 x9 (Int.tmod x1 (x9.length : Int))).f0)) bt108.1 bt108.2.1 bt108.2.2.1 bt108.2.2.2).bind fun t120 => (if t120 = 0 then ((user_Enter.f k x9 ((rd_T58 x9 (Int.tmod x1 (x9.length : Int))).f0) (((rd_T58 x9 (Int.tmod x1 (x9.length : Int))).f0) ++ ((rd_T58 x9 (Int.tmod x1 (x9.length : Int))).f0)) bt116.1 bt116.2.1 bt116.2.2.1 bt116.2.2.2).bind fun t121 => (some (t121 == 0))) else (some true))) else (none))))) else (none)) else (none)))
def donjonlaw9_UserLower.f (k : Nat) (l0 : List (S54)) (a1 : Int) (a2_0 : Int) (a2_1 : Int) (a2_2 : Int) (a2_3 : Int) (a3_0 : Int) (a3_1 : Int) (a3_2 : Int) (a3_3 : Int) : Option (Bool) := (donjonlaw9_known.f k).bind fun t103 => (if t103 = true then ((donjonlaw9_Some.f k l0).bind fun t104 => (if (t104.length : Int) = 0 then (donjonlaw9_UserLower.j0 k a1 t104 true a2_0 a2_1 a2_2 a2_3 a3_0 a3_1 a3_2 a3_3) else (donjonlaw9_UserLower.j0 k a1 t104 (decide (a1 < 0)) a2_0 a2_1 a2_2 a2_3 a3_0 a3_1 a3_2 a3_3))) else (some false))
theorem donjonlaw9_UserLower.mono_l : ∀ k, (∀ y0 y1 y2 y3 y4 y5 y6 y7 y8 y9 y10, LeO (donjonlaw9_UserLower.j0 k y0 y1 y2 y3 y4 y5 y6 y7 y8 y9 y10) (donjonlaw9_UserLower.j0 (k + 1) y0 y1 y2 y3 y4 y5 y6 y7 y8 y9 y10))
  | 0 => fun _ _ _ _ _ _ _ _ _ _ _ r h => by simp [donjonlaw9_UserLower.j0] at h
  | k + 1 => by
    have ih0 := donjonlaw9_UserLower.mono_l k
    · intro y0 y1 y2 y3 y4 y5 y6 y7 y8 y9 y10
      unfold donjonlaw9_UserLower.j0
      repeat' first
      | (with_reducible exact ih0 _ _ _ _ _ _ _ _ _ _ _)
      | (with_reducible exact donjonlaw9_Some.mono _ _)
      | (with_reducible exact donjonlaw9_known.mono _)
      | (with_reducible exact user_Enter.mono _ _ _ _ _ _ _ _)
      | (with_reducible exact LeO.refl _)
      | (with_reducible exact LeO.none _)
      | (with_reducible refine LeO.ite ?_ ?_)
      | (with_reducible refine LeO.bind ?_ (fun _ => ?_))
      | exact ih0 _ _ _ _ _ _ _ _ _ _ _
      | exact donjonlaw9_Some.mono _ _
      | exact donjonlaw9_known.mono _
      | exact user_Enter.mono _ _ _ _ _ _ _ _
      | exact LeO.none _
      | refine LeO.ite ?_ ?_
      | refine LeO.bind ?_ (fun _ => ?_)
theorem donjonlaw9_UserLower.mono : ∀ a0 a1 a2 a3 a4 a5 a6 a7 a8 a9 k, LeO (donjonlaw9_UserLower.f k a0 a1 a2 a3 a4 a5 a6 a7 a8 a9) (donjonlaw9_UserLower.f (k + 1) a0 a1 a2 a3 a4 a5 a6 a7 a8 a9) := by
  intro a0 a1 a2 a3 a4 a5 a6 a7 a8 a9 k
  have ih0 := donjonlaw9_UserLower.mono_l k
  unfold donjonlaw9_UserLower.f
  repeat' first
      | (with_reducible exact ih0 _ _ _ _ _ _ _ _ _ _ _)
      | (with_reducible exact donjonlaw9_Some.mono _ _)
      | (with_reducible exact donjonlaw9_known.mono _)
      | (with_reducible exact user_Enter.mono _ _ _ _ _ _ _ _)
      | (with_reducible exact LeO.refl _)
      | (with_reducible exact LeO.none _)
      | (with_reducible refine LeO.ite ?_ ?_)
      | (with_reducible refine LeO.bind ?_ (fun _ => ?_))
      | exact ih0 _ _ _ _ _ _ _ _ _ _ _
      | exact donjonlaw9_Some.mono _ _
      | exact donjonlaw9_known.mono _
      | exact user_Enter.mono _ _ _ _ _ _ _ _
      | exact LeO.none _
      | refine LeO.ite ?_ ?_
      | refine LeO.bind ?_ (fun _ => ?_)
set_option maxHeartbeats 8000000 in
set_option maxRecDepth 100000 in
theorem donjonlaw9_UserLower.calls (k : Nat) (A0 : Option Addr) (c0 : Nat) (l0 : List (S54)) (a1 : Int) (a2_0 : Int) (a2_1 : Int) (a2_2 : Int) (a2_3 : Int) (a3_0 : Int) (a3_1 : Int) (a3_2 : Int) (a3_3 : Int) (r : Bool) (w : World) (hr0 : Kd.C k54 w A0 l0.length l0) (hc0 : l0.length ≤ c0) (h : donjonlaw9_UserLower.f k l0 a1 a2_0 a2_1 a2_2 a2_3 a3_0 a3_1 a3_2 a3_3 = some r) :
    Calls Try.prog 9 #[.slice A0 l0.length c0, .int .i64 a1, .agg #[.int .i64 a2_0, .int .i64 a2_1, .int .i64 a2_2, .int .i64 a2_3], .agg #[.int .i64 a3_0, .int .i64 a3_1, .int .i64 a3_2, .int .i64 a3_3]] w fun e w' => e = .returned (.bool r) ∧ Below w.heap.size w w' := by
  have hu54 := Try.underlying54
  have HR0 := Aside0.mk hr0
  have HC0 := Aside0.mk hc0
  clear hr0 hc0
  have HB := Aside0.mk (Below.refl w.heap.size w)
  have H : ((donjonlaw9_known.f k).bind fun t103 => (if t103 = true then ((donjonlaw9_Some.f k l0).bind fun t104 => (if (t104.length : Int) = 0 then (donjonlaw9_UserLower.j0 k a1 t104 true a2_0 a2_1 a2_2 a2_3 a3_0 a3_1 a3_2 a3_3) else (donjonlaw9_UserLower.j0 k a1 t104 (decide (a1 < 0)) a2_0 a2_1 a2_2 a2_3 a3_0 a3_1 a3_2 a3_3))) else (some false))) = some r := h
  clear h
  replace H := Option.bind_eq_some_iff.mp H
  obtain ⟨t103, A50, H⟩ := H
  replace H : (if t103 = true then ((donjonlaw9_Some.f k l0).bind fun t104 => (if (t104.length : Int) = 0 then (donjonlaw9_UserLower.j0 k a1 t104 true a2_0 a2_1 a2_2 a2_3 a3_0 a3_1 a3_2 a3_3) else (donjonlaw9_UserLower.j0 k a1 t104 (decide (a1 < 0)) a2_0 a2_1 a2_2 a2_3 a3_0 a3_1 a3_2 a3_3))) else (some false)) = some r := H
  have A5 := Aside0.mk A50
  clear A50
  by_cases c6 : t103 = true
  · subst c6
    have H1 : ((donjonlaw9_Some.f k l0).bind fun t104 => (if (t104.length : Int) = 0 then (donjonlaw9_UserLower.j0 k a1 t104 true a2_0 a2_1 a2_2 a2_3 a3_0 a3_1 a3_2 a3_3) else (donjonlaw9_UserLower.j0 k a1 t104 (decide (a1 < 0)) a2_0 a2_1 a2_2 a2_3 a3_0 a3_1 a3_2 a3_3))) = some r := by rw [if_pos rfl] at H; exact H
    clear H
    have H := H1
    clear H1
    replace H := Option.bind_eq_some_iff.mp H
    obtain ⟨t104, A70, H⟩ := H
    replace H : (if (t104.length : Int) = 0 then (donjonlaw9_UserLower.j0 k a1 t104 true a2_0 a2_1 a2_2 a2_3 a3_0 a3_1 a3_2 a3_3) else (donjonlaw9_UserLower.j0 k a1 t104 (decide (a1 < 0)) a2_0 a2_1 a2_2 a2_3 a3_0 a3_1 a3_2 a3_3)) = some r := H
    have A7 := Aside0.mk A70
    clear A70
    have HC8 := Aside0.mk H
    clear H
    go_enter Try.func9, Try.ntmps9
    go_upto_region 4 with (first | ((with_reducible refine gate_dst (N := 6) rfl ?_); refine box_event ?hg (N := 6) ?hd (cs := #[.int .i64 a2_0, .int .i64 a2_1, .int .i64 a2_2, .int .i64 a2_3]) (t := 54) ?hr ?_; (case hd => rfl); (case hg => rfl); (case hr => first | (go_simp; done) | (go_simp; rfl)); intro gb101 hg w9 hbox hb; have n0_ := Aside0.mk (below_step (by repeat (first | (with_reducible first | exact HB.out | apply below_alloc | apply pw_below_drewN | apply below_drew1) | exact HB.out)) hb); have n1_ := Aside0.mk (hbox); have n2_ := Aside0.mk ((by rw [hg]; exact (below_size (by repeat (first | (with_reducible first | exact HB.out | apply below_alloc | apply pw_below_drewN | apply below_drew1) | exact HB.out))) : w.heap.size ≤ gb101)); have n3_ := Aside0.mk ((by rw [hg]; exact (below_size (by repeat (first | (with_reducible first | exact HB.out | apply below_alloc | apply pw_below_drewN | apply below_drew1) | exact HB.out))) : w.heap.size ≤ gb101)); clear HB; have HB := n0_; have BK101 := n1_; have GW101 := n2_; have GE101 := n3_; clear n0_ n1_ n2_ n3_; clear hb hbox hg) | ((with_reducible refine gate_dst (N := 7) rfl ?_); refine box_event ?hg (N := 7) ?hd (cs := #[.int .i64 a3_0, .int .i64 a3_1, .int .i64 a3_2, .int .i64 a3_3]) (t := 54) ?hr ?_; (case hd => rfl); (case hg => rfl); (case hr => first | (go_simp; done) | (go_simp; rfl)); intro gb102 hg w10 hbox hb; have n0_ := Aside0.mk (blk_below (g := gb101) (o := .cells #[.int .i64 a2_0, .int .i64 a2_1, .int .i64 a2_2, .int .i64 a2_3] 54 (0, 0)) (by (with_reducible repeat (first | refine blk_drewN ?_ _ | refine blk_drew ?_ | refine blk_alloc ?_ _)); exact BK101.out) hb); have n1_ := Aside0.mk (below_step (by repeat (first | (with_reducible first | exact HB.out | apply below_alloc | apply pw_below_drewN | apply below_drew1 | refine below_set ?_ GE101.out) | exact HB.out)) hb); have n2_ := Aside0.mk (hbox); have n3_ := Aside0.mk ((by rw [hg]; exact (below_size (by repeat (first | (with_reducible first | exact HB.out | apply below_alloc | apply pw_below_drewN | apply below_drew1 | refine below_set ?_ GE101.out) | exact HB.out))) : w.heap.size ≤ gb102)); have n4_ := Aside0.mk ((by rw [hg]; exact (below_size (by repeat (first | (with_reducible first | exact HB.out | apply below_alloc | apply pw_below_drewN | apply below_drew1 | refine below_set ?_ GE101.out) | exact HB.out))) : w.heap.size ≤ gb102)); have n5_ := Aside0.mk ((by rw [hg]; exact Nat.ne_of_lt (blk_lt (g := gb101) (o := .cells #[.int .i64 a2_0, .int .i64 a2_1, .int .i64 a2_2, .int .i64 a2_3] 54 (0, 0)) (by (with_reducible repeat (first | refine blk_drewN ?_ _ | refine blk_drew ?_ | refine blk_alloc ?_ _)); exact BK101.out)) : gb101 ≠ gb102)); have n6_ := Aside0.mk ((by rw [hg]; exact Nat.ne_of_gt (blk_lt (g := gb101) (o := .cells #[.int .i64 a2_0, .int .i64 a2_1, .int .i64 a2_2, .int .i64 a2_3] 54 (0, 0)) (by (with_reducible repeat (first | refine blk_drewN ?_ _ | refine blk_drew ?_ | refine blk_alloc ?_ _)); exact BK101.out)) : gb102 ≠ gb101)); clear BK101; clear HB; have BK101 := n0_; have HB := n1_; have BK102 := n2_; have GW102 := n3_; have GE102 := n4_; have NB101_102 := n5_; have NB102_101 := n6_; clear n0_ n1_ n2_ n3_ n4_ n5_ n6_; clear hb hbox hg) | ((with_reducible refine gate_callee (f := 31) rfl ?_); refine goesL_ (some 11) rfl rfl Try.func31 (by kernel_rfl) rfl #[] rfl (by (try simp only [List.map_toArray, List.map_cons, List.map_nil]); first | done | rfl | (simp only [List.length_drop, List.length_take]; rfl)) ?_; (with_reducible refine (donjonlaw9_known.calls k  true _ A5.out).mono ?_); rintro e w11 ⟨rfl, hb⟩; refine ⟨_, rfl, ?_⟩; have n0_ := Aside0.mk (blk_below (g := gb101) (o := .cells #[.int .i64 a2_0, .int .i64 a2_1, .int .i64 a2_2, .int .i64 a2_3] 54 (0, 0)) (by (with_reducible repeat (first | refine blk_drewN ?_ _ | refine blk_drew ?_ | refine blk_alloc ?_ _)); exact BK101.out) hb); have n1_ := Aside0.mk (blk_below (g := gb102) (o := .cells #[.int .i64 a3_0, .int .i64 a3_1, .int .i64 a3_2, .int .i64 a3_3] 54 (0, 0)) (by (with_reducible repeat (first | refine blk_drewN ?_ _ | refine blk_drew ?_ | refine blk_alloc ?_ _)); exact BK102.out) hb); have n2_ := Aside0.mk (below_step (by repeat (first | (with_reducible first | exact HB.out | apply below_alloc | apply pw_below_drewN | apply below_drew1 | refine below_set ?_ GE101.out | refine below_set ?_ GE102.out) | exact HB.out)) hb); clear BK101; clear BK102; clear HB; have BK101 := n0_; have BK102 := n1_; have HB := n2_; clear n0_ n1_ n2_; (try clear hb); (try clear hb2); (try clear hk); (try clear hi)) | ((with_reducible refine gate_callee (f := 32) rfl ?_); refine goesL_ (some 14) rfl rfl Try.func32 (by kernel_rfl) rfl #[.slice A0 l0.length c0] rfl (by (try simp only [List.map_toArray, List.map_cons, List.map_nil]); first | done | rfl | (simp only [List.length_drop, List.length_take]; rfl)) ?_; (with_reducible refine (donjonlaw9_Some.calls k _ _ l0 t104 _ ?side1 ?side2 A7.out).mono ?_); (case side1 => repeat (first | exact (Kd.C_below HR0.out HB.out) | (with_reducible refine Kd.C_alloc ?_ _) | (with_reducible refine Kd.C_drewN ?_ _) | (with_reducible refine Kd.C_drew ?_))); (case side2 => exact HC0.out); rintro e w12 ⟨v105, rfl, ho0, hb⟩; refine ⟨_, rfl, ?_⟩; have n0_ := Aside0.mk (Kd.R_lower ho0 (below_size (by repeat (first | (with_reducible first | exact HB.out | apply below_alloc | apply pw_below_drewN | apply below_drew1 | refine below_set ?_ GE101.out | refine below_set ?_ GE102.out) | exact HB.out)))); have n1_ := Aside0.mk (blk_below (g := gb101) (o := .cells #[.int .i64 a2_0, .int .i64 a2_1, .int .i64 a2_2, .int .i64 a2_3] 54 (0, 0)) (by (with_reducible repeat (first | refine blk_drewN ?_ _ | refine blk_drew ?_ | refine blk_alloc ?_ _)); exact BK101.out) hb); have n2_ := Aside0.mk (blk_below (g := gb102) (o := .cells #[.int .i64 a3_0, .int .i64 a3_1, .int .i64 a3_2, .int .i64 a3_3] 54 (0, 0)) (by (with_reducible repeat (first | refine blk_drewN ?_ _ | refine blk_drew ?_ | refine blk_alloc ?_ _)); exact BK102.out) hb); have n3_ := Aside0.mk (below_step (by repeat (first | (with_reducible first | exact HB.out | apply below_alloc | apply pw_below_drewN | apply below_drew1 | refine below_set ?_ GE101.out | refine below_set ?_ GE102.out) | exact HB.out)) hb); clear BK101; clear BK102; clear HB; have HO106 := n0_; have BK101 := n1_; have BK102 := n2_; have HB := n3_; clear n0_ n1_ n2_ n3_; (try clear hb); (try clear hb2); (try clear hk); (try clear hi); (try clear ho0)))
    (try simp only [Act.put, List.setIfInBounds_toArray, List.set_cons_zero, List.set_cons_succ])
    go_cut [21] (fun v21 wc => ∃ (kq : Nat) (x21_7 : Bool), v21 = .bool x21_7 ∧ Aside0 (donjonlaw9_UserLower.j0 kq a1 t104 x21_7 a2_0 a2_1 a2_2 a2_3 a3_0 a3_1 a3_2 a3_3 = some r) ∧ Aside0 (kq ≤ k) ∧ Aside0 (Kd.R k58 58 wc w.heap.size (fun _ => True) v105 t104) ∧ Aside0 (wc.heap[gb101]? = some (.cells #[.int .i64 a2_0, .int .i64 a2_1, .int .i64 a2_2, .int .i64 a2_3] 54 (0, 0))) ∧ Aside0 (wc.heap[gb102]? = some (.cells #[.int .i64 a3_0, .int .i64 a3_1, .int .i64 a3_2, .int .i64 a3_3] 54 (0, 0))) ∧ Aside0 (Below w.heap.size w wc))
    case first =>
      have H := HC8.out
      clear HC8
      by_cases c13 : (t104.length : Int) = 0
      · rw [if_pos c13] at H
        have c13b0 : ((t104.length : Int) == 0) = true := beq_iff_eq.mpr c13
        have c13b1 : ((t104.length : Int) != 0) = false := bne_eq_false_iff_eq.mpr c13
        clear c13
        (first | rw [c13b0] | (simp only [i64_w, i32_w]; rw [c13b0]) | skip)
        have H' := Aside0.mk H
        clear H
        obtain ⟨Ao14, co14, eo14⟩ := Kd.R_slice HO106.out
        subst eo14
        go_wp2
        go_meet
        case rel => exact ⟨_, (true), (by first | rfl | (simp; done) | (simp [*]; done)), H', ⟨by first | omega | exact Nat.le_refl _⟩, ⟨by (with_reducible repeat (first | apply Kd.R_alloc | apply Kd.R_drewN | apply Kd.R_drew)); exact HO106.out⟩, ⟨by (with_reducible repeat (first | refine blk_drewN ?_ _ | refine blk_drew ?_ | refine blk_alloc ?_ _)); exact BK101.out⟩, ⟨by (with_reducible repeat (first | refine blk_drewN ?_ _ | refine blk_drew ?_ | refine blk_alloc ?_ _)); exact BK102.out⟩, ⟨by repeat (first | (with_reducible first | exact HB.out | apply below_alloc | apply pw_below_drewN | apply below_drew1 | refine below_set ?_ GE101.out | refine below_set ?_ GE102.out) | exact HB.out)⟩⟩
      · rw [if_neg c13] at H
        have c13b0 : ((t104.length : Int) == 0) = false := beq_eq_false_iff_ne.mpr c13
        have c13b1 : ((t104.length : Int) != 0) = true := bne_iff_ne.mpr c13
        have c13b2 : ¬ (t104 = []) := fun h_ => c13 (by rw [h_]; rfl)
        (first | rw [c13b0] | (simp only [i64_w, i32_w]; rw [c13b0]) | skip)
        have H' := Aside0.mk H
        clear H
        obtain ⟨Ao15, co15, eo15⟩ := Kd.R_slice HO106.out
        subst eo15
        go_wp2
        go_meet
        case rel => exact ⟨_, (decide (a1 < 0)), (by first | rfl | (simp; done) | (simp [*]; done)), H', ⟨by first | omega | exact Nat.le_refl _⟩, ⟨by (with_reducible repeat (first | apply Kd.R_alloc | apply Kd.R_drewN | apply Kd.R_drew)); exact HO106.out⟩, ⟨by (with_reducible repeat (first | refine blk_drewN ?_ _ | refine blk_drew ?_ | refine blk_alloc ?_ _)); exact BK101.out⟩, ⟨by (with_reducible repeat (first | refine blk_drewN ?_ _ | refine blk_drew ?_ | refine blk_alloc ?_ _)); exact BK102.out⟩, ⟨by repeat (first | (with_reducible first | exact HB.out | apply below_alloc | apply pw_below_drewN | apply below_drew1 | refine below_set ?_ GE101.out | refine below_set ?_ GE102.out) | exact HB.out)⟩⟩
    case rest =>
      clear HC8
      try clear c1
      try clear p2
      try clear c3
      try clear c6
      try clear c9
      try clear c13
      try clear c13b0
      try clear c13b1
      try clear c13b2
      obtain ⟨kq, x21_7, rfl, HA, HJ7, HO_9, BK101, BK102, HB⟩ := hcut
      cases kq with
      | zero => exact absurd HA.out (by simp [donjonlaw9_UserLower.j0])
      | succ kj7 =>
        have H := HA.out
        clear HA
        simp only [donjonlaw9_UserLower.j0] at H
        by_cases c16 : x21_7 = true
        · subst c16
          have H1 : (some true) = some r := by rw [if_pos rfl] at H; exact H
          clear H
          have H := H1
          clear H1
          obtain rfl := Option.some.inj H
          go_wp2
          go_ret
          exact ⟨by first | rfl | (simp [errW_none, errW_some] <;> rfl) | (simp [*, errW_none, errW_some] <;> rfl), by repeat (first | (with_reducible first | exact HB.out | apply below_alloc | apply pw_below_drewN | apply below_drew1 | refine below_set ?_ GE101.out | refine below_set ?_ GE102.out) | exact HB.out)⟩
        · replace c16 := Bool.eq_false_iff.mpr c16
          subst c16
          have H1 : (if (t104.length : Int) = 0 then (none) else (if 0 ≤ (Int.tmod a1 (t104.length : Int)) then (if (Int.tmod a1 (t104.length : Int)) < (t104.length : Int) then ((donjonlaw4_Good.f a2_0 a2_1 a2_2 a2_3).bind fun bt108 => ((donjonlaw4_Good.f a3_0 a3_1 a3_2 a3_3).bind fun bt112 => ((donjonref4_Meet.f bt108.1 bt108.2.1 bt108.2.2.1 bt108.2.2.2 bt112.1 bt112.2.1 bt112.2.2.1 bt112.2.2.2).bind fun bt116 => (if ((rd_T58 t104 (Int.tmod a1 (t104.length : Int))).f0).size + ((rd_T58 t104 (Int.tmod a1 (t104.length : Int))).f0).size ≤ 9223372036854775807 then ((user_Enter.f kj7 t104 ((rd_T58 t104 (Int.tmod a1 (t104.length : Int))).f0) (((rd_T58 t104 (Int.tmod a1 (t104.length : Int))).f0) ++ ((rd_T58 t104 (Int.tmod a1 (t104.length : Int))).f0)) bt108.1 bt108.2.1 bt108.2.2.1 bt108.2.2.2).bind fun t120 => (if t120 = 0 then ((user_Enter.f kj7 t104 ((rd_T58 t104 (Int.tmod a1 (t104.length : Int))).f0) (((rd_T58 t104 (Int.tmod a1 (t104.length : Int))).f0) ++ ((rd_T58 t104 (Int.tmod a1 (t104.length : Int))).f0)) bt116.1 bt116.2.1 bt116.2.2.1 bt116.2.2.2).bind fun t121 => (some (t121 == 0))) else (some true))) else (none))))) else (none)) else (none))) = some r := by rw [if_neg (show ¬ (false = true) by decide)] at H; exact H
          clear H
          have H := H1
          clear H1
          by_cases c17 : (t104.length : Int) = 0
          · rw [if_pos c17] at H
            exact absurd H (by simp)
          · rw [if_neg c17] at H
            have c17b0 : ((t104.length : Int) == 0) = false := beq_eq_false_iff_ne.mpr c17
            have c17b1 : ((t104.length : Int) != 0) = true := bne_iff_ne.mpr c17
            have c17b2 : ¬ (t104 = []) := fun h_ => c17 (by rw [h_]; rfl)
            obtain ⟨ji18, hji18⟩ : ∃ j_ : Int, (Int.tmod a1 (t104.length : Int)) = j_ := ⟨_, rfl⟩
            replace H : (if 0 ≤ (ji18) then (if (ji18) < (t104.length : Int) then ((donjonlaw4_Good.f a2_0 a2_1 a2_2 a2_3).bind fun bt108 => ((donjonlaw4_Good.f a3_0 a3_1 a3_2 a3_3).bind fun bt112 => ((donjonref4_Meet.f bt108.1 bt108.2.1 bt108.2.2.1 bt108.2.2.2 bt112.1 bt112.2.1 bt112.2.2.1 bt112.2.2.2).bind fun bt116 => (if ((rd_T58 t104 (ji18)).f0).size + ((rd_T58 t104 (ji18)).f0).size ≤ 9223372036854775807 then ((user_Enter.f kj7 t104 ((rd_T58 t104 (ji18)).f0) (((rd_T58 t104 (ji18)).f0) ++ ((rd_T58 t104 (ji18)).f0)) bt108.1 bt108.2.1 bt108.2.2.1 bt108.2.2.2).bind fun t120 => (if t120 = 0 then ((user_Enter.f kj7 t104 ((rd_T58 t104 (ji18)).f0) (((rd_T58 t104 (ji18)).f0) ++ ((rd_T58 t104 (ji18)).f0)) bt116.1 bt116.2.1 bt116.2.2.1 bt116.2.2.2).bind fun t121 => (some (t121 == 0))) else (some true))) else (none))))) else (none)) else (none)) = some r := by first | (rw [hji18] at H; exact H) | (simp only [hji18] at H ⊢; exact H)
            by_cases c19 : 0 ≤ (ji18)
            · rw [if_pos c19] at H
              have c19b0 : decide (0 ≤ (ji18)) = true := decide_eq_true c19
              clear c19
              by_cases c20 : (ji18) < (t104.length : Int)
              · rw [if_pos c20] at H
                have c20b0 : decide ((ji18) < (t104.length : Int)) = true := decide_eq_true c20
                clear c20
                replace H := Option.bind_eq_some_iff.mp H
                obtain ⟨⟨t108, t109, t110, t111⟩, A210, H⟩ := H
                replace H : ((donjonlaw4_Good.f a3_0 a3_1 a3_2 a3_3).bind fun bt112 => ((donjonref4_Meet.f t108 t109 t110 t111 bt112.1 bt112.2.1 bt112.2.2.1 bt112.2.2.2).bind fun bt116 => (if ((rd_T58 t104 (ji18)).f0).size + ((rd_T58 t104 (ji18)).f0).size ≤ 9223372036854775807 then ((user_Enter.f kj7 t104 ((rd_T58 t104 (ji18)).f0) (((rd_T58 t104 (ji18)).f0) ++ ((rd_T58 t104 (ji18)).f0)) t108 t109 t110 t111).bind fun t120 => (if t120 = 0 then ((user_Enter.f kj7 t104 ((rd_T58 t104 (ji18)).f0) (((rd_T58 t104 (ji18)).f0) ++ ((rd_T58 t104 (ji18)).f0)) bt116.1 bt116.2.1 bt116.2.2.1 bt116.2.2.2).bind fun t121 => (some (t121 == 0))) else (some true))) else (none)))) = some r := H
                have A21 := Aside0.mk A210
                clear A210
                replace H := Option.bind_eq_some_iff.mp H
                obtain ⟨⟨t112, t113, t114, t115⟩, A220, H⟩ := H
                replace H : ((donjonref4_Meet.f t108 t109 t110 t111 t112 t113 t114 t115).bind fun bt116 => (if ((rd_T58 t104 (ji18)).f0).size + ((rd_T58 t104 (ji18)).f0).size ≤ 9223372036854775807 then ((user_Enter.f kj7 t104 ((rd_T58 t104 (ji18)).f0) (((rd_T58 t104 (ji18)).f0) ++ ((rd_T58 t104 (ji18)).f0)) t108 t109 t110 t111).bind fun t120 => (if t120 = 0 then ((user_Enter.f kj7 t104 ((rd_T58 t104 (ji18)).f0) (((rd_T58 t104 (ji18)).f0) ++ ((rd_T58 t104 (ji18)).f0)) bt116.1 bt116.2.1 bt116.2.2.1 bt116.2.2.2).bind fun t121 => (some (t121 == 0))) else (some true))) else (none))) = some r := H
                have A22 := Aside0.mk A220
                clear A220
                replace H := Option.bind_eq_some_iff.mp H
                obtain ⟨⟨t116, t117, t118, t119⟩, A230, H⟩ := H
                replace H : (if ((rd_T58 t104 (ji18)).f0).size + ((rd_T58 t104 (ji18)).f0).size ≤ 9223372036854775807 then ((user_Enter.f kj7 t104 ((rd_T58 t104 (ji18)).f0) (((rd_T58 t104 (ji18)).f0) ++ ((rd_T58 t104 (ji18)).f0)) t108 t109 t110 t111).bind fun t120 => (if t120 = 0 then ((user_Enter.f kj7 t104 ((rd_T58 t104 (ji18)).f0) (((rd_T58 t104 (ji18)).f0) ++ ((rd_T58 t104 (ji18)).f0)) t116 t117 t118 t119).bind fun t121 => (some (t121 == 0))) else (some true))) else (none)) = some r := H
                have A23 := Aside0.mk A230
                clear A230
                by_cases c24 : ((rd_T58 t104 (ji18)).f0).size + ((rd_T58 t104 (ji18)).f0).size ≤ 9223372036854775807
                · rw [if_pos c24] at H
                  have c24b0 := eq_true c24
                  have c24b1 : decide (((rd_T58 t104 (ji18)).f0).size + ((rd_T58 t104 (ji18)).f0).size ≤ 9223372036854775807) = true := decide_eq_true c24
                  try have c24b2 : (9223372036854775807 < ((rd_T58 t104 (ji18)).f0).size + ((rd_T58 t104 (ji18)).f0).size) = False := eq_false (Nat.not_lt.2 c24)
                  replace H := Option.bind_eq_some_iff.mp H
                  obtain ⟨t120, A250, H⟩ := H
                  replace H : (if t120 = 0 then ((user_Enter.f kj7 t104 ((rd_T58 t104 (ji18)).f0) (((rd_T58 t104 (ji18)).f0) ++ ((rd_T58 t104 (ji18)).f0)) t116 t117 t118 t119).bind fun t121 => (some (t121 == 0))) else (some true)) = some r := H
                  have A25 := Aside0.mk A250
                  clear A250
                  by_cases c26 : t120 = 0
                  · rw [if_pos c26] at H
                    have c26b0 : (t120 == 0) = true := beq_iff_eq.mpr c26
                    have c26b1 : (t120 != 0) = false := bne_eq_false_iff_eq.mpr c26
                    clear c26
                    replace H := Option.bind_eq_some_iff.mp H
                    obtain ⟨t121, A270, H⟩ := H
                    replace H : (some (t121 == 0)) = some r := H
                    have A27 := Aside0.mk A270
                    clear A270
                    obtain rfl := Option.some.inj H
                    obtain ⟨Ao28, co28, eo28⟩ := Kd.R_slice HO_9.out
                    subst eo28
                    have p107 : 0 ≤ ((ji18) : Int) := of_decide_eq_true (by first | (with_reducible assumption) | assumption)
                    have q107 : (ji18) < (t104.length : Int) := of_decide_eq_true (by first | (with_reducible assumption) | assumption)
                    obtain ⟨ad107, e107, hx107_0, hx107_1, hx107_2, hx107_3, hx107_4, hx107_5, hx107_6, hx107_7⟩ := at_T58 (Kd.R_reads' HO_9.out).2.2 (ji18) p107 q107
                    cases e107
                    replace p107 := eq_true p107
                    replace q107 := eq_true q107
                    have hnb29 := NB101_102.out
                    have hnc29 := NB102_101.out
                    have hcz30_0 : wc.cell? ⟨gb101, 0, none⟩ = some (.int .i64 a2_0) := (blk_cell BK101.out 0).trans rfl
                    have hcz30_1 : wc.cell? ⟨gb101, 1, none⟩ = some (.int .i64 a2_1) := (blk_cell BK101.out 1).trans rfl
                    have hcz30_2 : wc.cell? ⟨gb101, 2, none⟩ = some (.int .i64 a2_2) := (blk_cell BK101.out 2).trans rfl
                    have hcz30_3 : wc.cell? ⟨gb101, 3, none⟩ = some (.int .i64 a2_3) := (blk_cell BK101.out 3).trans rfl
                    have hfz30_0 := blk_frozen BK101.out 0
                    have hfz30_1 := blk_frozen BK101.out 1
                    have hfz30_2 := blk_frozen BK101.out 2
                    have hfz30_3 := blk_frozen BK101.out 3
                    try go_wp2_with (first | ((with_reducible refine gate_callee (f := 33) rfl ?_); refine goesL_ (some 31) rfl rfl Try.func33 (by kernel_rfl) rfl #[.agg #[.int .i64 a2_0, .int .i64 a2_1, .int .i64 a2_2, .int .i64 a2_3]] rfl (by (try simp only [List.map_toArray, List.map_cons, List.map_nil]); first | done | rfl | (simp only [List.length_drop, List.length_take]; rfl)) ?_; (with_reducible refine (donjonlaw4_Good.calls a2_0 a2_1 a2_2 a2_3 t108 t109 t110 t111 _ A21.out).mono ?_); rintro e w31 ⟨rfl, hb⟩; refine ⟨_, rfl, ?_⟩; have n0_ := Aside0.mk (Kd.R_below (by (with_reducible repeat (first | apply Kd.R_alloc | apply Kd.R_drewN | apply Kd.R_drew)); exact HO_9.out) hb); have n1_ := Aside0.mk (blk_below (g := gb101) (o := .cells #[.int .i64 a2_0, .int .i64 a2_1, .int .i64 a2_2, .int .i64 a2_3] 54 (0, 0)) (by (with_reducible repeat (first | refine blk_drewN ?_ _ | refine blk_drew ?_ | refine blk_alloc ?_ _)); exact BK101.out) hb); have n2_ := Aside0.mk (blk_below (g := gb102) (o := .cells #[.int .i64 a3_0, .int .i64 a3_1, .int .i64 a3_2, .int .i64 a3_3] 54 (0, 0)) (by (with_reducible repeat (first | refine blk_drewN ?_ _ | refine blk_drew ?_ | refine blk_alloc ?_ _)); exact BK102.out) hb); have n3_ := Aside0.mk (below_step (by repeat (first | (with_reducible first | exact HB.out | apply below_alloc | apply pw_below_drewN | apply below_drew1 | refine below_set ?_ GE101.out | refine below_set ?_ GE102.out) | exact HB.out)) hb); clear HO_9; clear BK101; clear BK102; clear HB; have HO_9 := n0_; have BK101 := n1_; have BK102 := n2_; have HB := n3_; clear n0_ n1_ n2_ n3_; (try clear hb); (try clear hb2); (try clear hk); (try clear hi); have hcz32_0 : w31.cell? ⟨gb101, 0, none⟩ = some (.int .i64 a2_0) := (blk_cell BK101.out 0).trans rfl; have hcz32_1 : w31.cell? ⟨gb101, 1, none⟩ = some (.int .i64 a2_1) := (blk_cell BK101.out 1).trans rfl; have hcz32_2 : w31.cell? ⟨gb101, 2, none⟩ = some (.int .i64 a2_2) := (blk_cell BK101.out 2).trans rfl; have hcz32_3 : w31.cell? ⟨gb101, 3, none⟩ = some (.int .i64 a2_3) := (blk_cell BK101.out 3).trans rfl; have hfz32_0 := blk_frozen BK101.out 0; have hfz32_1 := blk_frozen BK101.out 1; have hfz32_2 := blk_frozen BK101.out 2; have hfz32_3 := blk_frozen BK101.out 3))
                    have n0_ : Aside0 (Kd.R k58 58 ((((w31.setCell ⟨gb101, 0, none⟩ (.int .i64 t108)).setCell ⟨gb101, 1, none⟩ (.int .i64 t109)).setCell ⟨gb101, 2, none⟩ (.int .i64 t110)).setCell ⟨gb101, 3, none⟩ (.int .i64 t111)) w.heap.size (fun _ => True) (.slice (some ad107) t104.length co28) t104) := ⟨by (with_reducible repeat (first | apply Kd.R_alloc | apply Kd.R_drewN | apply Kd.R_drew)); exact Kd.R_mono (Kd.R_far (p := ⟨gb101, 3, none⟩) (Kd.R_far (p := ⟨gb101, 2, none⟩) (Kd.R_far (p := ⟨gb101, 1, none⟩) (Kd.R_far (p := ⟨gb101, 0, none⟩) (Kd.R_types HO_9.out BK101.out (by decide)) (fun _ hk => hk.2) (.int .i64 t108)) (fun _ hk => hk.2) (.int .i64 t109)) (fun _ hk => hk.2) (.int .i64 t110)) (fun _ hk => hk.2) (.int .i64 t111)) (fun _ hk => trivial)⟩
                    have n1_ : Aside0 (((((w31.setCell ⟨gb101, 0, none⟩ (.int .i64 t108)).setCell ⟨gb101, 1, none⟩ (.int .i64 t109)).setCell ⟨gb101, 2, none⟩ (.int .i64 t110)).setCell ⟨gb101, 3, none⟩ (.int .i64 t111)).heap[gb101]? = some (.cells #[.int .i64 t108, .int .i64 t109, .int .i64 t110, .int .i64 t111] 54 (0, 0))) := ⟨by (with_reducible repeat (first | refine blk_drewN ?_ _ | refine blk_drew ?_ | refine blk_alloc ?_ _)); refine blk_put (cs := #[.int .i64 t108, .int .i64 t109, .int .i64 t110, .int .i64 a2_3]) ?_ 3 _ rfl; (with_reducible repeat (first | refine blk_drewN ?_ _ | refine blk_drew ?_ | refine blk_alloc ?_ _)); refine blk_put (cs := #[.int .i64 t108, .int .i64 t109, .int .i64 a2_2, .int .i64 a2_3]) ?_ 2 _ rfl; (with_reducible repeat (first | refine blk_drewN ?_ _ | refine blk_drew ?_ | refine blk_alloc ?_ _)); refine blk_put (cs := #[.int .i64 t108, .int .i64 a2_1, .int .i64 a2_2, .int .i64 a2_3]) ?_ 1 _ rfl; (with_reducible repeat (first | refine blk_drewN ?_ _ | refine blk_drew ?_ | refine blk_alloc ?_ _)); refine blk_put (cs := #[.int .i64 a2_0, .int .i64 a2_1, .int .i64 a2_2, .int .i64 a2_3]) ?_ 0 _ rfl; (with_reducible repeat (first | refine blk_drewN ?_ _ | refine blk_drew ?_ | refine blk_alloc ?_ _)); exact BK101.out⟩
                    have n2_ : Aside0 (((((w31.setCell ⟨gb101, 0, none⟩ (.int .i64 t108)).setCell ⟨gb101, 1, none⟩ (.int .i64 t109)).setCell ⟨gb101, 2, none⟩ (.int .i64 t110)).setCell ⟨gb101, 3, none⟩ (.int .i64 t111)).heap[gb102]? = some (.cells #[.int .i64 a3_0, .int .i64 a3_1, .int .i64 a3_2, .int .i64 a3_3] 54 (0, 0))) := ⟨by (with_reducible repeat (first | refine blk_drewN ?_ _ | refine blk_drew ?_ | refine blk_alloc ?_ _)); refine blk_far ?_ NB102_101.out _; (with_reducible repeat (first | refine blk_drewN ?_ _ | refine blk_drew ?_ | refine blk_alloc ?_ _)); refine blk_far ?_ NB102_101.out _; (with_reducible repeat (first | refine blk_drewN ?_ _ | refine blk_drew ?_ | refine blk_alloc ?_ _)); refine blk_far ?_ NB102_101.out _; (with_reducible repeat (first | refine blk_drewN ?_ _ | refine blk_drew ?_ | refine blk_alloc ?_ _)); refine blk_far ?_ NB102_101.out _; (with_reducible repeat (first | refine blk_drewN ?_ _ | refine blk_drew ?_ | refine blk_alloc ?_ _)); exact BK102.out⟩
                    have n3_ : Aside0 (Below w.heap.size w ((((w31.setCell ⟨gb101, 0, none⟩ (.int .i64 t108)).setCell ⟨gb101, 1, none⟩ (.int .i64 t109)).setCell ⟨gb101, 2, none⟩ (.int .i64 t110)).setCell ⟨gb101, 3, none⟩ (.int .i64 t111))) := ⟨by repeat (first | (with_reducible first | exact HB.out | apply below_alloc | apply pw_below_drewN | apply below_drew1 | refine below_set ?_ GE101.out | refine below_set ?_ GE102.out) | exact HB.out)⟩
                    (try clear HO_9)
                    (try clear BK101)
                    (try clear BK102)
                    (try clear HB)
                    generalize ((((w31.setCell ⟨gb101, 0, none⟩ (.int .i64 t108)).setCell ⟨gb101, 1, none⟩ (.int .i64 t109)).setCell ⟨gb101, 2, none⟩ (.int .i64 t110)).setCell ⟨gb101, 3, none⟩ (.int .i64 t111)) = w33 at n0_ n1_ n2_ n3_ ⊢
                    have HO_9 := n0_
                    have BK101 := n1_
                    have BK102 := n2_
                    have HB := n3_
                    clear n0_ n1_ n2_ n3_
                    have n0_ := Aside0.mk (Kd.R_drew HO_9.out)
                    have n1_ := Aside0.mk (blk_drew BK101.out)
                    have n2_ := Aside0.mk (blk_drew BK102.out)
                    have n3_ := Aside0.mk (below_drew1 HB.out)
                    clear HO_9
                    clear BK101
                    clear BK102
                    clear HB
                    have HO_9 := n0_
                    have BK101 := n1_
                    have BK102 := n2_
                    have HB := n3_
                    clear n0_ n1_ n2_ n3_
                    refine start_ (n := 5) (S := fun w' => w'.cell? ⟨gb101, 0, none⟩ = some (.int .i64 t108) ∧ w'.cell? ⟨gb101, 1, none⟩ = some (.int .i64 t109) ∧ w'.cell? ⟨gb101, 2, none⟩ = some (.int .i64 t110) ∧ w'.cell? ⟨gb101, 3, none⟩ = some (.int .i64 t111) ∧ w'.cell? ⟨gb102, 0, none⟩ = some (.int .i64 a3_0) ∧ w'.cell? ⟨gb102, 1, none⟩ = some (.int .i64 a3_1) ∧ w'.cell? ⟨gb102, 2, none⟩ = some (.int .i64 a3_2) ∧ w'.cell? ⟨gb102, 3, none⟩ = some (.int .i64 a3_3)) (ds := [4]) #[false, false, false, false, false] (by kernel_rfl) rfl rfl ⟨(blk_cell BK101.out 0).trans rfl, (blk_cell BK101.out 1).trans rfl, (blk_cell BK101.out 2).trans rfl, (blk_cell BK101.out 3).trans rfl, (blk_cell BK102.out 0).trans rfl, (blk_cell BK102.out 1).trans rfl, (blk_cell BK102.out 2).trans rfl, (blk_cell BK102.out 3).trans rfl⟩ (fun hHeld => ?_)
                    generalize w33.drew = w34 at HO_9 BK101 BK102 HB hHeld ⊢
                    refine take_ (i := 0) (N := some 32) (v := ?_) (a' := ?_) #[true, false, false, false, false] rfl rfl (by kernel_rfl) (fun _ _ _ h => h) (Or.inl ⟨by rfl, ?_⟩) hHeld ?_ ?_
                    rotate_left
                    · rintro w' ⟨s0, s1, s2, s3, s4, s5, s6, s7⟩
                      go_simp
                      with_reducible rfl
                    rotate_left
                    · simp only [Act.put, List.setIfInBounds_toArray, List.set_cons_zero, List.set_cons_succ, i64_w, i32_w]
                      rfl
                    refine take_ (i := 1) (N := some 33) (v := ?_) (a' := ?_) #[true, true, false, false, false] rfl rfl (by kernel_rfl) (fun _ _ _ h => h) (Or.inl ⟨by rfl, ?_⟩) hHeld ?_ ?_
                    rotate_left
                    · rintro w' ⟨s0, s1, s2, s3, s4, s5, s6, s7⟩
                      go_simp
                      with_reducible rfl
                    rotate_left
                    · simp only [Act.put, List.setIfInBounds_toArray, List.set_cons_zero, List.set_cons_succ, i64_w, i32_w]
                      rfl
                    refine one_ (i := 2) (N := some 34) #[true, true, true, false, false] rfl rfl (by kernel_rfl) (by decide) (fun K hK => ?_)
                    refine goes_ Try.func33 (by kernel_rfl) rfl #[.agg #[.int .i64 a3_0, .int .i64 a3_1, .int .i64 a3_2, .int .i64 a3_3]] (by rfl) rfl rfl (by (try simp only [List.map_toArray, List.map_cons, List.map_nil]); first | done | rfl | (simp only [List.length_drop, List.length_take]; rfl)) ?_
                    with_reducible refine (donjonlaw4_Good.calls a3_0 a3_1 a3_2 a3_3 t112 t113 t114 t115 _ A22.out).mono ?_
                    rintro e w35 ⟨rfl, hb⟩
                    refine ⟨_, rfl, ?_⟩
                    have n0_ := Aside0.mk (Kd.R_below (by (with_reducible repeat (first | apply Kd.R_alloc | apply Kd.R_drewN | apply Kd.R_drew)); exact HO_9.out) hb)
                    have n1_ := Aside0.mk (blk_below (g := gb101) (o := .cells #[.int .i64 t108, .int .i64 t109, .int .i64 t110, .int .i64 t111] 54 (0, 0)) (by (with_reducible repeat (first | refine blk_drewN ?_ _ | refine blk_drew ?_ | refine blk_alloc ?_ _)); exact BK101.out) hb)
                    have n2_ := Aside0.mk (blk_below (g := gb102) (o := .cells #[.int .i64 a3_0, .int .i64 a3_1, .int .i64 a3_2, .int .i64 a3_3] 54 (0, 0)) (by (with_reducible repeat (first | refine blk_drewN ?_ _ | refine blk_drew ?_ | refine blk_alloc ?_ _)); exact BK102.out) hb)
                    have n3_ := Aside0.mk (below_step (by repeat (first | (with_reducible first | exact HB.out | apply below_alloc | apply pw_below_drewN | apply below_drew1 | refine below_set ?_ GE101.out | refine below_set ?_ GE102.out) | exact HB.out)) hb)
                    clear HO_9
                    clear BK101
                    clear BK102
                    clear HB
                    have HO_9 := n0_
                    have BK101 := n1_
                    have BK102 := n2_
                    have HB := n3_
                    clear n0_ n1_ n2_ n3_
                    (try clear hb)
                    (try clear hb2)
                    (try clear hk)
                    (try clear hi)
                    refine hK.out _ _ ⟨(blk_cell BK101.out 0).trans rfl, (blk_cell BK101.out 1).trans rfl, (blk_cell BK101.out 2).trans rfl, (blk_cell BK101.out 3).trans rfl, (blk_cell BK102.out 0).trans rfl, (blk_cell BK102.out 1).trans rfl, (blk_cell BK102.out 2).trans rfl, (blk_cell BK102.out 3).trans rfl⟩ (fun hHeld => ?_)
                    clear hK K
                    refine norm_ (a' := ?_) ?_ ?_
                    rotate_left
                    · show Act.put _ (some 34) _ = _
                      simp only [Act.put, List.setIfInBounds_toArray, List.set_cons_zero, List.set_cons_succ, i64_w, i32_w]
                      rfl
                    refine one_ (i := 3) (N := some 35) #[true, true, true, true, false] rfl rfl (by kernel_rfl) (by decide) (fun K hK => ?_)
                    refine goes_ Try.func34 (by kernel_rfl) rfl #[.agg #[.int .i64 t108, .int .i64 t109, .int .i64 t110, .int .i64 t111], .agg #[.int .i64 t112, .int .i64 t113, .int .i64 t114, .int .i64 t115]] (by rfl) rfl rfl (by (try simp only [List.map_toArray, List.map_cons, List.map_nil]); first | done | rfl | (simp only [List.length_drop, List.length_take]; rfl)) ?_
                    with_reducible refine (donjonref4_Meet.calls t108 t109 t110 t111 t112 t113 t114 t115 t116 t117 t118 t119 _ A23.out).mono ?_
                    rintro e w36 ⟨rfl, hb⟩
                    refine ⟨_, rfl, ?_⟩
                    have n0_ := Aside0.mk (Kd.R_below (by (with_reducible repeat (first | apply Kd.R_alloc | apply Kd.R_drewN | apply Kd.R_drew)); exact HO_9.out) hb)
                    have n1_ := Aside0.mk (blk_below (g := gb101) (o := .cells #[.int .i64 t108, .int .i64 t109, .int .i64 t110, .int .i64 t111] 54 (0, 0)) (by (with_reducible repeat (first | refine blk_drewN ?_ _ | refine blk_drew ?_ | refine blk_alloc ?_ _)); exact BK101.out) hb)
                    have n2_ := Aside0.mk (blk_below (g := gb102) (o := .cells #[.int .i64 a3_0, .int .i64 a3_1, .int .i64 a3_2, .int .i64 a3_3] 54 (0, 0)) (by (with_reducible repeat (first | refine blk_drewN ?_ _ | refine blk_drew ?_ | refine blk_alloc ?_ _)); exact BK102.out) hb)
                    have n3_ := Aside0.mk (below_step (by repeat (first | (with_reducible first | exact HB.out | apply below_alloc | apply pw_below_drewN | apply below_drew1 | refine below_set ?_ GE101.out | refine below_set ?_ GE102.out) | exact HB.out)) hb)
                    clear HO_9
                    clear BK101
                    clear BK102
                    clear HB
                    have HO_9 := n0_
                    have BK101 := n1_
                    have BK102 := n2_
                    have HB := n3_
                    clear n0_ n1_ n2_ n3_
                    (try clear hb)
                    (try clear hb2)
                    (try clear hk)
                    (try clear hi)
                    refine hK.out _ _ ⟨(blk_cell BK101.out 0).trans rfl, (blk_cell BK101.out 1).trans rfl, (blk_cell BK101.out 2).trans rfl, (blk_cell BK101.out 3).trans rfl, (blk_cell BK102.out 0).trans rfl, (blk_cell BK102.out 1).trans rfl, (blk_cell BK102.out 2).trans rfl, (blk_cell BK102.out 3).trans rfl⟩ (fun hHeld => ?_)
                    clear hK K
                    refine norm_ (a' := ?_) ?_ ?_
                    rotate_left
                    · show Act.put _ (some 35) _ = _
                      simp only [Act.put, List.setIfInBounds_toArray, List.set_cons_zero, List.set_cons_succ, i64_w, i32_w]
                      rfl
                    refine last_ (i := 4) (N := none) #[true, true, true, true, true] rfl rfl (by kernel_rfl) (by decide) (fun K hK => ?_)
                    have hs37 : w36.cell? ⟨gb102, 0, none⟩ = some (.int .i64 a3_0) := (blk_cell BK102.out 0).trans rfl
                    have hfs37 := blk_frozen BK102.out 0
                    have hns37_0 := NB101_102.out
                    have hms37_0 := NB102_101.out
                    have hs38 : w36.cell? ⟨gb102, 1, none⟩ = some (.int .i64 a3_1) := (blk_cell BK102.out 1).trans rfl
                    have hfs38 := blk_frozen BK102.out 1
                    have hns38_0 := NB101_102.out
                    have hms38_0 := NB102_101.out
                    have hs39 : w36.cell? ⟨gb102, 2, none⟩ = some (.int .i64 a3_2) := (blk_cell BK102.out 2).trans rfl
                    have hfs39 := blk_frozen BK102.out 2
                    have hns39_0 := NB101_102.out
                    have hms39_0 := NB102_101.out
                    have hs40 : w36.cell? ⟨gb102, 3, none⟩ = some (.int .i64 a3_3) := (blk_cell BK102.out 3).trans rfl
                    have hfs40 := blk_frozen BK102.out 3
                    have hns40_0 := NB101_102.out
                    have hms40_0 := NB102_101.out
                    refine skip_ (w1 := ?_) (by rfl) rfl ?_ ?_
                    rotate_left
                    · go_simp
                      rfl
                    refine hK.out _ _ ?_
                    clear hK K
                    refine done_ (by kernel_rfl) ?_
                    have hcz41_0 : w36.cell? ⟨gb101, 0, none⟩ = some (.int .i64 t108) := (blk_cell BK101.out 0).trans rfl
                    have hcz41_1 : w36.cell? ⟨gb101, 1, none⟩ = some (.int .i64 t109) := (blk_cell BK101.out 1).trans rfl
                    have hcz41_2 : w36.cell? ⟨gb101, 2, none⟩ = some (.int .i64 t110) := (blk_cell BK101.out 2).trans rfl
                    have hcz41_3 : w36.cell? ⟨gb101, 3, none⟩ = some (.int .i64 t111) := (blk_cell BK101.out 3).trans rfl
                    have hfz41_0 := blk_frozen BK101.out 0
                    have hfz41_1 := blk_frozen BK101.out 1
                    have hfz41_2 := blk_frozen BK101.out 2
                    have hfz41_3 := blk_frozen BK101.out 3
                    try go_wp2_with (first | ((with_reducible refine gate_callee (f := 35) rfl ?_); refine goesL_ (some 42) rfl rfl Try.func35 (by kernel_rfl) rfl #[.slice (some ad107) t104.length co28, .string ((rd_T58 t104 (ji18)).f0), .string (((rd_T58 t104 (ji18)).f0) ++ ((rd_T58 t104 (ji18)).f0)), .agg #[.int .i64 t108, .int .i64 t109, .int .i64 t110, .int .i64 t111]] rfl (by (try simp only [List.map_toArray, List.map_cons, List.map_nil]); first | done | (simp only [hji18]; rfl) | rfl | (simp only [List.length_drop, List.length_take]; rfl)) ?_; (with_reducible refine (user_Enter.calls kj7 _ _ t104 ((rd_T58 t104 (ji18)).f0) (((rd_T58 t104 (ji18)).f0) ++ ((rd_T58 t104 (ji18)).f0)) t108 t109 t110 t111 t120 _ ?side1 ?side2 A25.out).mono ?_); (case side1 => refine (Kd.R_reads' (e := 58) (base := w.heap.size) (ok := fun k_ => True) (n := t104.length) (c := co28) ?_).2.2; exact (by (with_reducible repeat (first | apply Kd.R_alloc | apply Kd.R_drewN | apply Kd.R_drew)); exact (Kd.R_mono (Kd.R_far (p := ⟨gb102, 3, none⟩) (Kd.R_far (p := ⟨gb102, 2, none⟩) (Kd.R_far (p := ⟨gb102, 1, none⟩) (Kd.R_far (p := ⟨gb102, 0, none⟩) (Kd.R_types HO_9.out BK102.out (by decide)) (fun _ hk => hk.2) (.int .i64 t116)) (fun _ hk => hk.2) (.int .i64 t117)) (fun _ hk => hk.2) (.int .i64 t118)) (fun _ hk => hk.2) (.int .i64 t119)) (fun _ h_ => h_.1)))); (case side2 => exact (Kd.R_reads' HO_9.out).2.1); rintro e w42 ⟨rfl, hb⟩; refine ⟨_, rfl, ?_⟩; have n0_ := Aside0.mk (Kd.R_below (by (with_reducible repeat (first | apply Kd.R_alloc | apply Kd.R_drewN | apply Kd.R_drew)); exact (Kd.R_mono (Kd.R_far (p := ⟨gb102, 3, none⟩) (Kd.R_far (p := ⟨gb102, 2, none⟩) (Kd.R_far (p := ⟨gb102, 1, none⟩) (Kd.R_far (p := ⟨gb102, 0, none⟩) (Kd.R_types HO_9.out BK102.out (by decide)) (fun _ hk => hk.2) (.int .i64 t116)) (fun _ hk => hk.2) (.int .i64 t117)) (fun _ hk => hk.2) (.int .i64 t118)) (fun _ hk => hk.2) (.int .i64 t119)) (fun _ h_ => h_.1))) hb); have n1_ := Aside0.mk (blk_below (g := gb101) (o := .cells #[.int .i64 t108, .int .i64 t109, .int .i64 t110, .int .i64 t111] 54 (0, 0)) (by (with_reducible repeat (first | refine blk_drewN ?_ _ | refine blk_drew ?_ | refine blk_alloc ?_ _)); refine blk_far ?_ NB101_102.out _; (with_reducible repeat (first | refine blk_drewN ?_ _ | refine blk_drew ?_ | refine blk_alloc ?_ _)); refine blk_far ?_ NB101_102.out _; (with_reducible repeat (first | refine blk_drewN ?_ _ | refine blk_drew ?_ | refine blk_alloc ?_ _)); refine blk_far ?_ NB101_102.out _; (with_reducible repeat (first | refine blk_drewN ?_ _ | refine blk_drew ?_ | refine blk_alloc ?_ _)); refine blk_far ?_ NB101_102.out _; (with_reducible repeat (first | refine blk_drewN ?_ _ | refine blk_drew ?_ | refine blk_alloc ?_ _)); exact BK101.out) hb); have n2_ := Aside0.mk (blk_below (g := gb102) (o := .cells #[.int .i64 t116, .int .i64 t117, .int .i64 t118, .int .i64 t119] 54 (0, 0)) (by (with_reducible repeat (first | refine blk_drewN ?_ _ | refine blk_drew ?_ | refine blk_alloc ?_ _)); refine blk_put (cs := #[.int .i64 t116, .int .i64 t117, .int .i64 t118, .int .i64 a3_3]) ?_ 3 _ rfl; (with_reducible repeat (first | refine blk_drewN ?_ _ | refine blk_drew ?_ | refine blk_alloc ?_ _)); refine blk_put (cs := #[.int .i64 t116, .int .i64 t117, .int .i64 a3_2, .int .i64 a3_3]) ?_ 2 _ rfl; (with_reducible repeat (first | refine blk_drewN ?_ _ | refine blk_drew ?_ | refine blk_alloc ?_ _)); refine blk_put (cs := #[.int .i64 t116, .int .i64 a3_1, .int .i64 a3_2, .int .i64 a3_3]) ?_ 1 _ rfl; (with_reducible repeat (first | refine blk_drewN ?_ _ | refine blk_drew ?_ | refine blk_alloc ?_ _)); refine blk_put (cs := #[.int .i64 a3_0, .int .i64 a3_1, .int .i64 a3_2, .int .i64 a3_3]) ?_ 0 _ rfl; (with_reducible repeat (first | refine blk_drewN ?_ _ | refine blk_drew ?_ | refine blk_alloc ?_ _)); exact BK102.out) hb); have n3_ := Aside0.mk (below_step (by repeat (first | (with_reducible first | exact HB.out | apply below_alloc | apply pw_below_drewN | apply below_drew1 | refine below_set ?_ GE101.out | refine below_set ?_ GE102.out) | exact HB.out)) hb); clear HO_9; clear BK101; clear BK102; clear HB; have HO_9 := n0_; have BK101 := n1_; have BK102 := n2_; have HB := n3_; clear n0_ n1_ n2_ n3_; (try clear hb); (try clear hb2); (try clear hk); (try clear hi); have hcz43_0 : w42.cell? ⟨gb102, 0, none⟩ = some (.int .i64 t116) := (blk_cell BK102.out 0).trans rfl; have hcz43_1 : w42.cell? ⟨gb102, 1, none⟩ = some (.int .i64 t117) := (blk_cell BK102.out 1).trans rfl; have hcz43_2 : w42.cell? ⟨gb102, 2, none⟩ = some (.int .i64 t118) := (blk_cell BK102.out 2).trans rfl; have hcz43_3 : w42.cell? ⟨gb102, 3, none⟩ = some (.int .i64 t119) := (blk_cell BK102.out 3).trans rfl; have hfz43_0 := blk_frozen BK102.out 0; have hfz43_1 := blk_frozen BK102.out 1; have hfz43_2 := blk_frozen BK102.out 2; have hfz43_3 := blk_frozen BK102.out 3) | (go_at_call 35; (with_reducible refine (user_Enter.calls kj7 _ _ t104 ((rd_T58 t104 (ji18)).f0) (((rd_T58 t104 (ji18)).f0) ++ ((rd_T58 t104 (ji18)).f0)) t116 t117 t118 t119 t121 _ ?side1 ?side2 A27.out).mono ?_); (case side1 => repeat (first | exact (Kd.R_reads' HO_9.out).2.2 | (with_reducible refine Kd.C_alloc ?_ _) | (with_reducible refine Kd.C_drewN ?_ _) | (with_reducible refine Kd.C_drew ?_))); (case side2 => exact (Kd.R_reads' HO_9.out).2.1); rintro e w44 ⟨rfl, hb⟩; have n0_ := Aside0.mk (Kd.R_below (by (with_reducible repeat (first | apply Kd.R_alloc | apply Kd.R_drewN | apply Kd.R_drew)); exact HO_9.out) hb); have n1_ := Aside0.mk (blk_below (g := gb101) (o := .cells #[.int .i64 t108, .int .i64 t109, .int .i64 t110, .int .i64 t111] 54 (0, 0)) (by (with_reducible repeat (first | refine blk_drewN ?_ _ | refine blk_drew ?_ | refine blk_alloc ?_ _)); exact BK101.out) hb); have n2_ := Aside0.mk (blk_below (g := gb102) (o := .cells #[.int .i64 t116, .int .i64 t117, .int .i64 t118, .int .i64 t119] 54 (0, 0)) (by (with_reducible repeat (first | refine blk_drewN ?_ _ | refine blk_drew ?_ | refine blk_alloc ?_ _)); exact BK102.out) hb); have n3_ := Aside0.mk (below_step (by repeat (first | (with_reducible first | exact HB.out | apply below_alloc | apply pw_below_drewN | apply below_drew1 | refine below_set ?_ GE101.out | refine below_set ?_ GE102.out) | exact HB.out)) hb); clear HO_9; clear BK101; clear BK102; clear HB; have HO_9 := n0_; have BK101 := n1_; have BK102 := n2_; have HB := n3_; clear n0_ n1_ n2_ n3_; (try clear hb); (try clear hb2); (try clear hk); (try clear hi)))
                    go_ret
                    exact ⟨by first | rfl | (simp [errW_none, errW_some] <;> rfl) | (simp only [← hji18]; first | rfl | (simp [errW_none, errW_some] <;> rfl)) | (simp [*, errW_none, errW_some] <;> rfl), by repeat (first | (with_reducible first | exact HB.out | apply below_alloc | apply pw_below_drewN | apply below_drew1 | refine below_set ?_ GE101.out | refine below_set ?_ GE102.out) | exact HB.out)⟩
                  · rw [if_neg c26] at H
                    have c26b0 : (t120 == 0) = false := beq_eq_false_iff_ne.mpr c26
                    have c26b1 : (t120 != 0) = true := bne_iff_ne.mpr c26
                    obtain rfl := Option.some.inj H
                    obtain ⟨Ao45, co45, eo45⟩ := Kd.R_slice HO_9.out
                    subst eo45
                    have p107 : 0 ≤ ((ji18) : Int) := of_decide_eq_true (by first | (with_reducible assumption) | assumption)
                    have q107 : (ji18) < (t104.length : Int) := of_decide_eq_true (by first | (with_reducible assumption) | assumption)
                    obtain ⟨ad107, e107, hx107_0, hx107_1, hx107_2, hx107_3, hx107_4, hx107_5, hx107_6, hx107_7⟩ := at_T58 (Kd.R_reads' HO_9.out).2.2 (ji18) p107 q107
                    cases e107
                    replace p107 := eq_true p107
                    replace q107 := eq_true q107
                    have hnb46 := NB101_102.out
                    have hnc46 := NB102_101.out
                    have hcz47_0 : wc.cell? ⟨gb101, 0, none⟩ = some (.int .i64 a2_0) := (blk_cell BK101.out 0).trans rfl
                    have hcz47_1 : wc.cell? ⟨gb101, 1, none⟩ = some (.int .i64 a2_1) := (blk_cell BK101.out 1).trans rfl
                    have hcz47_2 : wc.cell? ⟨gb101, 2, none⟩ = some (.int .i64 a2_2) := (blk_cell BK101.out 2).trans rfl
                    have hcz47_3 : wc.cell? ⟨gb101, 3, none⟩ = some (.int .i64 a2_3) := (blk_cell BK101.out 3).trans rfl
                    have hfz47_0 := blk_frozen BK101.out 0
                    have hfz47_1 := blk_frozen BK101.out 1
                    have hfz47_2 := blk_frozen BK101.out 2
                    have hfz47_3 := blk_frozen BK101.out 3
                    try go_wp2_with (first | ((with_reducible refine gate_callee (f := 33) rfl ?_); refine goesL_ (some 31) rfl rfl Try.func33 (by kernel_rfl) rfl #[.agg #[.int .i64 a2_0, .int .i64 a2_1, .int .i64 a2_2, .int .i64 a2_3]] rfl (by (try simp only [List.map_toArray, List.map_cons, List.map_nil]); first | done | rfl | (simp only [List.length_drop, List.length_take]; rfl)) ?_; (with_reducible refine (donjonlaw4_Good.calls a2_0 a2_1 a2_2 a2_3 t108 t109 t110 t111 _ A21.out).mono ?_); rintro e w48 ⟨rfl, hb⟩; refine ⟨_, rfl, ?_⟩; have n0_ := Aside0.mk (Kd.R_below (by (with_reducible repeat (first | apply Kd.R_alloc | apply Kd.R_drewN | apply Kd.R_drew)); exact HO_9.out) hb); have n1_ := Aside0.mk (blk_below (g := gb101) (o := .cells #[.int .i64 a2_0, .int .i64 a2_1, .int .i64 a2_2, .int .i64 a2_3] 54 (0, 0)) (by (with_reducible repeat (first | refine blk_drewN ?_ _ | refine blk_drew ?_ | refine blk_alloc ?_ _)); exact BK101.out) hb); have n2_ := Aside0.mk (blk_below (g := gb102) (o := .cells #[.int .i64 a3_0, .int .i64 a3_1, .int .i64 a3_2, .int .i64 a3_3] 54 (0, 0)) (by (with_reducible repeat (first | refine blk_drewN ?_ _ | refine blk_drew ?_ | refine blk_alloc ?_ _)); exact BK102.out) hb); have n3_ := Aside0.mk (below_step (by repeat (first | (with_reducible first | exact HB.out | apply below_alloc | apply pw_below_drewN | apply below_drew1 | refine below_set ?_ GE101.out | refine below_set ?_ GE102.out) | exact HB.out)) hb); clear HO_9; clear BK101; clear BK102; clear HB; have HO_9 := n0_; have BK101 := n1_; have BK102 := n2_; have HB := n3_; clear n0_ n1_ n2_ n3_; (try clear hb); (try clear hb2); (try clear hk); (try clear hi); have hcz49_0 : w48.cell? ⟨gb101, 0, none⟩ = some (.int .i64 a2_0) := (blk_cell BK101.out 0).trans rfl; have hcz49_1 : w48.cell? ⟨gb101, 1, none⟩ = some (.int .i64 a2_1) := (blk_cell BK101.out 1).trans rfl; have hcz49_2 : w48.cell? ⟨gb101, 2, none⟩ = some (.int .i64 a2_2) := (blk_cell BK101.out 2).trans rfl; have hcz49_3 : w48.cell? ⟨gb101, 3, none⟩ = some (.int .i64 a2_3) := (blk_cell BK101.out 3).trans rfl; have hfz49_0 := blk_frozen BK101.out 0; have hfz49_1 := blk_frozen BK101.out 1; have hfz49_2 := blk_frozen BK101.out 2; have hfz49_3 := blk_frozen BK101.out 3))
                    have n0_ : Aside0 (Kd.R k58 58 ((((w48.setCell ⟨gb101, 0, none⟩ (.int .i64 t108)).setCell ⟨gb101, 1, none⟩ (.int .i64 t109)).setCell ⟨gb101, 2, none⟩ (.int .i64 t110)).setCell ⟨gb101, 3, none⟩ (.int .i64 t111)) w.heap.size (fun _ => True) (.slice (some ad107) t104.length co45) t104) := ⟨by (with_reducible repeat (first | apply Kd.R_alloc | apply Kd.R_drewN | apply Kd.R_drew)); exact Kd.R_mono (Kd.R_far (p := ⟨gb101, 3, none⟩) (Kd.R_far (p := ⟨gb101, 2, none⟩) (Kd.R_far (p := ⟨gb101, 1, none⟩) (Kd.R_far (p := ⟨gb101, 0, none⟩) (Kd.R_types HO_9.out BK101.out (by decide)) (fun _ hk => hk.2) (.int .i64 t108)) (fun _ hk => hk.2) (.int .i64 t109)) (fun _ hk => hk.2) (.int .i64 t110)) (fun _ hk => hk.2) (.int .i64 t111)) (fun _ hk => trivial)⟩
                    have n1_ : Aside0 (((((w48.setCell ⟨gb101, 0, none⟩ (.int .i64 t108)).setCell ⟨gb101, 1, none⟩ (.int .i64 t109)).setCell ⟨gb101, 2, none⟩ (.int .i64 t110)).setCell ⟨gb101, 3, none⟩ (.int .i64 t111)).heap[gb101]? = some (.cells #[.int .i64 t108, .int .i64 t109, .int .i64 t110, .int .i64 t111] 54 (0, 0))) := ⟨by (with_reducible repeat (first | refine blk_drewN ?_ _ | refine blk_drew ?_ | refine blk_alloc ?_ _)); refine blk_put (cs := #[.int .i64 t108, .int .i64 t109, .int .i64 t110, .int .i64 a2_3]) ?_ 3 _ rfl; (with_reducible repeat (first | refine blk_drewN ?_ _ | refine blk_drew ?_ | refine blk_alloc ?_ _)); refine blk_put (cs := #[.int .i64 t108, .int .i64 t109, .int .i64 a2_2, .int .i64 a2_3]) ?_ 2 _ rfl; (with_reducible repeat (first | refine blk_drewN ?_ _ | refine blk_drew ?_ | refine blk_alloc ?_ _)); refine blk_put (cs := #[.int .i64 t108, .int .i64 a2_1, .int .i64 a2_2, .int .i64 a2_3]) ?_ 1 _ rfl; (with_reducible repeat (first | refine blk_drewN ?_ _ | refine blk_drew ?_ | refine blk_alloc ?_ _)); refine blk_put (cs := #[.int .i64 a2_0, .int .i64 a2_1, .int .i64 a2_2, .int .i64 a2_3]) ?_ 0 _ rfl; (with_reducible repeat (first | refine blk_drewN ?_ _ | refine blk_drew ?_ | refine blk_alloc ?_ _)); exact BK101.out⟩
                    have n2_ : Aside0 (((((w48.setCell ⟨gb101, 0, none⟩ (.int .i64 t108)).setCell ⟨gb101, 1, none⟩ (.int .i64 t109)).setCell ⟨gb101, 2, none⟩ (.int .i64 t110)).setCell ⟨gb101, 3, none⟩ (.int .i64 t111)).heap[gb102]? = some (.cells #[.int .i64 a3_0, .int .i64 a3_1, .int .i64 a3_2, .int .i64 a3_3] 54 (0, 0))) := ⟨by (with_reducible repeat (first | refine blk_drewN ?_ _ | refine blk_drew ?_ | refine blk_alloc ?_ _)); refine blk_far ?_ NB102_101.out _; (with_reducible repeat (first | refine blk_drewN ?_ _ | refine blk_drew ?_ | refine blk_alloc ?_ _)); refine blk_far ?_ NB102_101.out _; (with_reducible repeat (first | refine blk_drewN ?_ _ | refine blk_drew ?_ | refine blk_alloc ?_ _)); refine blk_far ?_ NB102_101.out _; (with_reducible repeat (first | refine blk_drewN ?_ _ | refine blk_drew ?_ | refine blk_alloc ?_ _)); refine blk_far ?_ NB102_101.out _; (with_reducible repeat (first | refine blk_drewN ?_ _ | refine blk_drew ?_ | refine blk_alloc ?_ _)); exact BK102.out⟩
                    have n3_ : Aside0 (Below w.heap.size w ((((w48.setCell ⟨gb101, 0, none⟩ (.int .i64 t108)).setCell ⟨gb101, 1, none⟩ (.int .i64 t109)).setCell ⟨gb101, 2, none⟩ (.int .i64 t110)).setCell ⟨gb101, 3, none⟩ (.int .i64 t111))) := ⟨by repeat (first | (with_reducible first | exact HB.out | apply below_alloc | apply pw_below_drewN | apply below_drew1 | refine below_set ?_ GE101.out | refine below_set ?_ GE102.out) | exact HB.out)⟩
                    (try clear HO_9)
                    (try clear BK101)
                    (try clear BK102)
                    (try clear HB)
                    generalize ((((w48.setCell ⟨gb101, 0, none⟩ (.int .i64 t108)).setCell ⟨gb101, 1, none⟩ (.int .i64 t109)).setCell ⟨gb101, 2, none⟩ (.int .i64 t110)).setCell ⟨gb101, 3, none⟩ (.int .i64 t111)) = w50 at n0_ n1_ n2_ n3_ ⊢
                    have HO_9 := n0_
                    have BK101 := n1_
                    have BK102 := n2_
                    have HB := n3_
                    clear n0_ n1_ n2_ n3_
                    have n0_ := Aside0.mk (Kd.R_drew HO_9.out)
                    have n1_ := Aside0.mk (blk_drew BK101.out)
                    have n2_ := Aside0.mk (blk_drew BK102.out)
                    have n3_ := Aside0.mk (below_drew1 HB.out)
                    clear HO_9
                    clear BK101
                    clear BK102
                    clear HB
                    have HO_9 := n0_
                    have BK101 := n1_
                    have BK102 := n2_
                    have HB := n3_
                    clear n0_ n1_ n2_ n3_
                    refine start_ (n := 5) (S := fun w' => w'.cell? ⟨gb101, 0, none⟩ = some (.int .i64 t108) ∧ w'.cell? ⟨gb101, 1, none⟩ = some (.int .i64 t109) ∧ w'.cell? ⟨gb101, 2, none⟩ = some (.int .i64 t110) ∧ w'.cell? ⟨gb101, 3, none⟩ = some (.int .i64 t111) ∧ w'.cell? ⟨gb102, 0, none⟩ = some (.int .i64 a3_0) ∧ w'.cell? ⟨gb102, 1, none⟩ = some (.int .i64 a3_1) ∧ w'.cell? ⟨gb102, 2, none⟩ = some (.int .i64 a3_2) ∧ w'.cell? ⟨gb102, 3, none⟩ = some (.int .i64 a3_3)) (ds := [4]) #[false, false, false, false, false] (by kernel_rfl) rfl rfl ⟨(blk_cell BK101.out 0).trans rfl, (blk_cell BK101.out 1).trans rfl, (blk_cell BK101.out 2).trans rfl, (blk_cell BK101.out 3).trans rfl, (blk_cell BK102.out 0).trans rfl, (blk_cell BK102.out 1).trans rfl, (blk_cell BK102.out 2).trans rfl, (blk_cell BK102.out 3).trans rfl⟩ (fun hHeld => ?_)
                    generalize w50.drew = w51 at HO_9 BK101 BK102 HB hHeld ⊢
                    refine take_ (i := 0) (N := some 32) (v := ?_) (a' := ?_) #[true, false, false, false, false] rfl rfl (by kernel_rfl) (fun _ _ _ h => h) (Or.inl ⟨by rfl, ?_⟩) hHeld ?_ ?_
                    rotate_left
                    · rintro w' ⟨s0, s1, s2, s3, s4, s5, s6, s7⟩
                      go_simp
                      with_reducible rfl
                    rotate_left
                    · simp only [Act.put, List.setIfInBounds_toArray, List.set_cons_zero, List.set_cons_succ, i64_w, i32_w]
                      rfl
                    refine take_ (i := 1) (N := some 33) (v := ?_) (a' := ?_) #[true, true, false, false, false] rfl rfl (by kernel_rfl) (fun _ _ _ h => h) (Or.inl ⟨by rfl, ?_⟩) hHeld ?_ ?_
                    rotate_left
                    · rintro w' ⟨s0, s1, s2, s3, s4, s5, s6, s7⟩
                      go_simp
                      with_reducible rfl
                    rotate_left
                    · simp only [Act.put, List.setIfInBounds_toArray, List.set_cons_zero, List.set_cons_succ, i64_w, i32_w]
                      rfl
                    refine one_ (i := 2) (N := some 34) #[true, true, true, false, false] rfl rfl (by kernel_rfl) (by decide) (fun K hK => ?_)
                    refine goes_ Try.func33 (by kernel_rfl) rfl #[.agg #[.int .i64 a3_0, .int .i64 a3_1, .int .i64 a3_2, .int .i64 a3_3]] (by rfl) rfl rfl (by (try simp only [List.map_toArray, List.map_cons, List.map_nil]); first | done | rfl | (simp only [List.length_drop, List.length_take]; rfl)) ?_
                    with_reducible refine (donjonlaw4_Good.calls a3_0 a3_1 a3_2 a3_3 t112 t113 t114 t115 _ A22.out).mono ?_
                    rintro e w52 ⟨rfl, hb⟩
                    refine ⟨_, rfl, ?_⟩
                    have n0_ := Aside0.mk (Kd.R_below (by (with_reducible repeat (first | apply Kd.R_alloc | apply Kd.R_drewN | apply Kd.R_drew)); exact HO_9.out) hb)
                    have n1_ := Aside0.mk (blk_below (g := gb101) (o := .cells #[.int .i64 t108, .int .i64 t109, .int .i64 t110, .int .i64 t111] 54 (0, 0)) (by (with_reducible repeat (first | refine blk_drewN ?_ _ | refine blk_drew ?_ | refine blk_alloc ?_ _)); exact BK101.out) hb)
                    have n2_ := Aside0.mk (blk_below (g := gb102) (o := .cells #[.int .i64 a3_0, .int .i64 a3_1, .int .i64 a3_2, .int .i64 a3_3] 54 (0, 0)) (by (with_reducible repeat (first | refine blk_drewN ?_ _ | refine blk_drew ?_ | refine blk_alloc ?_ _)); exact BK102.out) hb)
                    have n3_ := Aside0.mk (below_step (by repeat (first | (with_reducible first | exact HB.out | apply below_alloc | apply pw_below_drewN | apply below_drew1 | refine below_set ?_ GE101.out | refine below_set ?_ GE102.out) | exact HB.out)) hb)
                    clear HO_9
                    clear BK101
                    clear BK102
                    clear HB
                    have HO_9 := n0_
                    have BK101 := n1_
                    have BK102 := n2_
                    have HB := n3_
                    clear n0_ n1_ n2_ n3_
                    (try clear hb)
                    (try clear hb2)
                    (try clear hk)
                    (try clear hi)
                    refine hK.out _ _ ⟨(blk_cell BK101.out 0).trans rfl, (blk_cell BK101.out 1).trans rfl, (blk_cell BK101.out 2).trans rfl, (blk_cell BK101.out 3).trans rfl, (blk_cell BK102.out 0).trans rfl, (blk_cell BK102.out 1).trans rfl, (blk_cell BK102.out 2).trans rfl, (blk_cell BK102.out 3).trans rfl⟩ (fun hHeld => ?_)
                    clear hK K
                    refine norm_ (a' := ?_) ?_ ?_
                    rotate_left
                    · show Act.put _ (some 34) _ = _
                      simp only [Act.put, List.setIfInBounds_toArray, List.set_cons_zero, List.set_cons_succ, i64_w, i32_w]
                      rfl
                    refine one_ (i := 3) (N := some 35) #[true, true, true, true, false] rfl rfl (by kernel_rfl) (by decide) (fun K hK => ?_)
                    refine goes_ Try.func34 (by kernel_rfl) rfl #[.agg #[.int .i64 t108, .int .i64 t109, .int .i64 t110, .int .i64 t111], .agg #[.int .i64 t112, .int .i64 t113, .int .i64 t114, .int .i64 t115]] (by rfl) rfl rfl (by (try simp only [List.map_toArray, List.map_cons, List.map_nil]); first | done | rfl | (simp only [List.length_drop, List.length_take]; rfl)) ?_
                    with_reducible refine (donjonref4_Meet.calls t108 t109 t110 t111 t112 t113 t114 t115 t116 t117 t118 t119 _ A23.out).mono ?_
                    rintro e w53 ⟨rfl, hb⟩
                    refine ⟨_, rfl, ?_⟩
                    have n0_ := Aside0.mk (Kd.R_below (by (with_reducible repeat (first | apply Kd.R_alloc | apply Kd.R_drewN | apply Kd.R_drew)); exact HO_9.out) hb)
                    have n1_ := Aside0.mk (blk_below (g := gb101) (o := .cells #[.int .i64 t108, .int .i64 t109, .int .i64 t110, .int .i64 t111] 54 (0, 0)) (by (with_reducible repeat (first | refine blk_drewN ?_ _ | refine blk_drew ?_ | refine blk_alloc ?_ _)); exact BK101.out) hb)
                    have n2_ := Aside0.mk (blk_below (g := gb102) (o := .cells #[.int .i64 a3_0, .int .i64 a3_1, .int .i64 a3_2, .int .i64 a3_3] 54 (0, 0)) (by (with_reducible repeat (first | refine blk_drewN ?_ _ | refine blk_drew ?_ | refine blk_alloc ?_ _)); exact BK102.out) hb)
                    have n3_ := Aside0.mk (below_step (by repeat (first | (with_reducible first | exact HB.out | apply below_alloc | apply pw_below_drewN | apply below_drew1 | refine below_set ?_ GE101.out | refine below_set ?_ GE102.out) | exact HB.out)) hb)
                    clear HO_9
                    clear BK101
                    clear BK102
                    clear HB
                    have HO_9 := n0_
                    have BK101 := n1_
                    have BK102 := n2_
                    have HB := n3_
                    clear n0_ n1_ n2_ n3_
                    (try clear hb)
                    (try clear hb2)
                    (try clear hk)
                    (try clear hi)
                    refine hK.out _ _ ⟨(blk_cell BK101.out 0).trans rfl, (blk_cell BK101.out 1).trans rfl, (blk_cell BK101.out 2).trans rfl, (blk_cell BK101.out 3).trans rfl, (blk_cell BK102.out 0).trans rfl, (blk_cell BK102.out 1).trans rfl, (blk_cell BK102.out 2).trans rfl, (blk_cell BK102.out 3).trans rfl⟩ (fun hHeld => ?_)
                    clear hK K
                    refine norm_ (a' := ?_) ?_ ?_
                    rotate_left
                    · show Act.put _ (some 35) _ = _
                      simp only [Act.put, List.setIfInBounds_toArray, List.set_cons_zero, List.set_cons_succ, i64_w, i32_w]
                      rfl
                    refine last_ (i := 4) (N := none) #[true, true, true, true, true] rfl rfl (by kernel_rfl) (by decide) (fun K hK => ?_)
                    have hs54 : w53.cell? ⟨gb102, 0, none⟩ = some (.int .i64 a3_0) := (blk_cell BK102.out 0).trans rfl
                    have hfs54 := blk_frozen BK102.out 0
                    have hns54_0 := NB101_102.out
                    have hms54_0 := NB102_101.out
                    have hs55 : w53.cell? ⟨gb102, 1, none⟩ = some (.int .i64 a3_1) := (blk_cell BK102.out 1).trans rfl
                    have hfs55 := blk_frozen BK102.out 1
                    have hns55_0 := NB101_102.out
                    have hms55_0 := NB102_101.out
                    have hs56 : w53.cell? ⟨gb102, 2, none⟩ = some (.int .i64 a3_2) := (blk_cell BK102.out 2).trans rfl
                    have hfs56 := blk_frozen BK102.out 2
                    have hns56_0 := NB101_102.out
                    have hms56_0 := NB102_101.out
                    have hs57 : w53.cell? ⟨gb102, 3, none⟩ = some (.int .i64 a3_3) := (blk_cell BK102.out 3).trans rfl
                    have hfs57 := blk_frozen BK102.out 3
                    have hns57_0 := NB101_102.out
                    have hms57_0 := NB102_101.out
                    refine skip_ (w1 := ?_) (by rfl) rfl ?_ ?_
                    rotate_left
                    · go_simp
                      rfl
                    refine hK.out _ _ ?_
                    clear hK K
                    refine done_ (by kernel_rfl) ?_
                    have hcz58_0 : w53.cell? ⟨gb101, 0, none⟩ = some (.int .i64 t108) := (blk_cell BK101.out 0).trans rfl
                    have hcz58_1 : w53.cell? ⟨gb101, 1, none⟩ = some (.int .i64 t109) := (blk_cell BK101.out 1).trans rfl
                    have hcz58_2 : w53.cell? ⟨gb101, 2, none⟩ = some (.int .i64 t110) := (blk_cell BK101.out 2).trans rfl
                    have hcz58_3 : w53.cell? ⟨gb101, 3, none⟩ = some (.int .i64 t111) := (blk_cell BK101.out 3).trans rfl
                    have hfz58_0 := blk_frozen BK101.out 0
                    have hfz58_1 := blk_frozen BK101.out 1
                    have hfz58_2 := blk_frozen BK101.out 2
                    have hfz58_3 := blk_frozen BK101.out 3
                    try go_wp2_with (first | ((with_reducible refine gate_callee (f := 35) rfl ?_); refine goesL_ (some 42) rfl rfl Try.func35 (by kernel_rfl) rfl #[.slice (some ad107) t104.length co45, .string ((rd_T58 t104 (ji18)).f0), .string (((rd_T58 t104 (ji18)).f0) ++ ((rd_T58 t104 (ji18)).f0)), .agg #[.int .i64 t108, .int .i64 t109, .int .i64 t110, .int .i64 t111]] rfl (by (try simp only [List.map_toArray, List.map_cons, List.map_nil]); first | done | (simp only [hji18]; rfl) | rfl | (simp only [List.length_drop, List.length_take]; rfl)) ?_; (with_reducible refine (user_Enter.calls kj7 _ _ t104 ((rd_T58 t104 (ji18)).f0) (((rd_T58 t104 (ji18)).f0) ++ ((rd_T58 t104 (ji18)).f0)) t108 t109 t110 t111 t120 _ ?side1 ?side2 A25.out).mono ?_); (case side1 => refine (Kd.R_reads' (e := 58) (base := w.heap.size) (ok := fun k_ => True) (n := t104.length) (c := co45) ?_).2.2; exact (by (with_reducible repeat (first | apply Kd.R_alloc | apply Kd.R_drewN | apply Kd.R_drew)); exact (Kd.R_mono (Kd.R_far (p := ⟨gb102, 3, none⟩) (Kd.R_far (p := ⟨gb102, 2, none⟩) (Kd.R_far (p := ⟨gb102, 1, none⟩) (Kd.R_far (p := ⟨gb102, 0, none⟩) (Kd.R_types HO_9.out BK102.out (by decide)) (fun _ hk => hk.2) (.int .i64 t116)) (fun _ hk => hk.2) (.int .i64 t117)) (fun _ hk => hk.2) (.int .i64 t118)) (fun _ hk => hk.2) (.int .i64 t119)) (fun _ h_ => h_.1)))); (case side2 => exact (Kd.R_reads' HO_9.out).2.1); rintro e w59 ⟨rfl, hb⟩; refine ⟨_, rfl, ?_⟩; have n0_ := Aside0.mk (Kd.R_below (by (with_reducible repeat (first | apply Kd.R_alloc | apply Kd.R_drewN | apply Kd.R_drew)); exact (Kd.R_mono (Kd.R_far (p := ⟨gb102, 3, none⟩) (Kd.R_far (p := ⟨gb102, 2, none⟩) (Kd.R_far (p := ⟨gb102, 1, none⟩) (Kd.R_far (p := ⟨gb102, 0, none⟩) (Kd.R_types HO_9.out BK102.out (by decide)) (fun _ hk => hk.2) (.int .i64 t116)) (fun _ hk => hk.2) (.int .i64 t117)) (fun _ hk => hk.2) (.int .i64 t118)) (fun _ hk => hk.2) (.int .i64 t119)) (fun _ h_ => h_.1))) hb); have n1_ := Aside0.mk (blk_below (g := gb101) (o := .cells #[.int .i64 t108, .int .i64 t109, .int .i64 t110, .int .i64 t111] 54 (0, 0)) (by (with_reducible repeat (first | refine blk_drewN ?_ _ | refine blk_drew ?_ | refine blk_alloc ?_ _)); refine blk_far ?_ NB101_102.out _; (with_reducible repeat (first | refine blk_drewN ?_ _ | refine blk_drew ?_ | refine blk_alloc ?_ _)); refine blk_far ?_ NB101_102.out _; (with_reducible repeat (first | refine blk_drewN ?_ _ | refine blk_drew ?_ | refine blk_alloc ?_ _)); refine blk_far ?_ NB101_102.out _; (with_reducible repeat (first | refine blk_drewN ?_ _ | refine blk_drew ?_ | refine blk_alloc ?_ _)); refine blk_far ?_ NB101_102.out _; (with_reducible repeat (first | refine blk_drewN ?_ _ | refine blk_drew ?_ | refine blk_alloc ?_ _)); exact BK101.out) hb); have n2_ := Aside0.mk (blk_below (g := gb102) (o := .cells #[.int .i64 t116, .int .i64 t117, .int .i64 t118, .int .i64 t119] 54 (0, 0)) (by (with_reducible repeat (first | refine blk_drewN ?_ _ | refine blk_drew ?_ | refine blk_alloc ?_ _)); refine blk_put (cs := #[.int .i64 t116, .int .i64 t117, .int .i64 t118, .int .i64 a3_3]) ?_ 3 _ rfl; (with_reducible repeat (first | refine blk_drewN ?_ _ | refine blk_drew ?_ | refine blk_alloc ?_ _)); refine blk_put (cs := #[.int .i64 t116, .int .i64 t117, .int .i64 a3_2, .int .i64 a3_3]) ?_ 2 _ rfl; (with_reducible repeat (first | refine blk_drewN ?_ _ | refine blk_drew ?_ | refine blk_alloc ?_ _)); refine blk_put (cs := #[.int .i64 t116, .int .i64 a3_1, .int .i64 a3_2, .int .i64 a3_3]) ?_ 1 _ rfl; (with_reducible repeat (first | refine blk_drewN ?_ _ | refine blk_drew ?_ | refine blk_alloc ?_ _)); refine blk_put (cs := #[.int .i64 a3_0, .int .i64 a3_1, .int .i64 a3_2, .int .i64 a3_3]) ?_ 0 _ rfl; (with_reducible repeat (first | refine blk_drewN ?_ _ | refine blk_drew ?_ | refine blk_alloc ?_ _)); exact BK102.out) hb); have n3_ := Aside0.mk (below_step (by repeat (first | (with_reducible first | exact HB.out | apply below_alloc | apply pw_below_drewN | apply below_drew1 | refine below_set ?_ GE101.out | refine below_set ?_ GE102.out) | exact HB.out)) hb); clear HO_9; clear BK101; clear BK102; clear HB; have HO_9 := n0_; have BK101 := n1_; have BK102 := n2_; have HB := n3_; clear n0_ n1_ n2_ n3_; (try clear hb); (try clear hb2); (try clear hk); (try clear hi)))
                    go_ret
                    exact ⟨by first | rfl | (simp [errW_none, errW_some] <;> rfl) | (simp only [← hji18]; first | rfl | (simp [errW_none, errW_some] <;> rfl)) | (simp [*, errW_none, errW_some] <;> rfl), by repeat (first | (with_reducible first | exact HB.out | apply below_alloc | apply pw_below_drewN | apply below_drew1 | refine below_set ?_ GE101.out | refine below_set ?_ GE102.out) | exact HB.out)⟩
                · rw [if_neg c24] at H
                  exact absurd H (by simp)
              · rw [if_neg c20] at H
                exact absurd H (by simp)
            · rw [if_neg c19] at H
              exact absurd H (by simp)
  · replace c6 := Bool.eq_false_iff.mpr c6
    subst c6
    have H1 : (some false) = some r := by rw [if_neg (show ¬ (false = true) by decide)] at H; exact H
    clear H
    have H := H1
    clear H1
    obtain rfl := Option.some.inj H
    go_enter Try.func9, Try.ntmps9
    go_wp2_with (first | ((with_reducible refine gate_dst (N := 6) rfl ?_); refine box_event ?hg (N := 6) ?hd (cs := #[.int .i64 a2_0, .int .i64 a2_1, .int .i64 a2_2, .int .i64 a2_3]) (t := 54) ?hr ?_; (case hd => rfl); (case hg => rfl); (case hr => first | (go_simp; done) | (go_simp; rfl)); intro gb101 hg w60 hbox hb; have n0_ := Aside0.mk (below_step (by repeat (first | (with_reducible first | exact HB.out | apply below_alloc | apply pw_below_drewN | apply below_drew1) | exact HB.out)) hb); have n1_ := Aside0.mk (hbox); have n2_ := Aside0.mk ((by rw [hg]; exact (below_size (by repeat (first | (with_reducible first | exact HB.out | apply below_alloc | apply pw_below_drewN | apply below_drew1) | exact HB.out))) : w.heap.size ≤ gb101)); have n3_ := Aside0.mk ((by rw [hg]; exact (below_size (by repeat (first | (with_reducible first | exact HB.out | apply below_alloc | apply pw_below_drewN | apply below_drew1) | exact HB.out))) : w.heap.size ≤ gb101)); clear HB; have HB := n0_; have BK101 := n1_; have GW101 := n2_; have GE101 := n3_; clear n0_ n1_ n2_ n3_; clear hb hbox hg) | ((with_reducible refine gate_dst (N := 7) rfl ?_); refine box_event ?hg (N := 7) ?hd (cs := #[.int .i64 a3_0, .int .i64 a3_1, .int .i64 a3_2, .int .i64 a3_3]) (t := 54) ?hr ?_; (case hd => rfl); (case hg => rfl); (case hr => first | (go_simp; done) | (go_simp; rfl)); intro gb102 hg w61 hbox hb; have n0_ := Aside0.mk (blk_below (g := gb101) (o := .cells #[.int .i64 a2_0, .int .i64 a2_1, .int .i64 a2_2, .int .i64 a2_3] 54 (0, 0)) (by (with_reducible repeat (first | refine blk_drewN ?_ _ | refine blk_drew ?_ | refine blk_alloc ?_ _)); exact BK101.out) hb); have n1_ := Aside0.mk (below_step (by repeat (first | (with_reducible first | exact HB.out | apply below_alloc | apply pw_below_drewN | apply below_drew1 | refine below_set ?_ GE101.out) | exact HB.out)) hb); have n2_ := Aside0.mk (hbox); have n3_ := Aside0.mk ((by rw [hg]; exact (below_size (by repeat (first | (with_reducible first | exact HB.out | apply below_alloc | apply pw_below_drewN | apply below_drew1 | refine below_set ?_ GE101.out) | exact HB.out))) : w.heap.size ≤ gb102)); have n4_ := Aside0.mk ((by rw [hg]; exact (below_size (by repeat (first | (with_reducible first | exact HB.out | apply below_alloc | apply pw_below_drewN | apply below_drew1 | refine below_set ?_ GE101.out) | exact HB.out))) : w.heap.size ≤ gb102)); have n5_ := Aside0.mk ((by rw [hg]; exact Nat.ne_of_lt (blk_lt (g := gb101) (o := .cells #[.int .i64 a2_0, .int .i64 a2_1, .int .i64 a2_2, .int .i64 a2_3] 54 (0, 0)) (by (with_reducible repeat (first | refine blk_drewN ?_ _ | refine blk_drew ?_ | refine blk_alloc ?_ _)); exact BK101.out)) : gb101 ≠ gb102)); have n6_ := Aside0.mk ((by rw [hg]; exact Nat.ne_of_gt (blk_lt (g := gb101) (o := .cells #[.int .i64 a2_0, .int .i64 a2_1, .int .i64 a2_2, .int .i64 a2_3] 54 (0, 0)) (by (with_reducible repeat (first | refine blk_drewN ?_ _ | refine blk_drew ?_ | refine blk_alloc ?_ _)); exact BK101.out)) : gb102 ≠ gb101)); clear BK101; clear HB; have BK101 := n0_; have HB := n1_; have BK102 := n2_; have GW102 := n3_; have GE102 := n4_; have NB101_102 := n5_; have NB102_101 := n6_; clear n0_ n1_ n2_ n3_ n4_ n5_ n6_; clear hb hbox hg) | ((with_reducible refine gate_callee (f := 31) rfl ?_); refine goesL_ (some 11) rfl rfl Try.func31 (by kernel_rfl) rfl #[] rfl (by (try simp only [List.map_toArray, List.map_cons, List.map_nil]); first | done | rfl | (simp only [List.length_drop, List.length_take]; rfl)) ?_; (with_reducible refine (donjonlaw9_known.calls k  false _ A5.out).mono ?_); rintro e w62 ⟨rfl, hb⟩; refine ⟨_, rfl, ?_⟩; have n0_ := Aside0.mk (blk_below (g := gb101) (o := .cells #[.int .i64 a2_0, .int .i64 a2_1, .int .i64 a2_2, .int .i64 a2_3] 54 (0, 0)) (by (with_reducible repeat (first | refine blk_drewN ?_ _ | refine blk_drew ?_ | refine blk_alloc ?_ _)); exact BK101.out) hb); have n1_ := Aside0.mk (blk_below (g := gb102) (o := .cells #[.int .i64 a3_0, .int .i64 a3_1, .int .i64 a3_2, .int .i64 a3_3] 54 (0, 0)) (by (with_reducible repeat (first | refine blk_drewN ?_ _ | refine blk_drew ?_ | refine blk_alloc ?_ _)); exact BK102.out) hb); have n2_ := Aside0.mk (below_step (by repeat (first | (with_reducible first | exact HB.out | apply below_alloc | apply pw_below_drewN | apply below_drew1 | refine below_set ?_ GE101.out | refine below_set ?_ GE102.out) | exact HB.out)) hb); clear BK101; clear BK102; clear HB; have BK101 := n0_; have BK102 := n1_; have HB := n2_; clear n0_ n1_ n2_; (try clear hb); (try clear hb2); (try clear hk); (try clear hi)))
    go_ret
    exact ⟨by first | rfl | (simp [errW_none, errW_some] <;> rfl) | (simp [*, errW_none, errW_some] <;> rfl), by repeat (first | (with_reducible first | exact HB.out | apply below_alloc | apply pw_below_drewN | apply below_drew1 | refine below_set ?_ GE101.out | refine below_set ?_ GE102.out) | exact HB.out)⟩

end Go.Proofs.Ytcjkekdmmjfgeaa.X
