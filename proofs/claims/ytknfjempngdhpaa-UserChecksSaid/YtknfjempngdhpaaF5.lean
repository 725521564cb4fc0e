/- Written by a program of this session over the kit's print: YtknfjempngdhpaaF5. -/
import Derived.Test.YtknfjempngdhpaaH
import Derived.Test.YtknfjempngdhpaaF10
import Derived.Test.YtknfjempngdhpaaF11
namespace Go.Proofs.Ytknfjempngdhpaa.X
open Go.RowKit Go.Proofs.YtknfjempngdhpaaW.PrintWords Go.Proofs.YtknfjempngdhpaaW.PrintLast Go.Proofs.YtknfjempngdhpaaW.PrintMore Go.Proofs.Ytknfjempngdhpaa.More
attribute [local go_sem] max2_int min2_int max_two min_two max_three min_three max_four min_four binOp_string_leq binOp_string_gtr   -- for this text's walks alone
set_option linter.unusedVariables false
set_option linter.unusedSimpArgs false

/-! ### user_Check: function 5 -/
mutual
def user_Check.l0 : Nat → List (S39) → List (S39) → Int → Int → Option (Int)
  | 0, _, _, _, _ => none
  | k + 1, x0, x9, x10, x11 => if x11 < x10 then (if 0 ≤ x11 then (if x11 < (x9.length : Int) then ((path_Name.f ((rd_T39 x9 x11).f0)).bind fun t103 => (if t103 = true then (if x11 > 0 then (if 0 ≤ (wrap64 (x11 - 1)) then (if (wrap64 (x11 - 1)) < (x0.length : Int) then (user_Check.j1 k x0 x9 x10 x11 (!(Op.bytesLess (((rd_T39 x0 (wrap64 (x11 - 1))).f0).toList) (((rd_T39 x9 x11).f0).toList))) ((rd_T39 x9 x11).f0) ((rd_T39 x9 x11).f1) ((rd_T39 x9 x11).f2) ((rd_T39 x9 x11).f3.f0) ((rd_T39 x9 x11).f3.f1) ((rd_T39 x9 x11).f3.f2) ((rd_T39 x9 x11).f3.f3) ((rd_T39 x9 x11).f4)) else (none)) else (none)) else (user_Check.j1 k x0 x9 x10 x11 false ((rd_T39 x9 x11).f0) ((rd_T39 x9 x11).f1) ((rd_T39 x9 x11).f2) ((rd_T39 x9 x11).f3.f0) ((rd_T39 x9 x11).f3.f1) ((rd_T39 x9 x11).f3.f2) ((rd_T39 x9 x11).f3.f3) ((rd_T39 x9 x11).f4))) else (user_Check.j1 k x0 x9 x10 x11 true ((rd_T39 x9 x11).f0) ((rd_T39 x9 x11).f1) ((rd_T39 x9 x11).f2) ((rd_T39 x9 x11).f3.f0) ((rd_T39 x9 x11).f3.f1) ((rd_T39 x9 x11).f3.f2) ((rd_T39 x9 x11).f3.f3) ((rd_T39 x9 x11).f4)))) else (none)) else (none)) else (some 0)
def user_Check.j1 : Nat → List (S39) → List (S39) → Int → Int → Bool → ByteArray → Int → Int → Int → Int → Int → Int → Bool → Option (Int)
  | 0, _, _, _, _, _, _, _, _, _, _, _, _, _ => none
  | k + 1, x0, x9, x10, x11, x34, x103000, x103001, x103002, x103003, x103004, x103005, x103006, x103007 => if x34 = true then (some 1) else ((label_Check.f x103003 x103004 x103005 x103006).bind fun t105 => (if t105 = 0 then (user_Check.l0 k x0 x9 x10 (wrap64 (x11 + 1))) else (some t105)))
end
def user_Check.f (k : Nat) (l0 : List (S39)) : Option (Int) := if (l0.length : Int) > 16 then (some 4) else (user_Check.l0 k l0 l0 (l0.length : Int) 0)
theorem user_Check.mono_l : ∀ k, (∀ y0 y1 y2 y3, LeO (user_Check.l0 k y0 y1 y2 y3) (user_Check.l0 (k + 1) y0 y1 y2 y3)) ∧ (∀ y0 y1 y2 y3 y4 y5 y6 y7 y8 y9 y10 y11 y12, LeO (user_Check.j1 k y0 y1 y2 y3 y4 y5 y6 y7 y8 y9 y10 y11 y12) (user_Check.j1 (k + 1) y0 y1 y2 y3 y4 y5 y6 y7 y8 y9 y10 y11 y12))
  | 0 => ⟨fun _ _ _ _ r h => by simp [user_Check.l0] at h, fun _ _ _ _ _ _ _ _ _ _ _ _ _ r h => by simp [user_Check.j1] at h⟩
  | k + 1 => by
    obtain ⟨ih0, ih1⟩ := user_Check.mono_l k
    refine ⟨?_, ?_⟩
    · intro y0 y1 y2 y3
      unfold user_Check.l0
      repeat' first
      | (with_reducible exact ih0 _ _ _ _)
      | (with_reducible exact ih1 _ _ _ _ _ _ _ _ _ _ _ _ _)
      | (with_reducible exact LeO.refl _)
      | (with_reducible exact LeO.none _)
      | (with_reducible refine LeO.ite ?_ ?_)
      | (with_reducible refine LeO.bind ?_ (fun _ => ?_))
      | exact ih0 _ _ _ _
      | exact ih1 _ _ _ _ _ _ _ _ _ _ _ _ _
      | exact LeO.none _
      | refine LeO.ite ?_ ?_
      | refine LeO.bind ?_ (fun _ => ?_)
    · intro y0 y1 y2 y3 y4 y5 y6 y7 y8 y9 y10 y11 y12
      unfold user_Check.j1
      repeat' first
      | (with_reducible exact ih0 _ _ _ _)
      | (with_reducible exact ih1 _ _ _ _ _ _ _ _ _ _ _ _ _)
      | (with_reducible exact LeO.refl _)
      | (with_reducible exact LeO.none _)
      | (with_reducible refine LeO.ite ?_ ?_)
      | (with_reducible refine LeO.bind ?_ (fun _ => ?_))
      | exact ih0 _ _ _ _
      | exact ih1 _ _ _ _ _ _ _ _ _ _ _ _ _
      | exact LeO.none _
      | refine LeO.ite ?_ ?_
      | refine LeO.bind ?_ (fun _ => ?_)
theorem user_Check.mono : ∀ a0 k, LeO (user_Check.f k a0) (user_Check.f (k + 1) a0) := by
  intro a0 k
  obtain ⟨ih0, ih1⟩ := user_Check.mono_l k
  unfold user_Check.f
  repeat' first
      | (with_reducible exact ih0 _ _ _ _)
      | (with_reducible exact ih1 _ _ _ _ _ _ _ _ _ _ _ _ _)
      | (with_reducible exact LeO.refl _)
      | (with_reducible exact LeO.none _)
      | (with_reducible refine LeO.ite ?_ ?_)
      | (with_reducible refine LeO.bind ?_ (fun _ => ?_))
      | exact ih0 _ _ _ _
      | exact ih1 _ _ _ _ _ _ _ _ _ _ _ _ _
      | exact LeO.none _
      | refine LeO.ite ?_ ?_
      | refine LeO.bind ?_ (fun _ => ?_)
def user_Check.T6 : Bool × List (List Nat × List Nat) := (true, [([], []), ([0], [0]), ([1], [1]), ([2], [2]), ([3, 2], [3]), ([4], [4]), ([5, 4], [4, 5]), ([6, 4, 4], [4, 6]), ([7], [7]), ([7], [7]), ([9, 7], [7, 9]), ([8, 10, 7], [7, 8, 10]), ([11, 7], [7, 11]), ([12, 7], [7, 12]), ([7], [7]), ([14, 7], [7, 14]), ([13, 15, 7], [7, 13, 15]), ([7, 16, 4], [4, 7, 16]), ([4, 17], [4, 17])])
def user_Check.B6 : List Nat := [0, 1, 3, 7, 15, 31, 63, 127, 255, 255, 767, 2047, 4095, 8191, 255, 16639, 65535, 131071, 262143]
theorem user_Check.tab6 : rtab .any (opsOf Try.f5 6) = user_Check.T6 := by kernel_rfl
theorem user_Check.bits6 : waitsOk user_Check.T6.2 user_Check.B6 = true := by kernel_rfl
set_option maxHeartbeats 8000000 in
set_option maxRecDepth 100000 in
theorem user_Check.calls (k : Nat) (A0 : Option Addr) (c0 : Nat) (l0 : List (S39)) (r : Int) (w : World) (hr0 : Kd.C k39 w A0 l0.length l0) (hc0 : l0.length ≤ c0) (h : user_Check.f k l0 = some r) :
    Calls Try.prog 5 #[.slice A0 l0.length c0] w fun e w' => e = .returned (.int .i64 r) ∧ Below w.heap.size w w' := by
  have hu39 := Try.underlying39
  have hu36 := Try.underlying36
  have HR0 := Aside0.mk hr0
  have HC0 := Aside0.mk hc0
  clear hr0 hc0
  have HB := Aside0.mk (Below.refl w.heap.size w)
  have H : (if (l0.length : Int) > 16 then (some 4) else (user_Check.l0 k l0 l0 (l0.length : Int) 0)) = some r := h
  clear h
  by_cases c2 : (l0.length : Int) > 16
  · rw [if_pos c2] at H
    have c2b0 : decide (16 < (l0.length : Int)) = true := decide_eq_true c2
    have c2b1 : decide (16 < l0.length) = true := decide_eq_true (by omega)
    clear c2
    obtain rfl := Option.some.inj H
    go_enter Try.func5, Try.ntmps5
    go_wp2
    go_ret
    exact ⟨by first | rfl | (simp [errW_none, errW_some] <;> rfl) | (simp [*, errW_none, errW_some] <;> rfl), by repeat (first | (with_reducible first | exact HB.out | apply below_alloc | apply pw_below_drewN | apply below_drew1) | exact HB.out)⟩
  · rw [if_neg c2] at H
    have c2b0 : decide (16 < (l0.length : Int)) = false := decide_eq_false c2
    have c2b1 : decide (16 < l0.length) = false := decide_eq_false (by omega)
    clear c2
    have H' := Aside0.mk H
    clear H
    go_enter Try.func5, Try.ntmps5
    go_wp2
    go_loopg [11] k (fun kq v11 w' => ∃ (x11_1 : Int), v11 = .int .i64 x11_1 ∧ Aside0 (user_Check.l0 kq l0 l0 (l0.length : Int) x11_1 = some r) ∧ Aside0 (kq ≤ k) ∧ Aside0 (Below w.heap.size w w'))
    case atStart => exact ⟨(0), (by first | rfl | (simp; done) | (simp [*]; done)), H', ⟨Nat.le_refl _⟩, ⟨by repeat (first | (with_reducible first | exact HB.out | apply below_alloc | apply pw_below_drewN | apply below_drew1) | exact HB.out)⟩⟩
    case round =>
      clear H'
      try clear c2
      try clear c2b0
      try clear c2b1
      try clear p2
      obtain ⟨x11_1, rfl, HA, HK1, HB⟩ := hrel
      cases gk with
      | zero => exact absurd HA.out (by simp [user_Check.l0])
      | succ k1 =>
        have H := HA.out
        clear HA
        simp only [user_Check.l0] at H
        by_cases c3 : x11_1 < (l0.length : Int)
        · rw [if_pos c3] at H
          have c3b0 : decide (x11_1 < (l0.length : Int)) = true := decide_eq_true c3
          clear c3
          by_cases c4 : 0 ≤ x11_1
          · rw [if_pos c4] at H
            have c4b0 : decide (0 ≤ x11_1) = true := decide_eq_true c4
            clear c4
            by_cases c5 : x11_1 < (l0.length : Int)
            · rw [if_pos c5] at H
              have c5b0 : decide (x11_1 < (l0.length : Int)) = true := decide_eq_true c5
              clear c5
              have HC6 := Aside0.mk H
              clear H
              have p101 : 0 ≤ (x11_1 : Int) := of_decide_eq_true (by first | (with_reducible assumption) | assumption)
              have q101 : x11_1 < (l0.length : Int) := of_decide_eq_true (by first | (with_reducible assumption) | assumption)
              obtain ⟨ad101, e101, hx101_0, hx101_1, hx101_2, hx101_3, hx101_4, hx101_5, hx101_6, hx101_7⟩ := at_T39 HR0.out x11_1 p101 q101
              cases e101
              replace hx101_0 := (HB.out.cell (World.block_lt_of_cell? w _ hx101_0)).trans hx101_0
              replace hx101_1 := (HB.out.cell (World.block_lt_of_cell? w _ hx101_1)).trans hx101_1
              replace hx101_2 := (HB.out.cell (World.block_lt_of_cell? w _ hx101_2)).trans hx101_2
              replace hx101_3 := (HB.out.cell (World.block_lt_of_cell? w _ hx101_3)).trans hx101_3
              replace hx101_4 := (HB.out.cell (World.block_lt_of_cell? w _ hx101_4)).trans hx101_4
              replace hx101_5 := (HB.out.cell (World.block_lt_of_cell? w _ hx101_5)).trans hx101_5
              replace hx101_6 := (HB.out.cell (World.block_lt_of_cell? w _ hx101_6)).trans hx101_6
              replace hx101_7 := (HB.out.cell (World.block_lt_of_cell? w _ hx101_7)).trans hx101_7
              replace p101 := eq_true p101
              replace q101 := eq_true q101
              go_upto_region 6 with (first | ((with_reducible refine gate_dst (N := 4) rfl ?_); refine box_event ?hg (N := 4) ?hd (cs := #[.string (⟨#[]⟩ : ByteArray), .int .i64 0, .int .u64 0, .int .i64 0, .int .i64 0, .int .i64 0, .int .i64 0, .bool false]) (t := 39) ?hr ?_; (case hd => rfl); (case hg => rfl); (case hr => first | (go_simp; done) | (go_simp; rfl)); intro gb102 hg w7 hbox hb; have n0_ := Aside0.mk (below_step (by repeat (first | (with_reducible first | exact HB.out | apply below_alloc | apply pw_below_drewN | apply below_drew1) | exact HB.out)) hb); have n1_ := Aside0.mk (hbox); have n2_ := Aside0.mk ((by rw [hg]; exact (below_size (by repeat (first | (with_reducible first | exact HB.out | apply below_alloc | apply pw_below_drewN | apply below_drew1) | exact HB.out))) : w.heap.size ≤ gb102)); have n3_ := Aside0.mk ((by rw [hg]; exact (below_size (by repeat (first | (with_reducible first | exact HB.out | apply below_alloc | apply pw_below_drewN | apply below_drew1) | exact HB.out))) : w.heap.size ≤ gb102)); clear HB; have HB := n0_; have BK102 := n1_; have GW102 := n2_; have GE102 := n3_; clear n0_ n1_ n2_ n3_; clear hb hbox hg; have hcz8_0 : w7.cell? ⟨gb102, 0, none⟩ = some (.string (⟨#[]⟩ : ByteArray)) := (blk_cell BK102.out 0).trans rfl; have hcz8_1 : w7.cell? ⟨gb102, 1, none⟩ = some (.int .i64 0) := (blk_cell BK102.out 1).trans rfl; have hcz8_2 : w7.cell? ⟨gb102, 2, none⟩ = some (.int .u64 0) := (blk_cell BK102.out 2).trans rfl; have hcz8_3 : w7.cell? ⟨gb102, 3, none⟩ = some (.int .i64 0) := (blk_cell BK102.out 3).trans rfl; have hcz8_4 : w7.cell? ⟨gb102, 4, none⟩ = some (.int .i64 0) := (blk_cell BK102.out 4).trans rfl; have hcz8_5 : w7.cell? ⟨gb102, 5, none⟩ = some (.int .i64 0) := (blk_cell BK102.out 5).trans rfl; have hcz8_6 : w7.cell? ⟨gb102, 6, none⟩ = some (.int .i64 0) := (blk_cell BK102.out 6).trans rfl; have hcz8_7 : w7.cell? ⟨gb102, 7, none⟩ = some (.bool false) := (blk_cell BK102.out 7).trans rfl; have hfz8_0 := blk_frozen BK102.out 0; have hfz8_1 := blk_frozen BK102.out 1; have hfz8_2 := blk_frozen BK102.out 2; have hfz8_3 := blk_frozen BK102.out 3; have hfz8_4 := blk_frozen BK102.out 4; have hfz8_5 := blk_frozen BK102.out 5; have hfz8_6 := blk_frozen BK102.out 6; have hfz8_7 := blk_frozen BK102.out 7))
              (try simp only [Act.put, List.setIfInBounds_toArray, List.set_cons_zero, List.set_cons_succ])
              go_cut [34] (fun v34 wc => ∃ (kq : Nat) (x34_5 : Bool), v34 = .bool x34_5 ∧ Aside0 (user_Check.j1 kq l0 l0 (l0.length : Int) x11_1 x34_5 ((rd_T39 l0 x11_1).f0) ((rd_T39 l0 x11_1).f1) ((rd_T39 l0 x11_1).f2) ((rd_T39 l0 x11_1).f3.f0) ((rd_T39 l0 x11_1).f3.f1) ((rd_T39 l0 x11_1).f3.f2) ((rd_T39 l0 x11_1).f3.f3) ((rd_T39 l0 x11_1).f4) = some r) ∧ Aside0 (kq ≤ k1) ∧ Aside0 (wc.heap[gb102]? = some (.cells #[.string ((rd_T39 l0 x11_1).f0), .int .i64 ((rd_T39 l0 x11_1).f1), .int .u64 ((rd_T39 l0 x11_1).f2), .int .i64 ((rd_T39 l0 x11_1).f3.f0), .int .i64 ((rd_T39 l0 x11_1).f3.f1), .int .i64 ((rd_T39 l0 x11_1).f3.f2), .int .i64 ((rd_T39 l0 x11_1).f3.f3), .bool ((rd_T39 l0 x11_1).f4)] 39 (0, 0))) ∧ Aside0 (Below w.heap.size w wc))
              case first =>
                have H := HC6.out
                clear HC6
                replace H := Option.bind_eq_some_iff.mp H
                obtain ⟨t103, A90, H⟩ := H
                replace H : (if t103 = true then (if x11_1 > 0 then (if 0 ≤ (wrap64 (x11_1 - 1)) then (if (wrap64 (x11_1 - 1)) < (l0.length : Int) then (user_Check.j1 k1 l0 l0 (l0.length : Int) x11_1 (!(Op.bytesLess (((rd_T39 l0 (wrap64 (x11_1 - 1))).f0).toList) (((rd_T39 l0 x11_1).f0).toList))) ((rd_T39 l0 x11_1).f0) ((rd_T39 l0 x11_1).f1) ((rd_T39 l0 x11_1).f2) ((rd_T39 l0 x11_1).f3.f0) ((rd_T39 l0 x11_1).f3.f1) ((rd_T39 l0 x11_1).f3.f2) ((rd_T39 l0 x11_1).f3.f3) ((rd_T39 l0 x11_1).f4)) else (none)) else (none)) else (user_Check.j1 k1 l0 l0 (l0.length : Int) x11_1 false ((rd_T39 l0 x11_1).f0) ((rd_T39 l0 x11_1).f1) ((rd_T39 l0 x11_1).f2) ((rd_T39 l0 x11_1).f3.f0) ((rd_T39 l0 x11_1).f3.f1) ((rd_T39 l0 x11_1).f3.f2) ((rd_T39 l0 x11_1).f3.f3) ((rd_T39 l0 x11_1).f4))) else (user_Check.j1 k1 l0 l0 (l0.length : Int) x11_1 true ((rd_T39 l0 x11_1).f0) ((rd_T39 l0 x11_1).f1) ((rd_T39 l0 x11_1).f2) ((rd_T39 l0 x11_1).f3.f0) ((rd_T39 l0 x11_1).f3.f1) ((rd_T39 l0 x11_1).f3.f2) ((rd_T39 l0 x11_1).f3.f3) ((rd_T39 l0 x11_1).f4))) = some r := H
                have A9 := Aside0.mk A90
                clear A90
                by_cases c10 : t103 = true
                · subst c10
                  have H1 : (if x11_1 > 0 then (if 0 ≤ (wrap64 (x11_1 - 1)) then (if (wrap64 (x11_1 - 1)) < (l0.length : Int) then (user_Check.j1 k1 l0 l0 (l0.length : Int) x11_1 (!(Op.bytesLess (((rd_T39 l0 (wrap64 (x11_1 - 1))).f0).toList) (((rd_T39 l0 x11_1).f0).toList))) ((rd_T39 l0 x11_1).f0) ((rd_T39 l0 x11_1).f1) ((rd_T39 l0 x11_1).f2) ((rd_T39 l0 x11_1).f3.f0) ((rd_T39 l0 x11_1).f3.f1) ((rd_T39 l0 x11_1).f3.f2) ((rd_T39 l0 x11_1).f3.f3) ((rd_T39 l0 x11_1).f4)) else (none)) else (none)) else (user_Check.j1 k1 l0 l0 (l0.length : Int) x11_1 false ((rd_T39 l0 x11_1).f0) ((rd_T39 l0 x11_1).f1) ((rd_T39 l0 x11_1).f2) ((rd_T39 l0 x11_1).f3.f0) ((rd_T39 l0 x11_1).f3.f1) ((rd_T39 l0 x11_1).f3.f2) ((rd_T39 l0 x11_1).f3.f3) ((rd_T39 l0 x11_1).f4))) = some r := by rw [if_pos rfl] at H; exact H
                  clear H
                  have H := H1
                  clear H1
                  by_cases c11 : x11_1 > 0
                  · rw [if_pos c11] at H
                    have c11b0 : decide (0 < x11_1) = true := decide_eq_true c11
                    clear c11
                    (first | rw [c11b0] | (simp only [i64_w, i32_w]; rw [c11b0]) | skip)
                    obtain ⟨ji12, hji12⟩ : ∃ j_ : Int, (wrap64 (x11_1 - 1)) = j_ := ⟨_, rfl⟩
                    replace H : (if 0 ≤ (ji12) then (if (ji12) < (l0.length : Int) then (user_Check.j1 k1 l0 l0 (l0.length : Int) x11_1 (!(Op.bytesLess (((rd_T39 l0 (ji12)).f0).toList) (((rd_T39 l0 x11_1).f0).toList))) ((rd_T39 l0 x11_1).f0) ((rd_T39 l0 x11_1).f1) ((rd_T39 l0 x11_1).f2) ((rd_T39 l0 x11_1).f3.f0) ((rd_T39 l0 x11_1).f3.f1) ((rd_T39 l0 x11_1).f3.f2) ((rd_T39 l0 x11_1).f3.f3) ((rd_T39 l0 x11_1).f4)) else (none)) else (none)) = some r := by first | (rw [hji12] at H; exact H) | (simp only [hji12] at H ⊢; exact H)
                    (try rw [hji12] at A9)
                    have hji12w : (IntKind.i64.wrap (x11_1 - 1)) = ji12 := (i64_w _).trans hji12
                    by_cases c13 : 0 ≤ (ji12)
                    · rw [if_pos c13] at H
                      have c13b0 : decide (0 ≤ (ji12)) = true := decide_eq_true c13
                      clear c13
                      by_cases c14 : (ji12) < (l0.length : Int)
                      · rw [if_pos c14] at H
                        have c14b0 : decide ((ji12) < (l0.length : Int)) = true := decide_eq_true c14
                        clear c14
                        have H' := Aside0.mk H
                        clear H
                        try go_wp2
                        have n0_ : Aside0 (((((((((w7.setCell ⟨gb102, 0, none⟩ (.string ((rd_T39 l0 x11_1).f0))).setCell ⟨gb102, 1, none⟩ (.int .i64 ((rd_T39 l0 x11_1).f1))).setCell ⟨gb102, 2, none⟩ (.int .u64 ((rd_T39 l0 x11_1).f2))).setCell ⟨gb102, 3, none⟩ (.int .i64 ((rd_T39 l0 x11_1).f3.f0))).setCell ⟨gb102, 4, none⟩ (.int .i64 ((rd_T39 l0 x11_1).f3.f1))).setCell ⟨gb102, 5, none⟩ (.int .i64 ((rd_T39 l0 x11_1).f3.f2))).setCell ⟨gb102, 6, none⟩ (.int .i64 ((rd_T39 l0 x11_1).f3.f3))).setCell ⟨gb102, 7, none⟩ (.bool ((rd_T39 l0 x11_1).f4))).heap[gb102]? = some (.cells #[.string ((rd_T39 l0 x11_1).f0), .int .i64 ((rd_T39 l0 x11_1).f1), .int .u64 ((rd_T39 l0 x11_1).f2), .int .i64 ((rd_T39 l0 x11_1).f3.f0), .int .i64 ((rd_T39 l0 x11_1).f3.f1), .int .i64 ((rd_T39 l0 x11_1).f3.f2), .int .i64 ((rd_T39 l0 x11_1).f3.f3), .bool ((rd_T39 l0 x11_1).f4)] 39 (0, 0))) := ⟨by (with_reducible repeat (first | refine blk_drewN ?_ _ | refine blk_drew ?_ | refine blk_alloc ?_ _)); refine blk_put (cs := #[.string ((rd_T39 l0 x11_1).f0), .int .i64 ((rd_T39 l0 x11_1).f1), .int .u64 ((rd_T39 l0 x11_1).f2), .int .i64 ((rd_T39 l0 x11_1).f3.f0), .int .i64 ((rd_T39 l0 x11_1).f3.f1), .int .i64 ((rd_T39 l0 x11_1).f3.f2), .int .i64 ((rd_T39 l0 x11_1).f3.f3), .bool false]) ?_ 7 _ rfl; (with_reducible repeat (first | refine blk_drewN ?_ _ | refine blk_drew ?_ | refine blk_alloc ?_ _)); refine blk_put (cs := #[.string ((rd_T39 l0 x11_1).f0), .int .i64 ((rd_T39 l0 x11_1).f1), .int .u64 ((rd_T39 l0 x11_1).f2), .int .i64 ((rd_T39 l0 x11_1).f3.f0), .int .i64 ((rd_T39 l0 x11_1).f3.f1), .int .i64 ((rd_T39 l0 x11_1).f3.f2), .int .i64 0, .bool false]) ?_ 6 _ rfl; (with_reducible repeat (first | refine blk_drewN ?_ _ | refine blk_drew ?_ | refine blk_alloc ?_ _)); refine blk_put (cs := #[.string ((rd_T39 l0 x11_1).f0), .int .i64 ((rd_T39 l0 x11_1).f1), .int .u64 ((rd_T39 l0 x11_1).f2), .int .i64 ((rd_T39 l0 x11_1).f3.f0), .int .i64 ((rd_T39 l0 x11_1).f3.f1), .int .i64 0, .int .i64 0, .bool false]) ?_ 5 _ rfl; (with_reducible repeat (first | refine blk_drewN ?_ _ | refine blk_drew ?_ | refine blk_alloc ?_ _)); refine blk_put (cs := #[.string ((rd_T39 l0 x11_1).f0), .int .i64 ((rd_T39 l0 x11_1).f1), .int .u64 ((rd_T39 l0 x11_1).f2), .int .i64 ((rd_T39 l0 x11_1).f3.f0), .int .i64 0, .int .i64 0, .int .i64 0, .bool false]) ?_ 4 _ rfl; (with_reducible repeat (first | refine blk_drewN ?_ _ | refine blk_drew ?_ | refine blk_alloc ?_ _)); refine blk_put (cs := #[.string ((rd_T39 l0 x11_1).f0), .int .i64 ((rd_T39 l0 x11_1).f1), .int .u64 ((rd_T39 l0 x11_1).f2), .int .i64 0, .int .i64 0, .int .i64 0, .int .i64 0, .bool false]) ?_ 3 _ rfl; (with_reducible repeat (first | refine blk_drewN ?_ _ | refine blk_drew ?_ | refine blk_alloc ?_ _)); refine blk_put (cs := #[.string ((rd_T39 l0 x11_1).f0), .int .i64 ((rd_T39 l0 x11_1).f1), .int .u64 0, .int .i64 0, .int .i64 0, .int .i64 0, .int .i64 0, .bool false]) ?_ 2 _ rfl; (with_reducible repeat (first | refine blk_drewN ?_ _ | refine blk_drew ?_ | refine blk_alloc ?_ _)); refine blk_put (cs := #[.string ((rd_T39 l0 x11_1).f0), .int .i64 0, .int .u64 0, .int .i64 0, .int .i64 0, .int .i64 0, .int .i64 0, .bool false]) ?_ 1 _ rfl; (with_reducible repeat (first | refine blk_drewN ?_ _ | refine blk_drew ?_ | refine blk_alloc ?_ _)); refine blk_put (cs := #[.string (⟨#[]⟩ : ByteArray), .int .i64 0, .int .u64 0, .int .i64 0, .int .i64 0, .int .i64 0, .int .i64 0, .bool false]) ?_ 0 _ rfl; (with_reducible repeat (first | refine blk_drewN ?_ _ | refine blk_drew ?_ | refine blk_alloc ?_ _)); exact BK102.out⟩
                        have n1_ : Aside0 (Below w.heap.size w ((((((((w7.setCell ⟨gb102, 0, none⟩ (.string ((rd_T39 l0 x11_1).f0))).setCell ⟨gb102, 1, none⟩ (.int .i64 ((rd_T39 l0 x11_1).f1))).setCell ⟨gb102, 2, none⟩ (.int .u64 ((rd_T39 l0 x11_1).f2))).setCell ⟨gb102, 3, none⟩ (.int .i64 ((rd_T39 l0 x11_1).f3.f0))).setCell ⟨gb102, 4, none⟩ (.int .i64 ((rd_T39 l0 x11_1).f3.f1))).setCell ⟨gb102, 5, none⟩ (.int .i64 ((rd_T39 l0 x11_1).f3.f2))).setCell ⟨gb102, 6, none⟩ (.int .i64 ((rd_T39 l0 x11_1).f3.f3))).setCell ⟨gb102, 7, none⟩ (.bool ((rd_T39 l0 x11_1).f4)))) := ⟨by repeat (first | (with_reducible first | exact HB.out | apply below_alloc | apply pw_below_drewN | apply below_drew1 | refine below_set ?_ GE102.out) | exact HB.out)⟩
                        (try clear BK102)
                        (try clear HB)
                        generalize ((((((((w7.setCell ⟨gb102, 0, none⟩ (.string ((rd_T39 l0 x11_1).f0))).setCell ⟨gb102, 1, none⟩ (.int .i64 ((rd_T39 l0 x11_1).f1))).setCell ⟨gb102, 2, none⟩ (.int .u64 ((rd_T39 l0 x11_1).f2))).setCell ⟨gb102, 3, none⟩ (.int .i64 ((rd_T39 l0 x11_1).f3.f0))).setCell ⟨gb102, 4, none⟩ (.int .i64 ((rd_T39 l0 x11_1).f3.f1))).setCell ⟨gb102, 5, none⟩ (.int .i64 ((rd_T39 l0 x11_1).f3.f2))).setCell ⟨gb102, 6, none⟩ (.int .i64 ((rd_T39 l0 x11_1).f3.f3))).setCell ⟨gb102, 7, none⟩ (.bool ((rd_T39 l0 x11_1).f4))) = w15 at n0_ n1_ ⊢
                        have BK102 := n0_
                        have HB := n1_
                        clear n0_ n1_
                        have n0_ := Aside0.mk (blk_drew BK102.out)
                        have n1_ := Aside0.mk (below_drew1 HB.out)
                        clear BK102
                        clear HB
                        have BK102 := n0_
                        have HB := n1_
                        clear n0_ n1_
                        have p104 : 0 ≤ ((ji12) : Int) := of_decide_eq_true (by first | (with_reducible assumption) | assumption)
                        have q104 : (ji12) < (l0.length : Int) := of_decide_eq_true (by first | (with_reducible assumption) | assumption)
                        obtain ⟨ad104, e104, hx104_0, hx104_1, hx104_2, hx104_3, hx104_4, hx104_5, hx104_6, hx104_7⟩ := at_T39 HR0.out (ji12) p104 q104
                        have hw104_7 := hx104_7
                        have hw104_6 := hx104_6
                        have hw104_5 := hx104_5
                        have hw104_4 := hx104_4
                        have hw104_3 := hx104_3
                        have hw104_2 := hx104_2
                        have hw104_1 := hx104_1
                        have hw104_0 := hx104_0
                        obtain rfl : ad101 = ad104 := (by injection e104)
                        replace hx104_0 := (HB.out.cell (World.block_lt_of_cell? w _ hx104_0)).trans hx104_0
                        replace hx104_1 := (HB.out.cell (World.block_lt_of_cell? w _ hx104_1)).trans hx104_1
                        replace hx104_2 := (HB.out.cell (World.block_lt_of_cell? w _ hx104_2)).trans hx104_2
                        replace hx104_3 := (HB.out.cell (World.block_lt_of_cell? w _ hx104_3)).trans hx104_3
                        replace hx104_4 := (HB.out.cell (World.block_lt_of_cell? w _ hx104_4)).trans hx104_4
                        replace hx104_5 := (HB.out.cell (World.block_lt_of_cell? w _ hx104_5)).trans hx104_5
                        replace hx104_6 := (HB.out.cell (World.block_lt_of_cell? w _ hx104_6)).trans hx104_6
                        replace hx104_7 := (HB.out.cell (World.block_lt_of_cell? w _ hx104_7)).trans hx104_7
                        replace p104 := eq_true p104
                        replace q104 := eq_true q104
                        refine start_ (n := 19) (S := fun w' => w'.cell? ⟨gb102, 0, none⟩ = some (.string ((rd_T39 l0 x11_1).f0)) ∧ w'.cell? ⟨gb102, 1, none⟩ = some (.int .i64 ((rd_T39 l0 x11_1).f1)) ∧ w'.cell? ⟨gb102, 2, none⟩ = some (.int .u64 ((rd_T39 l0 x11_1).f2)) ∧ w'.cell? ⟨gb102, 3, none⟩ = some (.int .i64 ((rd_T39 l0 x11_1).f3.f0)) ∧ w'.cell? ⟨gb102, 4, none⟩ = some (.int .i64 ((rd_T39 l0 x11_1).f3.f1)) ∧ w'.cell? ⟨gb102, 5, none⟩ = some (.int .i64 ((rd_T39 l0 x11_1).f3.f2)) ∧ w'.cell? ⟨gb102, 6, none⟩ = some (.int .i64 ((rd_T39 l0 x11_1).f3.f3)) ∧ w'.cell? ⟨gb102, 7, none⟩ = some (.bool ((rd_T39 l0 x11_1).f4)) ∧ w'.cell? (ad101.add (((ji12)).toNat * 8)) = some (.string ((rd_T39 l0 (ji12)).f0)) ∧ w'.cell? ⟨(ad101.add (((ji12)).toNat * 8)).block, (ad101.add (((ji12)).toNat * 8)).off + 1, none⟩ = some (.int .i64 ((rd_T39 l0 (ji12)).f1)) ∧ w'.cell? ⟨(ad101.add (((ji12)).toNat * 8)).block, (ad101.add (((ji12)).toNat * 8)).off + 2, none⟩ = some (.int .u64 ((rd_T39 l0 (ji12)).f2)) ∧ w'.cell? ⟨(ad101.add (((ji12)).toNat * 8)).block, (ad101.add (((ji12)).toNat * 8)).off + 3, none⟩ = some (.int .i64 ((rd_T39 l0 (ji12)).f3.f0)) ∧ w'.cell? ⟨(ad101.add (((ji12)).toNat * 8)).block, (ad101.add (((ji12)).toNat * 8)).off + 4, none⟩ = some (.int .i64 ((rd_T39 l0 (ji12)).f3.f1)) ∧ w'.cell? ⟨(ad101.add (((ji12)).toNat * 8)).block, (ad101.add (((ji12)).toNat * 8)).off + 5, none⟩ = some (.int .i64 ((rd_T39 l0 (ji12)).f3.f2)) ∧ w'.cell? ⟨(ad101.add (((ji12)).toNat * 8)).block, (ad101.add (((ji12)).toNat * 8)).off + 6, none⟩ = some (.int .i64 ((rd_T39 l0 (ji12)).f3.f3)) ∧ w'.cell? ⟨(ad101.add (((ji12)).toNat * 8)).block, (ad101.add (((ji12)).toNat * 8)).off + 7, none⟩ = some (.bool ((rd_T39 l0 (ji12)).f4))) (ds := []) #[false, false, false, false, false, false, false, false, false, false, false, false, false, false, false, false, false, false, false] (by kernel_rfl) rfl rfl ⟨(blk_cell BK102.out 0).trans rfl, (blk_cell BK102.out 1).trans rfl, (blk_cell BK102.out 2).trans rfl, (blk_cell BK102.out 3).trans rfl, (blk_cell BK102.out 4).trans rfl, (blk_cell BK102.out 5).trans rfl, (blk_cell BK102.out 6).trans rfl, (blk_cell BK102.out 7).trans rfl, ((HB.out.cell (World.block_lt_of_cell? w _ hw104_0)).trans hw104_0), ((HB.out.cell (World.block_lt_of_cell? w _ hw104_1)).trans hw104_1), ((HB.out.cell (World.block_lt_of_cell? w _ hw104_2)).trans hw104_2), ((HB.out.cell (World.block_lt_of_cell? w _ hw104_3)).trans hw104_3), ((HB.out.cell (World.block_lt_of_cell? w _ hw104_4)).trans hw104_4), ((HB.out.cell (World.block_lt_of_cell? w _ hw104_5)).trans hw104_5), ((HB.out.cell (World.block_lt_of_cell? w _ hw104_6)).trans hw104_6), ((HB.out.cell (World.block_lt_of_cell? w _ hw104_7)).trans hw104_7)⟩ (fun hHeld => ?_); refine with_tabW user_Check.tab6 user_Check.bits6 (fun HT_ HW_ => ?_)
                        generalize w15.drew = w16 at BK102 HB hx104_0 hx104_1 hx104_2 hx104_3 hx104_4 hx104_5 hx104_6 hx104_7 hHeld ⊢
                        refine pure_ (i := 0) (N := some 16) (v := ?_) (a' := ?_) #[true, false, false, false, false, false, false, false, false, false, false, false, false, false, false, false, false, false, false] rfl rfl (any_of HT_.out (by kernel_rfl)) (fun _ _ _ h => h) (Or.inl ⟨by rfl, ?_⟩) ?_ ?_
                        rotate_left
                        · intro w'
                          go_simp
                          with_reducible rfl
                        rotate_left
                        · simp only [Act.put, List.setIfInBounds_toArray, List.set_cons_zero, List.set_cons_succ, i64_w, i32_w]
                          rfl
                        refine take_ (i := 1) (N := some 17) (v := ?_) (a' := ?_) #[true, true, false, false, false, false, false, false, false, false, false, false, false, false, false, false, false, false, false] rfl rfl (take_ofW HT_.out HW_.out (by kernel_rfl)) (fun _ _ _ h => h) (Or.inl ⟨by rfl, ?_⟩) hHeld ?_ ?_
                        rotate_left
                        · rintro w' ⟨s0, s1, s2, s3, s4, s5, s6, s7, s8, s9, s10, s11, s12, s13, s14, s15⟩
                          go_simp
                          with_reducible rfl
                        rotate_left
                        · simp only [Act.put, List.setIfInBounds_toArray, List.set_cons_zero, List.set_cons_succ, i64_w, i32_w]
                          rfl
                        refine one_ (i := 2) (N := some 18) #[true, true, true, false, false, false, false, false, false, false, false, false, false, false, false, false, false, false, false] rfl rfl (one_of HT_.out (by kernel_rfl)) (by decide) (fun K hK => ?_)
                        refine goes_ Try.func10 (by kernel_rfl) rfl #[.string ((rd_T39 l0 x11_1).f0)] (by rfl) rfl rfl (by (try simp only [List.map_toArray, List.map_cons, List.map_nil]); first | done | rfl | (simp only [List.length_drop, List.length_take]; rfl)) ?_
                        with_reducible refine (path_Name.calls ((rd_T39 l0 x11_1).f0) true _ A9.out).mono ?_
                        rintro e w17 ⟨rfl, hb⟩
                        refine ⟨_, rfl, ?_⟩
                        have n0_ := Aside0.mk (blk_below (g := gb102) (o := .cells #[.string ((rd_T39 l0 x11_1).f0), .int .i64 ((rd_T39 l0 x11_1).f1), .int .u64 ((rd_T39 l0 x11_1).f2), .int .i64 ((rd_T39 l0 x11_1).f3.f0), .int .i64 ((rd_T39 l0 x11_1).f3.f1), .int .i64 ((rd_T39 l0 x11_1).f3.f2), .int .i64 ((rd_T39 l0 x11_1).f3.f3), .bool ((rd_T39 l0 x11_1).f4)] 39 (0, 0)) (by (with_reducible repeat (first | refine blk_drewN ?_ _ | refine blk_drew ?_ | refine blk_alloc ?_ _)); exact BK102.out) hb)
                        have n1_ := Aside0.mk (below_step (by repeat (first | (with_reducible first | exact HB.out | apply below_alloc | apply pw_below_drewN | apply below_drew1 | refine below_set ?_ GE102.out) | exact HB.out)) hb)
                        clear BK102
                        clear HB
                        have BK102 := n0_
                        have HB := n1_
                        clear n0_ n1_
                        (try clear hb)
                        (try clear hb2)
                        (try clear hk)
                        (try clear hi)
                        refine hK.out _ _ ⟨(blk_cell BK102.out 0).trans rfl, (blk_cell BK102.out 1).trans rfl, (blk_cell BK102.out 2).trans rfl, (blk_cell BK102.out 3).trans rfl, (blk_cell BK102.out 4).trans rfl, (blk_cell BK102.out 5).trans rfl, (blk_cell BK102.out 6).trans rfl, (blk_cell BK102.out 7).trans rfl, ((HB.out.cell (World.block_lt_of_cell? w _ hw104_0)).trans hw104_0), ((HB.out.cell (World.block_lt_of_cell? w _ hw104_1)).trans hw104_1), ((HB.out.cell (World.block_lt_of_cell? w _ hw104_2)).trans hw104_2), ((HB.out.cell (World.block_lt_of_cell? w _ hw104_3)).trans hw104_3), ((HB.out.cell (World.block_lt_of_cell? w _ hw104_4)).trans hw104_4), ((HB.out.cell (World.block_lt_of_cell? w _ hw104_5)).trans hw104_5), ((HB.out.cell (World.block_lt_of_cell? w _ hw104_6)).trans hw104_6), ((HB.out.cell (World.block_lt_of_cell? w _ hw104_7)).trans hw104_7)⟩ (fun hHeld => ?_)
                        clear hK K
                        refine norm_ (a' := ?_) ?_ ?_
                        rotate_left
                        · show Act.put _ (some 18) _ = _
                          simp only [Act.put, List.setIfInBounds_toArray, List.set_cons_zero, List.set_cons_succ, i64_w, i32_w]
                          rfl
                        refine pure_ (i := 3) (N := some 19) (v := ?_) (a' := ?_) #[true, true, true, true, false, false, false, false, false, false, false, false, false, false, false, false, false, false, false] rfl rfl (any_of HT_.out (by kernel_rfl)) (fun _ _ _ h => h) (Or.inl ⟨by rfl, ?_⟩) ?_ ?_
                        rotate_left
                        · intro w'
                          go_simp
                          with_reducible rfl
                        rotate_left
                        · simp only [Act.put, List.setIfInBounds_toArray, List.set_cons_zero, List.set_cons_succ, i64_w, i32_w]
                          rfl
                        refine pure_ (i := 4) (N := some 20) (v := ?_) (a' := ?_) #[true, true, true, true, true, false, false, false, false, false, false, false, false, false, false, false, false, false, false] rfl rfl (any_of HT_.out (by kernel_rfl)) (fun _ _ _ h => h) (Or.inl ⟨by rfl, ?_⟩) ?_ ?_
                        rotate_left
                        · intro w'
                          go_simp
                          with_reducible rfl
                        rotate_left
                        · simp only [Act.put, List.setIfInBounds_toArray, List.set_cons_zero, List.set_cons_succ, i64_w, i32_w]
                          rfl
                        refine pure_ (i := 5) (N := some 21) (v := ?_) (a' := ?_) #[true, true, true, true, true, true, false, false, false, false, false, false, false, false, false, false, false, false, false] rfl rfl (any_of HT_.out (by kernel_rfl)) (fun _ _ _ h => h) (Or.inl ⟨by rfl, ?_⟩) ?_ ?_
                        rotate_left
                        · intro w'
                          go_simp
                          with_reducible rfl
                        rotate_left
                        · simp only [Act.put, List.setIfInBounds_toArray, List.set_cons_zero, List.set_cons_succ, i64_w, i32_w]
                          rfl
                        refine pure_ (i := 6) (N := some 22) (v := ?_) (a' := ?_) #[true, true, true, true, true, true, true, false, false, false, false, false, false, false, false, false, false, false, false] rfl rfl (any_of HT_.out (by kernel_rfl)) (fun _ _ _ h => h) (Or.inl ⟨by rfl, ?_⟩) ?_ ?_
                        rotate_left
                        · intro w'
                          go_simp
                          with_reducible rfl
                        rotate_left
                        · simp only [Act.put, List.setIfInBounds_toArray, List.set_cons_zero, List.set_cons_succ, i64_w, i32_w]
                          rfl
                        refine pure_ (i := 7) (N := some 23) (v := ?_) (a' := ?_) #[true, true, true, true, true, true, true, true, false, false, false, false, false, false, false, false, false, false, false] rfl rfl (any_of HT_.out (by kernel_rfl)) (fun _ _ _ h => h) (Or.inl ⟨by rfl, ?_⟩) ?_ ?_
                        rotate_left
                        · intro w'
                          go_simp
                          with_reducible rfl
                        rotate_left
                        · simp only [Act.put, List.setIfInBounds_toArray, List.set_cons_zero, List.set_cons_succ, i64_w, i32_w]
                          rfl
                        refine pure_ (i := 8) (N := some 24) (v := ?_) (a' := ?_) #[true, true, true, true, true, true, true, true, true, false, false, false, false, false, false, false, false, false, false] rfl rfl (any_of HT_.out (by kernel_rfl)) (fun _ _ _ h => h) (Or.inl ⟨by rfl, ?_⟩) ?_ ?_
                        rotate_left
                        · intro w'
                          go_simp
                          with_reducible rfl
                        rotate_left
                        · simp only [Act.put, List.setIfInBounds_toArray, List.set_cons_zero, List.set_cons_succ, i64_w, i32_w]
                          rfl
                        refine pure_ (i := 9) (N := some 25) (v := ?_) (a' := ?_) #[true, true, true, true, true, true, true, true, true, true, false, false, false, false, false, false, false, false, false] rfl rfl (any_of HT_.out (by kernel_rfl)) (fun _ _ _ h => h) (Or.inl ⟨by rfl, ?_⟩) ?_ ?_
                        rotate_left
                        · intro w'
                          go_simp
                          with_reducible rfl
                        rotate_left
                        · simp only [Act.put, List.setIfInBounds_toArray, List.set_cons_zero, List.set_cons_succ, i64_w, i32_w]
                          rfl
                        refine pure_ (i := 10) (N := some 26) (v := ?_) (a' := ?_) #[true, true, true, true, true, true, true, true, true, true, true, false, false, false, false, false, false, false, false] rfl rfl (any_of HT_.out (by kernel_rfl)) (fun _ _ _ h => h) (Or.inl ⟨by rfl, ?_⟩) ?_ ?_
                        rotate_left
                        · intro w'
                          go_simp
                          with_reducible rfl
                        rotate_left
                        · simp only [Act.put, List.setIfInBounds_toArray, List.set_cons_zero, List.set_cons_succ, i64_w, i32_w]
                          rfl
                        refine pure_ (i := 11) (N := some 27) (v := ?_) (a' := ?_) #[true, true, true, true, true, true, true, true, true, true, true, true, false, false, false, false, false, false, false] rfl rfl (any_of HT_.out (by kernel_rfl)) (fun _ _ _ h => h) (Or.inl ⟨by rfl, ?_⟩) ?_ ?_
                        rotate_left
                        · intro w'
                          go_simp
                          with_reducible rfl
                        rotate_left
                        · simp only [Act.put, List.setIfInBounds_toArray, List.set_cons_zero, List.set_cons_succ, i64_w, i32_w]
                          rfl
                        refine pure_ (i := 12) (N := some 28) (v := ?_) (a' := ?_) #[true, true, true, true, true, true, true, true, true, true, true, true, true, false, false, false, false, false, false] rfl rfl (any_of HT_.out (by kernel_rfl)) (fun _ _ _ h => h) (Or.inl ⟨by rfl, ?_⟩) ?_ ?_
                        rotate_left
                        · intro w'
                          go_simp
                          with_reducible rfl
                        rotate_left
                        · simp only [Act.put, List.setIfInBounds_toArray, List.set_cons_zero, List.set_cons_succ, i64_w, i32_w]
                          rfl
                        refine pure_ (i := 14) (N := some 30) (v := ?_) (a' := ?_) #[true, true, true, true, true, true, true, true, true, true, true, true, true, false, true, false, false, false, false] rfl rfl (any_of HT_.out (by kernel_rfl)) (fun _ _ _ h => h) (Or.inl ⟨by rfl, ?_⟩) ?_ ?_
                        rotate_left
                        · intro w'
                          go_simp
                          with_reducible rfl
                        rotate_left
                        · simp only [Act.put, List.setIfInBounds_toArray, List.set_cons_zero, List.set_cons_succ, i64_w, i32_w]
                          rfl
                        refine take_ (i := 13) (N := some 29) (v := ?_) (a' := ?_) #[true, true, true, true, true, true, true, true, true, true, true, true, true, true, true, false, false, false, false] rfl rfl (take_ofW HT_.out HW_.out (by kernel_rfl)) (fun _ _ _ h => h) (Or.inl ⟨by rfl, ?_⟩) hHeld ?_ ?_
                        rotate_left
                        · rintro w' ⟨s0, s1, s2, s3, s4, s5, s6, s7, s8, s9, s10, s11, s12, s13, s14, s15⟩
                          go_simp
                          with_reducible rfl
                        rotate_left
                        · simp only [Act.put, List.setIfInBounds_toArray, List.set_cons_zero, List.set_cons_succ, i64_w, i32_w]
                          rfl
                        refine take_ (i := 15) (N := some 31) (v := ?_) (a' := ?_) #[true, true, true, true, true, true, true, true, true, true, true, true, true, true, true, true, false, false, false] rfl rfl (take_ofW HT_.out HW_.out (by kernel_rfl)) (fun _ _ _ h => h) (Or.inl ⟨by rfl, ?_⟩) hHeld ?_ ?_
                        rotate_left
                        · rintro w' ⟨s0, s1, s2, s3, s4, s5, s6, s7, s8, s9, s10, s11, s12, s13, s14, s15⟩
                          go_simp
                          with_reducible rfl
                        rotate_left
                        · simp only [Act.put, List.setIfInBounds_toArray, List.set_cons_zero, List.set_cons_succ, i64_w, i32_w]
                          rfl
                        refine pure_ (i := 16) (N := some 32) (v := ?_) (a' := ?_) #[true, true, true, true, true, true, true, true, true, true, true, true, true, true, true, true, true, false, false] rfl rfl (any_of HT_.out (by kernel_rfl)) (fun _ _ _ h => h) (Or.inl ⟨by rfl, ?_⟩) ?_ ?_
                        rotate_left
                        · intro w'
                          go_simp
                          with_reducible rfl
                        rotate_left
                        · simp only [Act.put, List.setIfInBounds_toArray, List.set_cons_zero, List.set_cons_succ, i64_w, i32_w]
                          rfl
                        refine pure_ (i := 17) (N := some 33) (v := ?_) (a' := ?_) #[true, true, true, true, true, true, true, true, true, true, true, true, true, true, true, true, true, true, false] rfl rfl (any_of HT_.out (by kernel_rfl)) (fun _ _ _ h => h) (Or.inl ⟨by rfl, ?_⟩) ?_ ?_
                        rotate_left
                        · intro w'
                          go_simp
                          with_reducible rfl
                        rotate_left
                        · simp only [Act.put, List.setIfInBounds_toArray, List.set_cons_zero, List.set_cons_succ, i64_w, i32_w]
                          rfl
                        refine pure_ (i := 18) (N := some 34) (v := ?_) (a' := ?_) #[true, true, true, true, true, true, true, true, true, true, true, true, true, true, true, true, true, true, true] rfl rfl (any_of HT_.out (by kernel_rfl)) (fun _ _ _ h => h) (Or.inl ⟨by rfl, ?_⟩) ?_ ?_
                        rotate_left
                        · intro w'
                          go_simp
                          with_reducible rfl
                        rotate_left
                        · simp only [Act.put, List.setIfInBounds_toArray, List.set_cons_zero, List.set_cons_succ, i64_w, i32_w]
                          rfl
                        refine done_ (done_of HT_.out (by kernel_rfl)) ?_
                        try go_wp2
                        go_meet
                        case rel => exact ⟨_, (!(Op.bytesLess (((rd_T39 l0 (ji12)).f0).toList) (((rd_T39 l0 x11_1).f0).toList))), (by first | rfl | (simp; done) | (simp only [← hji12] <;> (first | rfl | simp)) | (simp [*]; done)), H', ⟨by have := HK1.out; first | omega | exact Nat.le_refl _⟩, ⟨by (with_reducible repeat (first | refine blk_drewN ?_ _ | refine blk_drew ?_ | refine blk_alloc ?_ _)); exact BK102.out⟩, ⟨by repeat (first | (with_reducible first | exact HB.out | apply below_alloc | apply pw_below_drewN | apply below_drew1 | refine below_set ?_ GE102.out) | exact HB.out)⟩⟩
                      · rw [if_neg c14] at H
                        exact absurd H (by simp)
                    · rw [if_neg c13] at H
                      exact absurd H (by simp)
                  · rw [if_neg c11] at H
                    have c11b0 : decide (0 < x11_1) = false := decide_eq_false c11
                    clear c11
                    (first | rw [c11b0] | (simp only [i64_w, i32_w]; rw [c11b0]) | skip)
                    have H' := Aside0.mk H
                    clear H
                    try go_wp2
                    have n0_ : Aside0 (((((((((w7.setCell ⟨gb102, 0, none⟩ (.string ((rd_T39 l0 x11_1).f0))).setCell ⟨gb102, 1, none⟩ (.int .i64 ((rd_T39 l0 x11_1).f1))).setCell ⟨gb102, 2, none⟩ (.int .u64 ((rd_T39 l0 x11_1).f2))).setCell ⟨gb102, 3, none⟩ (.int .i64 ((rd_T39 l0 x11_1).f3.f0))).setCell ⟨gb102, 4, none⟩ (.int .i64 ((rd_T39 l0 x11_1).f3.f1))).setCell ⟨gb102, 5, none⟩ (.int .i64 ((rd_T39 l0 x11_1).f3.f2))).setCell ⟨gb102, 6, none⟩ (.int .i64 ((rd_T39 l0 x11_1).f3.f3))).setCell ⟨gb102, 7, none⟩ (.bool ((rd_T39 l0 x11_1).f4))).heap[gb102]? = some (.cells #[.string ((rd_T39 l0 x11_1).f0), .int .i64 ((rd_T39 l0 x11_1).f1), .int .u64 ((rd_T39 l0 x11_1).f2), .int .i64 ((rd_T39 l0 x11_1).f3.f0), .int .i64 ((rd_T39 l0 x11_1).f3.f1), .int .i64 ((rd_T39 l0 x11_1).f3.f2), .int .i64 ((rd_T39 l0 x11_1).f3.f3), .bool ((rd_T39 l0 x11_1).f4)] 39 (0, 0))) := ⟨by (with_reducible repeat (first | refine blk_drewN ?_ _ | refine blk_drew ?_ | refine blk_alloc ?_ _)); refine blk_put (cs := #[.string ((rd_T39 l0 x11_1).f0), .int .i64 ((rd_T39 l0 x11_1).f1), .int .u64 ((rd_T39 l0 x11_1).f2), .int .i64 ((rd_T39 l0 x11_1).f3.f0), .int .i64 ((rd_T39 l0 x11_1).f3.f1), .int .i64 ((rd_T39 l0 x11_1).f3.f2), .int .i64 ((rd_T39 l0 x11_1).f3.f3), .bool false]) ?_ 7 _ rfl; (with_reducible repeat (first | refine blk_drewN ?_ _ | refine blk_drew ?_ | refine blk_alloc ?_ _)); refine blk_put (cs := #[.string ((rd_T39 l0 x11_1).f0), .int .i64 ((rd_T39 l0 x11_1).f1), .int .u64 ((rd_T39 l0 x11_1).f2), .int .i64 ((rd_T39 l0 x11_1).f3.f0), .int .i64 ((rd_T39 l0 x11_1).f3.f1), .int .i64 ((rd_T39 l0 x11_1).f3.f2), .int .i64 0, .bool false]) ?_ 6 _ rfl; (with_reducible repeat (first | refine blk_drewN ?_ _ | refine blk_drew ?_ | refine blk_alloc ?_ _)); refine blk_put (cs := #[.string ((rd_T39 l0 x11_1).f0), .int .i64 ((rd_T39 l0 x11_1).f1), .int .u64 ((rd_T39 l0 x11_1).f2), .int .i64 ((rd_T39 l0 x11_1).f3.f0), .int .i64 ((rd_T39 l0 x11_1).f3.f1), .int .i64 0, .int .i64 0, .bool false]) ?_ 5 _ rfl; (with_reducible repeat (first | refine blk_drewN ?_ _ | refine blk_drew ?_ | refine blk_alloc ?_ _)); refine blk_put (cs := #[.string ((rd_T39 l0 x11_1).f0), .int .i64 ((rd_T39 l0 x11_1).f1), .int .u64 ((rd_T39 l0 x11_1).f2), .int .i64 ((rd_T39 l0 x11_1).f3.f0), .int .i64 0, .int .i64 0, .int .i64 0, .bool false]) ?_ 4 _ rfl; (with_reducible repeat (first | refine blk_drewN ?_ _ | refine blk_drew ?_ | refine blk_alloc ?_ _)); refine blk_put (cs := #[.string ((rd_T39 l0 x11_1).f0), .int .i64 ((rd_T39 l0 x11_1).f1), .int .u64 ((rd_T39 l0 x11_1).f2), .int .i64 0, .int .i64 0, .int .i64 0, .int .i64 0, .bool false]) ?_ 3 _ rfl; (with_reducible repeat (first | refine blk_drewN ?_ _ | refine blk_drew ?_ | refine blk_alloc ?_ _)); refine blk_put (cs := #[.string ((rd_T39 l0 x11_1).f0), .int .i64 ((rd_T39 l0 x11_1).f1), .int .u64 0, .int .i64 0, .int .i64 0, .int .i64 0, .int .i64 0, .bool false]) ?_ 2 _ rfl; (with_reducible repeat (first | refine blk_drewN ?_ _ | refine blk_drew ?_ | refine blk_alloc ?_ _)); refine blk_put (cs := #[.string ((rd_T39 l0 x11_1).f0), .int .i64 0, .int .u64 0, .int .i64 0, .int .i64 0, .int .i64 0, .int .i64 0, .bool false]) ?_ 1 _ rfl; (with_reducible repeat (first | refine blk_drewN ?_ _ | refine blk_drew ?_ | refine blk_alloc ?_ _)); refine blk_put (cs := #[.string (⟨#[]⟩ : ByteArray), .int .i64 0, .int .u64 0, .int .i64 0, .int .i64 0, .int .i64 0, .int .i64 0, .bool false]) ?_ 0 _ rfl; (with_reducible repeat (first | refine blk_drewN ?_ _ | refine blk_drew ?_ | refine blk_alloc ?_ _)); exact BK102.out⟩
                    have n1_ : Aside0 (Below w.heap.size w ((((((((w7.setCell ⟨gb102, 0, none⟩ (.string ((rd_T39 l0 x11_1).f0))).setCell ⟨gb102, 1, none⟩ (.int .i64 ((rd_T39 l0 x11_1).f1))).setCell ⟨gb102, 2, none⟩ (.int .u64 ((rd_T39 l0 x11_1).f2))).setCell ⟨gb102, 3, none⟩ (.int .i64 ((rd_T39 l0 x11_1).f3.f0))).setCell ⟨gb102, 4, none⟩ (.int .i64 ((rd_T39 l0 x11_1).f3.f1))).setCell ⟨gb102, 5, none⟩ (.int .i64 ((rd_T39 l0 x11_1).f3.f2))).setCell ⟨gb102, 6, none⟩ (.int .i64 ((rd_T39 l0 x11_1).f3.f3))).setCell ⟨gb102, 7, none⟩ (.bool ((rd_T39 l0 x11_1).f4)))) := ⟨by repeat (first | (with_reducible first | exact HB.out | apply below_alloc | apply pw_below_drewN | apply below_drew1 | refine below_set ?_ GE102.out) | exact HB.out)⟩
                    (try clear BK102)
                    (try clear HB)
                    generalize ((((((((w7.setCell ⟨gb102, 0, none⟩ (.string ((rd_T39 l0 x11_1).f0))).setCell ⟨gb102, 1, none⟩ (.int .i64 ((rd_T39 l0 x11_1).f1))).setCell ⟨gb102, 2, none⟩ (.int .u64 ((rd_T39 l0 x11_1).f2))).setCell ⟨gb102, 3, none⟩ (.int .i64 ((rd_T39 l0 x11_1).f3.f0))).setCell ⟨gb102, 4, none⟩ (.int .i64 ((rd_T39 l0 x11_1).f3.f1))).setCell ⟨gb102, 5, none⟩ (.int .i64 ((rd_T39 l0 x11_1).f3.f2))).setCell ⟨gb102, 6, none⟩ (.int .i64 ((rd_T39 l0 x11_1).f3.f3))).setCell ⟨gb102, 7, none⟩ (.bool ((rd_T39 l0 x11_1).f4))) = w18 at n0_ n1_ ⊢
                    have BK102 := n0_
                    have HB := n1_
                    clear n0_ n1_
                    have n0_ := Aside0.mk (blk_drew BK102.out)
                    have n1_ := Aside0.mk (below_drew1 HB.out)
                    clear BK102
                    clear HB
                    have BK102 := n0_
                    have HB := n1_
                    clear n0_ n1_
                    refine start_ (n := 19) (S := fun w' => w'.cell? ⟨gb102, 0, none⟩ = some (.string ((rd_T39 l0 x11_1).f0)) ∧ w'.cell? ⟨gb102, 1, none⟩ = some (.int .i64 ((rd_T39 l0 x11_1).f1)) ∧ w'.cell? ⟨gb102, 2, none⟩ = some (.int .u64 ((rd_T39 l0 x11_1).f2)) ∧ w'.cell? ⟨gb102, 3, none⟩ = some (.int .i64 ((rd_T39 l0 x11_1).f3.f0)) ∧ w'.cell? ⟨gb102, 4, none⟩ = some (.int .i64 ((rd_T39 l0 x11_1).f3.f1)) ∧ w'.cell? ⟨gb102, 5, none⟩ = some (.int .i64 ((rd_T39 l0 x11_1).f3.f2)) ∧ w'.cell? ⟨gb102, 6, none⟩ = some (.int .i64 ((rd_T39 l0 x11_1).f3.f3)) ∧ w'.cell? ⟨gb102, 7, none⟩ = some (.bool ((rd_T39 l0 x11_1).f4))) (ds := []) #[false, false, false, false, false, false, false, false, false, false, false, false, false, false, false, false, false, false, false] (by kernel_rfl) rfl rfl ⟨(blk_cell BK102.out 0).trans rfl, (blk_cell BK102.out 1).trans rfl, (blk_cell BK102.out 2).trans rfl, (blk_cell BK102.out 3).trans rfl, (blk_cell BK102.out 4).trans rfl, (blk_cell BK102.out 5).trans rfl, (blk_cell BK102.out 6).trans rfl, (blk_cell BK102.out 7).trans rfl⟩ (fun hHeld => ?_); refine with_tabW user_Check.tab6 user_Check.bits6 (fun HT_ HW_ => ?_)
                    generalize w18.drew = w19 at BK102 HB hHeld ⊢
                    refine pure_ (i := 0) (N := some 16) (v := ?_) (a' := ?_) #[true, false, false, false, false, false, false, false, false, false, false, false, false, false, false, false, false, false, false] rfl rfl (any_of HT_.out (by kernel_rfl)) (fun _ _ _ h => h) (Or.inl ⟨by rfl, ?_⟩) ?_ ?_
                    rotate_left
                    · intro w'
                      go_simp
                      with_reducible rfl
                    rotate_left
                    · simp only [Act.put, List.setIfInBounds_toArray, List.set_cons_zero, List.set_cons_succ, i64_w, i32_w]
                      rfl
                    refine take_ (i := 1) (N := some 17) (v := ?_) (a' := ?_) #[true, true, false, false, false, false, false, false, false, false, false, false, false, false, false, false, false, false, false] rfl rfl (take_ofW HT_.out HW_.out (by kernel_rfl)) (fun _ _ _ h => h) (Or.inl ⟨by rfl, ?_⟩) hHeld ?_ ?_
                    rotate_left
                    · rintro w' ⟨s0, s1, s2, s3, s4, s5, s6, s7⟩
                      go_simp
                      with_reducible rfl
                    rotate_left
                    · simp only [Act.put, List.setIfInBounds_toArray, List.set_cons_zero, List.set_cons_succ, i64_w, i32_w]
                      rfl
                    refine one_ (i := 2) (N := some 18) #[true, true, true, false, false, false, false, false, false, false, false, false, false, false, false, false, false, false, false] rfl rfl (one_of HT_.out (by kernel_rfl)) (by decide) (fun K hK => ?_)
                    refine goes_ Try.func10 (by kernel_rfl) rfl #[.string ((rd_T39 l0 x11_1).f0)] (by rfl) rfl rfl (by (try simp only [List.map_toArray, List.map_cons, List.map_nil]); first | done | rfl | (simp only [List.length_drop, List.length_take]; rfl)) ?_
                    with_reducible refine (path_Name.calls ((rd_T39 l0 x11_1).f0) true _ A9.out).mono ?_
                    rintro e w20 ⟨rfl, hb⟩
                    refine ⟨_, rfl, ?_⟩
                    have n0_ := Aside0.mk (blk_below (g := gb102) (o := .cells #[.string ((rd_T39 l0 x11_1).f0), .int .i64 ((rd_T39 l0 x11_1).f1), .int .u64 ((rd_T39 l0 x11_1).f2), .int .i64 ((rd_T39 l0 x11_1).f3.f0), .int .i64 ((rd_T39 l0 x11_1).f3.f1), .int .i64 ((rd_T39 l0 x11_1).f3.f2), .int .i64 ((rd_T39 l0 x11_1).f3.f3), .bool ((rd_T39 l0 x11_1).f4)] 39 (0, 0)) (by (with_reducible repeat (first | refine blk_drewN ?_ _ | refine blk_drew ?_ | refine blk_alloc ?_ _)); exact BK102.out) hb)
                    have n1_ := Aside0.mk (below_step (by repeat (first | (with_reducible first | exact HB.out | apply below_alloc | apply pw_below_drewN | apply below_drew1 | refine below_set ?_ GE102.out) | exact HB.out)) hb)
                    clear BK102
                    clear HB
                    have BK102 := n0_
                    have HB := n1_
                    clear n0_ n1_
                    (try clear hb)
                    (try clear hb2)
                    (try clear hk)
                    (try clear hi)
                    refine hK.out _ _ ⟨(blk_cell BK102.out 0).trans rfl, (blk_cell BK102.out 1).trans rfl, (blk_cell BK102.out 2).trans rfl, (blk_cell BK102.out 3).trans rfl, (blk_cell BK102.out 4).trans rfl, (blk_cell BK102.out 5).trans rfl, (blk_cell BK102.out 6).trans rfl, (blk_cell BK102.out 7).trans rfl⟩ (fun hHeld => ?_)
                    clear hK K
                    refine norm_ (a' := ?_) ?_ ?_
                    rotate_left
                    · show Act.put _ (some 18) _ = _
                      simp only [Act.put, List.setIfInBounds_toArray, List.set_cons_zero, List.set_cons_succ, i64_w, i32_w]
                      rfl
                    refine pure_ (i := 3) (N := some 19) (v := ?_) (a' := ?_) #[true, true, true, true, false, false, false, false, false, false, false, false, false, false, false, false, false, false, false] rfl rfl (any_of HT_.out (by kernel_rfl)) (fun _ _ _ h => h) (Or.inl ⟨by rfl, ?_⟩) ?_ ?_
                    rotate_left
                    · intro w'
                      go_simp
                      with_reducible rfl
                    rotate_left
                    · simp only [Act.put, List.setIfInBounds_toArray, List.set_cons_zero, List.set_cons_succ, i64_w, i32_w]
                      rfl
                    refine pure_ (i := 4) (N := some 20) (v := ?_) (a' := ?_) #[true, true, true, true, true, false, false, false, false, false, false, false, false, false, false, false, false, false, false] rfl rfl (any_of HT_.out (by kernel_rfl)) (fun _ _ _ h => h) (Or.inl ⟨by rfl, ?_⟩) ?_ ?_
                    rotate_left
                    · intro w'
                      go_simp
                      with_reducible rfl
                    rotate_left
                    · simp only [Act.put, List.setIfInBounds_toArray, List.set_cons_zero, List.set_cons_succ, i64_w, i32_w]
                      rfl
                    refine pure_ (i := 5) (N := some 21) (v := ?_) (a' := ?_) #[true, true, true, true, true, true, false, false, false, false, false, false, false, false, false, false, false, false, false] rfl rfl (any_of HT_.out (by kernel_rfl)) (fun _ _ _ h => h) (Or.inl ⟨by rfl, ?_⟩) ?_ ?_
                    rotate_left
                    · intro w'
                      go_simp
                      with_reducible rfl
                    rotate_left
                    · simp only [Act.put, List.setIfInBounds_toArray, List.set_cons_zero, List.set_cons_succ, i64_w, i32_w]
                      rfl
                    refine pure_ (i := 6) (N := some 22) (v := ?_) (a' := ?_) #[true, true, true, true, true, true, true, false, false, false, false, false, false, false, false, false, false, false, false] rfl rfl (any_of HT_.out (by kernel_rfl)) (fun _ _ _ h => h) (Or.inl ⟨by rfl, ?_⟩) ?_ ?_
                    rotate_left
                    · intro w'
                      go_simp
                      with_reducible rfl
                    rotate_left
                    · simp only [Act.put, List.setIfInBounds_toArray, List.set_cons_zero, List.set_cons_succ, i64_w, i32_w]
                      rfl
                    refine pure_ (i := 7) (N := some 23) (v := ?_) (a' := ?_) #[true, true, true, true, true, true, true, true, false, false, false, false, false, false, false, false, false, false, false] rfl rfl (any_of HT_.out (by kernel_rfl)) (fun _ _ _ h => h) (Or.inl ⟨by rfl, ?_⟩) ?_ ?_
                    rotate_left
                    · intro w'
                      go_simp
                      with_reducible rfl
                    rotate_left
                    · simp only [Act.put, List.setIfInBounds_toArray, List.set_cons_zero, List.set_cons_succ, i64_w, i32_w]
                      rfl
                    refine pure_ (i := 8) (N := some 24) (v := undef) (a' := ?_) #[true, true, true, true, true, true, true, true, true, false, false, false, false, false, false, false, false, false, false] rfl rfl (any_of HT_.out (by kernel_rfl)) (fun _ _ _ h => h) (Or.inr ⟨by rfl, rfl⟩) ?_ ?_
                    rotate_left
                    · simp only [Act.put, List.setIfInBounds_toArray, List.set_cons_zero, List.set_cons_succ, i64_w, i32_w]
                      rfl
                    refine pure_ (i := 9) (N := some 25) (v := undef) (a' := ?_) #[true, true, true, true, true, true, true, true, true, true, false, false, false, false, false, false, false, false, false] rfl rfl (any_of HT_.out (by kernel_rfl)) (fun _ _ _ h => h) (Or.inr ⟨by rfl, rfl⟩) ?_ ?_
                    rotate_left
                    · simp only [Act.put, List.setIfInBounds_toArray, List.set_cons_zero, List.set_cons_succ, i64_w, i32_w]
                      rfl
                    refine pure_ (i := 10) (N := some 26) (v := undef) (a' := ?_) #[true, true, true, true, true, true, true, true, true, true, true, false, false, false, false, false, false, false, false] rfl rfl (any_of HT_.out (by kernel_rfl)) (fun _ _ _ h => h) (Or.inr ⟨by rfl, rfl⟩) ?_ ?_
                    rotate_left
                    · simp only [Act.put, List.setIfInBounds_toArray, List.set_cons_zero, List.set_cons_succ, i64_w, i32_w]
                      rfl
                    refine pure_ (i := 11) (N := some 27) (v := undef) (a' := ?_) #[true, true, true, true, true, true, true, true, true, true, true, true, false, false, false, false, false, false, false] rfl rfl (any_of HT_.out (by kernel_rfl)) (fun _ _ _ h => h) (Or.inr ⟨by rfl, rfl⟩) ?_ ?_
                    rotate_left
                    · simp only [Act.put, List.setIfInBounds_toArray, List.set_cons_zero, List.set_cons_succ, i64_w, i32_w]
                      rfl
                    refine pure_ (i := 12) (N := some 28) (v := undef) (a' := ?_) #[true, true, true, true, true, true, true, true, true, true, true, true, true, false, false, false, false, false, false] rfl rfl (any_of HT_.out (by kernel_rfl)) (fun _ _ _ h => h) (Or.inr ⟨by rfl, rfl⟩) ?_ ?_
                    rotate_left
                    · simp only [Act.put, List.setIfInBounds_toArray, List.set_cons_zero, List.set_cons_succ, i64_w, i32_w]
                      rfl
                    refine pure_ (i := 13) (N := some 29) (v := undef) (a' := ?_) #[true, true, true, true, true, true, true, true, true, true, true, true, true, true, false, false, false, false, false] rfl rfl (any_of HT_.out (by kernel_rfl)) (fun _ _ _ h => h) (Or.inr ⟨by rfl, rfl⟩) ?_ ?_
                    rotate_left
                    · simp only [Act.put, List.setIfInBounds_toArray, List.set_cons_zero, List.set_cons_succ, i64_w, i32_w]
                      rfl
                    refine pure_ (i := 14) (N := some 30) (v := undef) (a' := ?_) #[true, true, true, true, true, true, true, true, true, true, true, true, true, true, true, false, false, false, false] rfl rfl (any_of HT_.out (by kernel_rfl)) (fun _ _ _ h => h) (Or.inr ⟨by rfl, rfl⟩) ?_ ?_
                    rotate_left
                    · simp only [Act.put, List.setIfInBounds_toArray, List.set_cons_zero, List.set_cons_succ, i64_w, i32_w]
                      rfl
                    refine pure_ (i := 15) (N := some 31) (v := undef) (a' := ?_) #[true, true, true, true, true, true, true, true, true, true, true, true, true, true, true, true, false, false, false] rfl rfl (any_of HT_.out (by kernel_rfl)) (fun _ _ _ h => h) (Or.inr ⟨by rfl, rfl⟩) ?_ ?_
                    rotate_left
                    · simp only [Act.put, List.setIfInBounds_toArray, List.set_cons_zero, List.set_cons_succ, i64_w, i32_w]
                      rfl
                    refine pure_ (i := 16) (N := some 32) (v := undef) (a' := ?_) #[true, true, true, true, true, true, true, true, true, true, true, true, true, true, true, true, true, false, false] rfl rfl (any_of HT_.out (by kernel_rfl)) (fun _ _ _ h => h) (Or.inr ⟨by rfl, rfl⟩) ?_ ?_
                    rotate_left
                    · simp only [Act.put, List.setIfInBounds_toArray, List.set_cons_zero, List.set_cons_succ, i64_w, i32_w]
                      rfl
                    refine pure_ (i := 17) (N := some 33) (v := ?_) (a' := ?_) #[true, true, true, true, true, true, true, true, true, true, true, true, true, true, true, true, true, true, false] rfl rfl (any_of HT_.out (by kernel_rfl)) (fun _ _ _ h => h) (Or.inl ⟨by rfl, ?_⟩) ?_ ?_
                    rotate_left
                    · intro w'
                      go_simp
                      with_reducible rfl
                    rotate_left
                    · simp only [Act.put, List.setIfInBounds_toArray, List.set_cons_zero, List.set_cons_succ, i64_w, i32_w]
                      rfl
                    refine pure_ (i := 18) (N := some 34) (v := ?_) (a' := ?_) #[true, true, true, true, true, true, true, true, true, true, true, true, true, true, true, true, true, true, true] rfl rfl (any_of HT_.out (by kernel_rfl)) (fun _ _ _ h => h) (Or.inl ⟨by rfl, ?_⟩) ?_ ?_
                    rotate_left
                    · intro w'
                      go_simp
                      with_reducible rfl
                    rotate_left
                    · simp only [Act.put, List.setIfInBounds_toArray, List.set_cons_zero, List.set_cons_succ, i64_w, i32_w]
                      rfl
                    refine done_ (done_of HT_.out (by kernel_rfl)) ?_
                    try go_wp2
                    go_meet
                    case rel => exact ⟨_, (false), (by first | rfl | (simp; done) | (simp [*]; done)), H', ⟨by have := HK1.out; first | omega | exact Nat.le_refl _⟩, ⟨by (with_reducible repeat (first | refine blk_drewN ?_ _ | refine blk_drew ?_ | refine blk_alloc ?_ _)); exact BK102.out⟩, ⟨by repeat (first | (with_reducible first | exact HB.out | apply below_alloc | apply pw_below_drewN | apply below_drew1 | refine below_set ?_ GE102.out) | exact HB.out)⟩⟩
                · replace c10 := Bool.eq_false_iff.mpr c10
                  subst c10
                  have H1 : (user_Check.j1 k1 l0 l0 (l0.length : Int) x11_1 true ((rd_T39 l0 x11_1).f0) ((rd_T39 l0 x11_1).f1) ((rd_T39 l0 x11_1).f2) ((rd_T39 l0 x11_1).f3.f0) ((rd_T39 l0 x11_1).f3.f1) ((rd_T39 l0 x11_1).f3.f2) ((rd_T39 l0 x11_1).f3.f3) ((rd_T39 l0 x11_1).f4)) = some r := by rw [if_neg (show ¬ (false = true) by decide)] at H; exact H
                  clear H
                  have H := H1
                  clear H1
                  have H' := Aside0.mk H
                  clear H
                  try go_wp2
                  have n0_ : Aside0 (((((((((w7.setCell ⟨gb102, 0, none⟩ (.string ((rd_T39 l0 x11_1).f0))).setCell ⟨gb102, 1, none⟩ (.int .i64 ((rd_T39 l0 x11_1).f1))).setCell ⟨gb102, 2, none⟩ (.int .u64 ((rd_T39 l0 x11_1).f2))).setCell ⟨gb102, 3, none⟩ (.int .i64 ((rd_T39 l0 x11_1).f3.f0))).setCell ⟨gb102, 4, none⟩ (.int .i64 ((rd_T39 l0 x11_1).f3.f1))).setCell ⟨gb102, 5, none⟩ (.int .i64 ((rd_T39 l0 x11_1).f3.f2))).setCell ⟨gb102, 6, none⟩ (.int .i64 ((rd_T39 l0 x11_1).f3.f3))).setCell ⟨gb102, 7, none⟩ (.bool ((rd_T39 l0 x11_1).f4))).heap[gb102]? = some (.cells #[.string ((rd_T39 l0 x11_1).f0), .int .i64 ((rd_T39 l0 x11_1).f1), .int .u64 ((rd_T39 l0 x11_1).f2), .int .i64 ((rd_T39 l0 x11_1).f3.f0), .int .i64 ((rd_T39 l0 x11_1).f3.f1), .int .i64 ((rd_T39 l0 x11_1).f3.f2), .int .i64 ((rd_T39 l0 x11_1).f3.f3), .bool ((rd_T39 l0 x11_1).f4)] 39 (0, 0))) := ⟨by (with_reducible repeat (first | refine blk_drewN ?_ _ | refine blk_drew ?_ | refine blk_alloc ?_ _)); refine blk_put (cs := #[.string ((rd_T39 l0 x11_1).f0), .int .i64 ((rd_T39 l0 x11_1).f1), .int .u64 ((rd_T39 l0 x11_1).f2), .int .i64 ((rd_T39 l0 x11_1).f3.f0), .int .i64 ((rd_T39 l0 x11_1).f3.f1), .int .i64 ((rd_T39 l0 x11_1).f3.f2), .int .i64 ((rd_T39 l0 x11_1).f3.f3), .bool false]) ?_ 7 _ rfl; (with_reducible repeat (first | refine blk_drewN ?_ _ | refine blk_drew ?_ | refine blk_alloc ?_ _)); refine blk_put (cs := #[.string ((rd_T39 l0 x11_1).f0), .int .i64 ((rd_T39 l0 x11_1).f1), .int .u64 ((rd_T39 l0 x11_1).f2), .int .i64 ((rd_T39 l0 x11_1).f3.f0), .int .i64 ((rd_T39 l0 x11_1).f3.f1), .int .i64 ((rd_T39 l0 x11_1).f3.f2), .int .i64 0, .bool false]) ?_ 6 _ rfl; (with_reducible repeat (first | refine blk_drewN ?_ _ | refine blk_drew ?_ | refine blk_alloc ?_ _)); refine blk_put (cs := #[.string ((rd_T39 l0 x11_1).f0), .int .i64 ((rd_T39 l0 x11_1).f1), .int .u64 ((rd_T39 l0 x11_1).f2), .int .i64 ((rd_T39 l0 x11_1).f3.f0), .int .i64 ((rd_T39 l0 x11_1).f3.f1), .int .i64 0, .int .i64 0, .bool false]) ?_ 5 _ rfl; (with_reducible repeat (first | refine blk_drewN ?_ _ | refine blk_drew ?_ | refine blk_alloc ?_ _)); refine blk_put (cs := #[.string ((rd_T39 l0 x11_1).f0), .int .i64 ((rd_T39 l0 x11_1).f1), .int .u64 ((rd_T39 l0 x11_1).f2), .int .i64 ((rd_T39 l0 x11_1).f3.f0), .int .i64 0, .int .i64 0, .int .i64 0, .bool false]) ?_ 4 _ rfl; (with_reducible repeat (first | refine blk_drewN ?_ _ | refine blk_drew ?_ | refine blk_alloc ?_ _)); refine blk_put (cs := #[.string ((rd_T39 l0 x11_1).f0), .int .i64 ((rd_T39 l0 x11_1).f1), .int .u64 ((rd_T39 l0 x11_1).f2), .int .i64 0, .int .i64 0, .int .i64 0, .int .i64 0, .bool false]) ?_ 3 _ rfl; (with_reducible repeat (first | refine blk_drewN ?_ _ | refine blk_drew ?_ | refine blk_alloc ?_ _)); refine blk_put (cs := #[.string ((rd_T39 l0 x11_1).f0), .int .i64 ((rd_T39 l0 x11_1).f1), .int .u64 0, .int .i64 0, .int .i64 0, .int .i64 0, .int .i64 0, .bool false]) ?_ 2 _ rfl; (with_reducible repeat (first | refine blk_drewN ?_ _ | refine blk_drew ?_ | refine blk_alloc ?_ _)); refine blk_put (cs := #[.string ((rd_T39 l0 x11_1).f0), .int .i64 0, .int .u64 0, .int .i64 0, .int .i64 0, .int .i64 0, .int .i64 0, .bool false]) ?_ 1 _ rfl; (with_reducible repeat (first | refine blk_drewN ?_ _ | refine blk_drew ?_ | refine blk_alloc ?_ _)); refine blk_put (cs := #[.string (⟨#[]⟩ : ByteArray), .int .i64 0, .int .u64 0, .int .i64 0, .int .i64 0, .int .i64 0, .int .i64 0, .bool false]) ?_ 0 _ rfl; (with_reducible repeat (first | refine blk_drewN ?_ _ | refine blk_drew ?_ | refine blk_alloc ?_ _)); exact BK102.out⟩
                  have n1_ : Aside0 (Below w.heap.size w ((((((((w7.setCell ⟨gb102, 0, none⟩ (.string ((rd_T39 l0 x11_1).f0))).setCell ⟨gb102, 1, none⟩ (.int .i64 ((rd_T39 l0 x11_1).f1))).setCell ⟨gb102, 2, none⟩ (.int .u64 ((rd_T39 l0 x11_1).f2))).setCell ⟨gb102, 3, none⟩ (.int .i64 ((rd_T39 l0 x11_1).f3.f0))).setCell ⟨gb102, 4, none⟩ (.int .i64 ((rd_T39 l0 x11_1).f3.f1))).setCell ⟨gb102, 5, none⟩ (.int .i64 ((rd_T39 l0 x11_1).f3.f2))).setCell ⟨gb102, 6, none⟩ (.int .i64 ((rd_T39 l0 x11_1).f3.f3))).setCell ⟨gb102, 7, none⟩ (.bool ((rd_T39 l0 x11_1).f4)))) := ⟨by repeat (first | (with_reducible first | exact HB.out | apply below_alloc | apply pw_below_drewN | apply below_drew1 | refine below_set ?_ GE102.out) | exact HB.out)⟩
                  (try clear BK102)
                  (try clear HB)
                  generalize ((((((((w7.setCell ⟨gb102, 0, none⟩ (.string ((rd_T39 l0 x11_1).f0))).setCell ⟨gb102, 1, none⟩ (.int .i64 ((rd_T39 l0 x11_1).f1))).setCell ⟨gb102, 2, none⟩ (.int .u64 ((rd_T39 l0 x11_1).f2))).setCell ⟨gb102, 3, none⟩ (.int .i64 ((rd_T39 l0 x11_1).f3.f0))).setCell ⟨gb102, 4, none⟩ (.int .i64 ((rd_T39 l0 x11_1).f3.f1))).setCell ⟨gb102, 5, none⟩ (.int .i64 ((rd_T39 l0 x11_1).f3.f2))).setCell ⟨gb102, 6, none⟩ (.int .i64 ((rd_T39 l0 x11_1).f3.f3))).setCell ⟨gb102, 7, none⟩ (.bool ((rd_T39 l0 x11_1).f4))) = w21 at n0_ n1_ ⊢
                  have BK102 := n0_
                  have HB := n1_
                  clear n0_ n1_
                  have n0_ := Aside0.mk (blk_drew BK102.out)
                  have n1_ := Aside0.mk (below_drew1 HB.out)
                  clear BK102
                  clear HB
                  have BK102 := n0_
                  have HB := n1_
                  clear n0_ n1_
                  refine start_ (n := 19) (S := fun w' => w'.cell? ⟨gb102, 0, none⟩ = some (.string ((rd_T39 l0 x11_1).f0)) ∧ w'.cell? ⟨gb102, 1, none⟩ = some (.int .i64 ((rd_T39 l0 x11_1).f1)) ∧ w'.cell? ⟨gb102, 2, none⟩ = some (.int .u64 ((rd_T39 l0 x11_1).f2)) ∧ w'.cell? ⟨gb102, 3, none⟩ = some (.int .i64 ((rd_T39 l0 x11_1).f3.f0)) ∧ w'.cell? ⟨gb102, 4, none⟩ = some (.int .i64 ((rd_T39 l0 x11_1).f3.f1)) ∧ w'.cell? ⟨gb102, 5, none⟩ = some (.int .i64 ((rd_T39 l0 x11_1).f3.f2)) ∧ w'.cell? ⟨gb102, 6, none⟩ = some (.int .i64 ((rd_T39 l0 x11_1).f3.f3)) ∧ w'.cell? ⟨gb102, 7, none⟩ = some (.bool ((rd_T39 l0 x11_1).f4))) (ds := []) #[false, false, false, false, false, false, false, false, false, false, false, false, false, false, false, false, false, false, false] (by kernel_rfl) rfl rfl ⟨(blk_cell BK102.out 0).trans rfl, (blk_cell BK102.out 1).trans rfl, (blk_cell BK102.out 2).trans rfl, (blk_cell BK102.out 3).trans rfl, (blk_cell BK102.out 4).trans rfl, (blk_cell BK102.out 5).trans rfl, (blk_cell BK102.out 6).trans rfl, (blk_cell BK102.out 7).trans rfl⟩ (fun hHeld => ?_); refine with_tabW user_Check.tab6 user_Check.bits6 (fun HT_ HW_ => ?_)
                  generalize w21.drew = w22 at BK102 HB hHeld ⊢
                  refine pure_ (i := 0) (N := some 16) (v := ?_) (a' := ?_) #[true, false, false, false, false, false, false, false, false, false, false, false, false, false, false, false, false, false, false] rfl rfl (any_of HT_.out (by kernel_rfl)) (fun _ _ _ h => h) (Or.inl ⟨by rfl, ?_⟩) ?_ ?_
                  rotate_left
                  · intro w'
                    go_simp
                    with_reducible rfl
                  rotate_left
                  · simp only [Act.put, List.setIfInBounds_toArray, List.set_cons_zero, List.set_cons_succ, i64_w, i32_w]
                    rfl
                  refine take_ (i := 1) (N := some 17) (v := ?_) (a' := ?_) #[true, true, false, false, false, false, false, false, false, false, false, false, false, false, false, false, false, false, false] rfl rfl (take_ofW HT_.out HW_.out (by kernel_rfl)) (fun _ _ _ h => h) (Or.inl ⟨by rfl, ?_⟩) hHeld ?_ ?_
                  rotate_left
                  · rintro w' ⟨s0, s1, s2, s3, s4, s5, s6, s7⟩
                    go_simp
                    with_reducible rfl
                  rotate_left
                  · simp only [Act.put, List.setIfInBounds_toArray, List.set_cons_zero, List.set_cons_succ, i64_w, i32_w]
                    rfl
                  refine one_ (i := 2) (N := some 18) #[true, true, true, false, false, false, false, false, false, false, false, false, false, false, false, false, false, false, false] rfl rfl (one_of HT_.out (by kernel_rfl)) (by decide) (fun K hK => ?_)
                  refine goes_ Try.func10 (by kernel_rfl) rfl #[.string ((rd_T39 l0 x11_1).f0)] (by rfl) rfl rfl (by (try simp only [List.map_toArray, List.map_cons, List.map_nil]); first | done | rfl | (simp only [List.length_drop, List.length_take]; rfl)) ?_
                  with_reducible refine (path_Name.calls ((rd_T39 l0 x11_1).f0) false _ A9.out).mono ?_
                  rintro e w23 ⟨rfl, hb⟩
                  refine ⟨_, rfl, ?_⟩
                  have n0_ := Aside0.mk (blk_below (g := gb102) (o := .cells #[.string ((rd_T39 l0 x11_1).f0), .int .i64 ((rd_T39 l0 x11_1).f1), .int .u64 ((rd_T39 l0 x11_1).f2), .int .i64 ((rd_T39 l0 x11_1).f3.f0), .int .i64 ((rd_T39 l0 x11_1).f3.f1), .int .i64 ((rd_T39 l0 x11_1).f3.f2), .int .i64 ((rd_T39 l0 x11_1).f3.f3), .bool ((rd_T39 l0 x11_1).f4)] 39 (0, 0)) (by (with_reducible repeat (first | refine blk_drewN ?_ _ | refine blk_drew ?_ | refine blk_alloc ?_ _)); exact BK102.out) hb)
                  have n1_ := Aside0.mk (below_step (by repeat (first | (with_reducible first | exact HB.out | apply below_alloc | apply pw_below_drewN | apply below_drew1 | refine below_set ?_ GE102.out) | exact HB.out)) hb)
                  clear BK102
                  clear HB
                  have BK102 := n0_
                  have HB := n1_
                  clear n0_ n1_
                  (try clear hb)
                  (try clear hb2)
                  (try clear hk)
                  (try clear hi)
                  refine hK.out _ _ ⟨(blk_cell BK102.out 0).trans rfl, (blk_cell BK102.out 1).trans rfl, (blk_cell BK102.out 2).trans rfl, (blk_cell BK102.out 3).trans rfl, (blk_cell BK102.out 4).trans rfl, (blk_cell BK102.out 5).trans rfl, (blk_cell BK102.out 6).trans rfl, (blk_cell BK102.out 7).trans rfl⟩ (fun hHeld => ?_)
                  clear hK K
                  refine norm_ (a' := ?_) ?_ ?_
                  rotate_left
                  · show Act.put _ (some 18) _ = _
                    simp only [Act.put, List.setIfInBounds_toArray, List.set_cons_zero, List.set_cons_succ, i64_w, i32_w]
                    rfl
                  refine pure_ (i := 3) (N := some 19) (v := ?_) (a' := ?_) #[true, true, true, true, false, false, false, false, false, false, false, false, false, false, false, false, false, false, false] rfl rfl (any_of HT_.out (by kernel_rfl)) (fun _ _ _ h => h) (Or.inl ⟨by rfl, ?_⟩) ?_ ?_
                  rotate_left
                  · intro w'
                    go_simp
                    with_reducible rfl
                  rotate_left
                  · simp only [Act.put, List.setIfInBounds_toArray, List.set_cons_zero, List.set_cons_succ, i64_w, i32_w]
                    rfl
                  refine pure_ (i := 4) (N := some 20) (v := ?_) (a' := ?_) #[true, true, true, true, true, false, false, false, false, false, false, false, false, false, false, false, false, false, false] rfl rfl (any_of HT_.out (by kernel_rfl)) (fun _ _ _ h => h) (Or.inl ⟨by rfl, ?_⟩) ?_ ?_
                  rotate_left
                  · intro w'
                    go_simp
                    with_reducible rfl
                  rotate_left
                  · simp only [Act.put, List.setIfInBounds_toArray, List.set_cons_zero, List.set_cons_succ, i64_w, i32_w]
                    rfl
                  refine pure_ (i := 5) (N := some 21) (v := undef) (a' := ?_) #[true, true, true, true, true, true, false, false, false, false, false, false, false, false, false, false, false, false, false] rfl rfl (any_of HT_.out (by kernel_rfl)) (fun _ _ _ h => h) (Or.inr ⟨by rfl, rfl⟩) ?_ ?_
                  rotate_left
                  · simp only [Act.put, List.setIfInBounds_toArray, List.set_cons_zero, List.set_cons_succ, i64_w, i32_w]
                    rfl
                  refine pure_ (i := 6) (N := some 22) (v := undef) (a' := ?_) #[true, true, true, true, true, true, true, false, false, false, false, false, false, false, false, false, false, false, false] rfl rfl (any_of HT_.out (by kernel_rfl)) (fun _ _ _ h => h) (Or.inr ⟨by rfl, rfl⟩) ?_ ?_
                  rotate_left
                  · simp only [Act.put, List.setIfInBounds_toArray, List.set_cons_zero, List.set_cons_succ, i64_w, i32_w]
                    rfl
                  refine pure_ (i := 7) (N := some 23) (v := undef) (a' := ?_) #[true, true, true, true, true, true, true, true, false, false, false, false, false, false, false, false, false, false, false] rfl rfl (any_of HT_.out (by kernel_rfl)) (fun _ _ _ h => h) (Or.inr ⟨by rfl, rfl⟩) ?_ ?_
                  rotate_left
                  · simp only [Act.put, List.setIfInBounds_toArray, List.set_cons_zero, List.set_cons_succ, i64_w, i32_w]
                    rfl
                  refine pure_ (i := 8) (N := some 24) (v := undef) (a' := ?_) #[true, true, true, true, true, true, true, true, true, false, false, false, false, false, false, false, false, false, false] rfl rfl (any_of HT_.out (by kernel_rfl)) (fun _ _ _ h => h) (Or.inr ⟨by rfl, rfl⟩) ?_ ?_
                  rotate_left
                  · simp only [Act.put, List.setIfInBounds_toArray, List.set_cons_zero, List.set_cons_succ, i64_w, i32_w]
                    rfl
                  refine pure_ (i := 9) (N := some 25) (v := undef) (a' := ?_) #[true, true, true, true, true, true, true, true, true, true, false, false, false, false, false, false, false, false, false] rfl rfl (any_of HT_.out (by kernel_rfl)) (fun _ _ _ h => h) (Or.inr ⟨by rfl, rfl⟩) ?_ ?_
                  rotate_left
                  · simp only [Act.put, List.setIfInBounds_toArray, List.set_cons_zero, List.set_cons_succ, i64_w, i32_w]
                    rfl
                  refine pure_ (i := 10) (N := some 26) (v := undef) (a' := ?_) #[true, true, true, true, true, true, true, true, true, true, true, false, false, false, false, false, false, false, false] rfl rfl (any_of HT_.out (by kernel_rfl)) (fun _ _ _ h => h) (Or.inr ⟨by rfl, rfl⟩) ?_ ?_
                  rotate_left
                  · simp only [Act.put, List.setIfInBounds_toArray, List.set_cons_zero, List.set_cons_succ, i64_w, i32_w]
                    rfl
                  refine pure_ (i := 11) (N := some 27) (v := undef) (a' := ?_) #[true, true, true, true, true, true, true, true, true, true, true, true, false, false, false, false, false, false, false] rfl rfl (any_of HT_.out (by kernel_rfl)) (fun _ _ _ h => h) (Or.inr ⟨by rfl, rfl⟩) ?_ ?_
                  rotate_left
                  · simp only [Act.put, List.setIfInBounds_toArray, List.set_cons_zero, List.set_cons_succ, i64_w, i32_w]
                    rfl
                  refine pure_ (i := 12) (N := some 28) (v := undef) (a' := ?_) #[true, true, true, true, true, true, true, true, true, true, true, true, true, false, false, false, false, false, false] rfl rfl (any_of HT_.out (by kernel_rfl)) (fun _ _ _ h => h) (Or.inr ⟨by rfl, rfl⟩) ?_ ?_
                  rotate_left
                  · simp only [Act.put, List.setIfInBounds_toArray, List.set_cons_zero, List.set_cons_succ, i64_w, i32_w]
                    rfl
                  refine pure_ (i := 13) (N := some 29) (v := undef) (a' := ?_) #[true, true, true, true, true, true, true, true, true, true, true, true, true, true, false, false, false, false, false] rfl rfl (any_of HT_.out (by kernel_rfl)) (fun _ _ _ h => h) (Or.inr ⟨by rfl, rfl⟩) ?_ ?_
                  rotate_left
                  · simp only [Act.put, List.setIfInBounds_toArray, List.set_cons_zero, List.set_cons_succ, i64_w, i32_w]
                    rfl
                  refine pure_ (i := 14) (N := some 30) (v := undef) (a' := ?_) #[true, true, true, true, true, true, true, true, true, true, true, true, true, true, true, false, false, false, false] rfl rfl (any_of HT_.out (by kernel_rfl)) (fun _ _ _ h => h) (Or.inr ⟨by rfl, rfl⟩) ?_ ?_
                  rotate_left
                  · simp only [Act.put, List.setIfInBounds_toArray, List.set_cons_zero, List.set_cons_succ, i64_w, i32_w]
                    rfl
                  refine pure_ (i := 15) (N := some 31) (v := undef) (a' := ?_) #[true, true, true, true, true, true, true, true, true, true, true, true, true, true, true, true, false, false, false] rfl rfl (any_of HT_.out (by kernel_rfl)) (fun _ _ _ h => h) (Or.inr ⟨by rfl, rfl⟩) ?_ ?_
                  rotate_left
                  · simp only [Act.put, List.setIfInBounds_toArray, List.set_cons_zero, List.set_cons_succ, i64_w, i32_w]
                    rfl
                  refine pure_ (i := 16) (N := some 32) (v := undef) (a' := ?_) #[true, true, true, true, true, true, true, true, true, true, true, true, true, true, true, true, true, false, false] rfl rfl (any_of HT_.out (by kernel_rfl)) (fun _ _ _ h => h) (Or.inr ⟨by rfl, rfl⟩) ?_ ?_
                  rotate_left
                  · simp only [Act.put, List.setIfInBounds_toArray, List.set_cons_zero, List.set_cons_succ, i64_w, i32_w]
                    rfl
                  refine pure_ (i := 17) (N := some 33) (v := undef) (a' := ?_) #[true, true, true, true, true, true, true, true, true, true, true, true, true, true, true, true, true, true, false] rfl rfl (any_of HT_.out (by kernel_rfl)) (fun _ _ _ h => h) (Or.inr ⟨by rfl, rfl⟩) ?_ ?_
                  rotate_left
                  · simp only [Act.put, List.setIfInBounds_toArray, List.set_cons_zero, List.set_cons_succ, i64_w, i32_w]
                    rfl
                  refine pure_ (i := 18) (N := some 34) (v := ?_) (a' := ?_) #[true, true, true, true, true, true, true, true, true, true, true, true, true, true, true, true, true, true, true] rfl rfl (any_of HT_.out (by kernel_rfl)) (fun _ _ _ h => h) (Or.inl ⟨by rfl, ?_⟩) ?_ ?_
                  rotate_left
                  · intro w'
                    go_simp
                    with_reducible rfl
                  rotate_left
                  · simp only [Act.put, List.setIfInBounds_toArray, List.set_cons_zero, List.set_cons_succ, i64_w, i32_w]
                    rfl
                  refine done_ (done_of HT_.out (by kernel_rfl)) ?_
                  try go_wp2
                  go_meet
                  case rel => exact ⟨_, (true), (by first | rfl | (simp; done) | (simp [*]; done)), H', ⟨by have := HK1.out; first | omega | exact Nat.le_refl _⟩, ⟨by (with_reducible repeat (first | refine blk_drewN ?_ _ | refine blk_drew ?_ | refine blk_alloc ?_ _)); exact BK102.out⟩, ⟨by repeat (first | (with_reducible first | exact HB.out | apply below_alloc | apply pw_below_drewN | apply below_drew1 | refine below_set ?_ GE102.out) | exact HB.out)⟩⟩
              case rest =>
                clear HC6
                try clear c1
                try clear p1
                try clear q1
                try clear hx1
                try clear c2
                try clear c2b0
                try clear c2b1
                try clear p2
                try clear c3
                try clear c3b0
                try clear c4
                try clear c4b0
                try clear c5
                try clear c5b0
                try clear p6
                try clear c10
                try clear p10
                try clear q10
                try clear hx10
                try clear c11
                try clear c11b0
                try clear c13
                try clear c13b0
                try clear c14
                try clear c14b0
                try clear hcz8_0
                try clear hcz8_1
                try clear hcz8_2
                try clear hcz8_3
                try clear hcz8_4
                try clear hcz8_5
                try clear hcz8_6
                try clear hcz8_7
                try clear hfz8_0
                try clear hfz8_1
                try clear hfz8_2
                try clear hfz8_3
                try clear hfz8_4
                try clear hfz8_5
                try clear hfz8_6
                try clear hfz8_7
                try clear hx101_0
                try clear hx101_1
                try clear hx101_2
                try clear hx101_3
                try clear hx101_4
                try clear hx101_5
                try clear hx101_6
                try clear hx101_7
                try clear hx104_0
                try clear hx104_1
                try clear hx104_2
                try clear hx104_3
                try clear hx104_4
                try clear hx104_5
                try clear hx104_6
                try clear hx104_7
                try clear p101
                try clear p104
                try clear p2
                try clear q101
                try clear q104
                obtain ⟨kq, x34_5, rfl, HA, HJ5, BK102, HB⟩ := hcut
                cases kq with
                | zero => exact absurd HA.out (by simp [user_Check.j1])
                | succ kj5 =>
                  have H := HA.out
                  clear HA
                  simp only [user_Check.j1] at H
                  by_cases c24 : x34_5 = true
                  · subst c24
                    have H1 : (some 1) = some r := by rw [if_pos rfl] at H; exact H
                    clear H
                    have H := H1
                    clear H1
                    obtain rfl := Option.some.inj H
                    go_wp2
                    go_ret
                    exact ⟨by first | rfl | (simp [errW_none, errW_some] <;> rfl) | (simp [*, errW_none, errW_some] <;> rfl), by repeat (first | (with_reducible first | exact HB.out | apply below_alloc | apply pw_below_drewN | apply below_drew1 | refine below_set ?_ GE102.out) | exact HB.out)⟩
                  · replace c24 := Bool.eq_false_iff.mpr c24
                    subst c24
                    have H1 : ((label_Check.f ((rd_T39 l0 x11_1).f3.f0) ((rd_T39 l0 x11_1).f3.f1) ((rd_T39 l0 x11_1).f3.f2) ((rd_T39 l0 x11_1).f3.f3)).bind fun t105 => (if t105 = 0 then (user_Check.l0 kj5 l0 l0 (l0.length : Int) (wrap64 (x11_1 + 1))) else (some t105))) = some r := by rw [if_neg (show ¬ (false = true) by decide)] at H; exact H
                    clear H
                    have H := H1
                    clear H1
                    replace H := Option.bind_eq_some_iff.mp H
                    obtain ⟨t105, A250, H⟩ := H
                    replace H : (if t105 = 0 then (user_Check.l0 kj5 l0 l0 (l0.length : Int) (wrap64 (x11_1 + 1))) else (some t105)) = some r := H
                    have A25 := Aside0.mk A250
                    clear A250
                    by_cases c26 : t105 = 0
                    · rw [if_pos c26] at H
                      have c26b0 : (t105 == 0) = true := beq_iff_eq.mpr c26
                      have c26b1 : (t105 != 0) = false := bne_eq_false_iff_eq.mpr c26
                      clear c26
                      have H' := Aside0.mk H
                      clear H
                      have hcz27_0 : wc.cell? ⟨gb102, 0, none⟩ = some (.string ((rd_T39 l0 x11_1).f0)) := (blk_cell BK102.out 0).trans rfl
                      have hcz27_1 : wc.cell? ⟨gb102, 1, none⟩ = some (.int .i64 ((rd_T39 l0 x11_1).f1)) := (blk_cell BK102.out 1).trans rfl
                      have hcz27_2 : wc.cell? ⟨gb102, 2, none⟩ = some (.int .u64 ((rd_T39 l0 x11_1).f2)) := (blk_cell BK102.out 2).trans rfl
                      have hcz27_3 : wc.cell? ⟨gb102, 3, none⟩ = some (.int .i64 ((rd_T39 l0 x11_1).f3.f0)) := (blk_cell BK102.out 3).trans rfl
                      have hcz27_4 : wc.cell? ⟨gb102, 4, none⟩ = some (.int .i64 ((rd_T39 l0 x11_1).f3.f1)) := (blk_cell BK102.out 4).trans rfl
                      have hcz27_5 : wc.cell? ⟨gb102, 5, none⟩ = some (.int .i64 ((rd_T39 l0 x11_1).f3.f2)) := (blk_cell BK102.out 5).trans rfl
                      have hcz27_6 : wc.cell? ⟨gb102, 6, none⟩ = some (.int .i64 ((rd_T39 l0 x11_1).f3.f3)) := (blk_cell BK102.out 6).trans rfl
                      have hcz27_7 : wc.cell? ⟨gb102, 7, none⟩ = some (.bool ((rd_T39 l0 x11_1).f4)) := (blk_cell BK102.out 7).trans rfl
                      have hfz27_0 := blk_frozen BK102.out 0
                      have hfz27_1 := blk_frozen BK102.out 1
                      have hfz27_2 := blk_frozen BK102.out 2
                      have hfz27_3 := blk_frozen BK102.out 3
                      have hfz27_4 := blk_frozen BK102.out 4
                      have hfz27_5 := blk_frozen BK102.out 5
                      have hfz27_6 := blk_frozen BK102.out 6
                      have hfz27_7 := blk_frozen BK102.out 7
                      go_wp2_with (first | ((with_reducible refine gate_callee (f := 11) rfl ?_); refine goesL_ (some 37) rfl rfl Try.func11 (by kernel_rfl) rfl #[.agg #[.int .i64 ((rd_T39 l0 x11_1).f3.f0), .int .i64 ((rd_T39 l0 x11_1).f3.f1), .int .i64 ((rd_T39 l0 x11_1).f3.f2), .int .i64 ((rd_T39 l0 x11_1).f3.f3)]] rfl (by (try simp only [List.map_toArray, List.map_cons, List.map_nil]); first | done | rfl | (simp only [List.length_drop, List.length_take]; rfl)) ?_; (with_reducible refine (label_Check.calls ((rd_T39 l0 x11_1).f3.f0) ((rd_T39 l0 x11_1).f3.f1) ((rd_T39 l0 x11_1).f3.f2) ((rd_T39 l0 x11_1).f3.f3) t105 _ A25.out).mono ?_); rintro e w28 ⟨rfl, hb⟩; refine ⟨_, rfl, ?_⟩; have n0_ := Aside0.mk (blk_below (g := gb102) (o := .cells #[.string ((rd_T39 l0 x11_1).f0), .int .i64 ((rd_T39 l0 x11_1).f1), .int .u64 ((rd_T39 l0 x11_1).f2), .int .i64 ((rd_T39 l0 x11_1).f3.f0), .int .i64 ((rd_T39 l0 x11_1).f3.f1), .int .i64 ((rd_T39 l0 x11_1).f3.f2), .int .i64 ((rd_T39 l0 x11_1).f3.f3), .bool ((rd_T39 l0 x11_1).f4)] 39 (0, 0)) (by (with_reducible repeat (first | refine blk_drewN ?_ _ | refine blk_drew ?_ | refine blk_alloc ?_ _)); exact BK102.out) hb); have n1_ := Aside0.mk (below_step (by repeat (first | (with_reducible first | exact HB.out | apply below_alloc | apply pw_below_drewN | apply below_drew1 | refine below_set ?_ GE102.out) | exact HB.out)) hb); clear BK102; clear HB; have BK102 := n0_; have HB := n1_; clear n0_ n1_; (try clear hb); (try clear hb2); (try clear hk); (try clear hi)))
                      go_roundg kj5
                      case measure => have := HK1.out; have := HJ5.out; omega
                      case rel => exact ⟨(wrap64 (x11_1 + 1)), (by first | rfl | (simp; done) | (simp [*]; done)), H', ⟨by have := HK1.out; have := HJ5.out; omega⟩, ⟨by repeat (first | (with_reducible first | exact HB.out | apply below_alloc | apply pw_below_drewN | apply below_drew1 | refine below_set ?_ GE102.out) | exact HB.out)⟩⟩
                    · rw [if_neg c26] at H
                      have c26b0 : (t105 == 0) = false := beq_eq_false_iff_ne.mpr c26
                      have c26b1 : (t105 != 0) = true := bne_iff_ne.mpr c26
                      obtain rfl := Option.some.inj H
                      have hcz29_0 : wc.cell? ⟨gb102, 0, none⟩ = some (.string ((rd_T39 l0 x11_1).f0)) := (blk_cell BK102.out 0).trans rfl
                      have hcz29_1 : wc.cell? ⟨gb102, 1, none⟩ = some (.int .i64 ((rd_T39 l0 x11_1).f1)) := (blk_cell BK102.out 1).trans rfl
                      have hcz29_2 : wc.cell? ⟨gb102, 2, none⟩ = some (.int .u64 ((rd_T39 l0 x11_1).f2)) := (blk_cell BK102.out 2).trans rfl
                      have hcz29_3 : wc.cell? ⟨gb102, 3, none⟩ = some (.int .i64 ((rd_T39 l0 x11_1).f3.f0)) := (blk_cell BK102.out 3).trans rfl
                      have hcz29_4 : wc.cell? ⟨gb102, 4, none⟩ = some (.int .i64 ((rd_T39 l0 x11_1).f3.f1)) := (blk_cell BK102.out 4).trans rfl
                      have hcz29_5 : wc.cell? ⟨gb102, 5, none⟩ = some (.int .i64 ((rd_T39 l0 x11_1).f3.f2)) := (blk_cell BK102.out 5).trans rfl
                      have hcz29_6 : wc.cell? ⟨gb102, 6, none⟩ = some (.int .i64 ((rd_T39 l0 x11_1).f3.f3)) := (blk_cell BK102.out 6).trans rfl
                      have hcz29_7 : wc.cell? ⟨gb102, 7, none⟩ = some (.bool ((rd_T39 l0 x11_1).f4)) := (blk_cell BK102.out 7).trans rfl
                      have hfz29_0 := blk_frozen BK102.out 0
                      have hfz29_1 := blk_frozen BK102.out 1
                      have hfz29_2 := blk_frozen BK102.out 2
                      have hfz29_3 := blk_frozen BK102.out 3
                      have hfz29_4 := blk_frozen BK102.out 4
                      have hfz29_5 := blk_frozen BK102.out 5
                      have hfz29_6 := blk_frozen BK102.out 6
                      have hfz29_7 := blk_frozen BK102.out 7
                      go_wp2_with (first | ((with_reducible refine gate_callee (f := 11) rfl ?_); refine goesL_ (some 37) rfl rfl Try.func11 (by kernel_rfl) rfl #[.agg #[.int .i64 ((rd_T39 l0 x11_1).f3.f0), .int .i64 ((rd_T39 l0 x11_1).f3.f1), .int .i64 ((rd_T39 l0 x11_1).f3.f2), .int .i64 ((rd_T39 l0 x11_1).f3.f3)]] rfl (by (try simp only [List.map_toArray, List.map_cons, List.map_nil]); first | done | rfl | (simp only [List.length_drop, List.length_take]; rfl)) ?_; (with_reducible refine (label_Check.calls ((rd_T39 l0 x11_1).f3.f0) ((rd_T39 l0 x11_1).f3.f1) ((rd_T39 l0 x11_1).f3.f2) ((rd_T39 l0 x11_1).f3.f3) t105 _ A25.out).mono ?_); rintro e w30 ⟨rfl, hb⟩; refine ⟨_, rfl, ?_⟩; have n0_ := Aside0.mk (blk_below (g := gb102) (o := .cells #[.string ((rd_T39 l0 x11_1).f0), .int .i64 ((rd_T39 l0 x11_1).f1), .int .u64 ((rd_T39 l0 x11_1).f2), .int .i64 ((rd_T39 l0 x11_1).f3.f0), .int .i64 ((rd_T39 l0 x11_1).f3.f1), .int .i64 ((rd_T39 l0 x11_1).f3.f2), .int .i64 ((rd_T39 l0 x11_1).f3.f3), .bool ((rd_T39 l0 x11_1).f4)] 39 (0, 0)) (by (with_reducible repeat (first | refine blk_drewN ?_ _ | refine blk_drew ?_ | refine blk_alloc ?_ _)); exact BK102.out) hb); have n1_ := Aside0.mk (below_step (by repeat (first | (with_reducible first | exact HB.out | apply below_alloc | apply pw_below_drewN | apply below_drew1 | refine below_set ?_ GE102.out) | exact HB.out)) hb); clear BK102; clear HB; have BK102 := n0_; have HB := n1_; clear n0_ n1_; (try clear hb); (try clear hb2); (try clear hk); (try clear hi)))
                      go_ret
                      exact ⟨by first | rfl | (simp [errW_none, errW_some] <;> rfl) | (simp [*, errW_none, errW_some] <;> rfl), by repeat (first | (with_reducible first | exact HB.out | apply below_alloc | apply pw_below_drewN | apply below_drew1 | refine below_set ?_ GE102.out) | exact HB.out)⟩
            · rw [if_neg c5] at H
              exact absurd H (by simp)
          · rw [if_neg c4] at H
            exact absurd H (by simp)
        · rw [if_neg c3] at H
          have c3b0 : decide (x11_1 < (l0.length : Int)) = false := decide_eq_false c3
          clear c3
          obtain rfl := Option.some.inj H
          go_wp2
          go_ret
          exact ⟨by first | rfl | (simp [errW_none, errW_some] <;> rfl) | (simp [*, errW_none, errW_some] <;> rfl), by repeat (first | (with_reducible first | exact HB.out | apply below_alloc | apply pw_below_drewN | apply below_drew1) | exact HB.out)⟩

end Go.Proofs.Ytknfjempngdhpaa.X
