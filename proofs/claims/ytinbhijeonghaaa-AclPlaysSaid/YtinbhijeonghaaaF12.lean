/- Written by a program of this session over the kit's print: YtinbhijeonghaaaF12. -/
import Derived.Test.YtinbhijeonghaaaH
import Derived.Test.YtinbhijeonghaaaF29
namespace Go.Proofs.Ytinbhijeonghaaa.X
open Go.RowKit Go.Proofs.YtinbhijeonghaaaW.PrintWords Go.Proofs.YtinbhijeonghaaaW.PrintLast Go.Proofs.YtinbhijeonghaaaW.PrintMore Go.Proofs.Ytinbhijeonghaaa.More
attribute [local go_sem] max2_int min2_int max_two min_two max_three min_three max_four min_four binOp_string_leq binOp_string_gtr   -- for this text's walks alone
set_option linter.unusedVariables false
set_option linter.unusedSimpArgs false

/-! ### donjonref5_Set: function 12 -/
mutual
def donjonref5_Set.j0 : Nat → List (S31) → ByteArray → Int → Bool → Option ((List (S31)) × Int)
  | 0, _, _, _, _ => none
  | k + 1, x0, x1, x2, x23 => if x23 = true then (some (([] : List (S31)), 1)) else (donjonref5_Set.l0 k x0 x1 x2 ([] : List (S31)) false 0)
def donjonref5_Set.l0 : Nat → List (S31) → ByteArray → Int → List (S31) → Bool → Int → Option ((List (S31)) × Int)
  | 0, _, _, _, _, _, _ => none
  | k + 1, x0, x1, x2, x8, x9, x10 => if x10 < (x0.length : Int) then (if 0 ≤ x10 then (if ((rd_T31 x0 x10).f0).toList = x1.toList then (donjonref5_Set.l0 k x0 x1 x2 x8 true (wrap64 (x10 + 1))) else (if x8.length < 5864062014805 then (donjonref5_Set.l0 k x0 x1 x2 (x8 ++ [(⟨(rd_T31 x0 x10).f0, (rd_T31 x0 x10).f1⟩ : S31)]) x9 (wrap64 (x10 + 1))) else (none))) else (none)) else (if x2 = 0 then (if x9 = true then (some (x8, 0)) else (some (([] : List (S31)), 2))) else (if (x8.length : Int) ≥ 4 then (some (([] : List (S31)), 4)) else (donjonref5_Set.l1 k x1 x2 x8 0)))
def donjonref5_Set.l1 : Nat → ByteArray → Int → List (S31) → Int → Option ((List (S31)) × Int)
  | 0, _, _, _, _ => none
  | k + 1, x1, x2, x8, x11 => if x11 < (x8.length : Int) then (if 0 ≤ x11 then (if (Op.bytesLess (((rd_T31 x8 x11).f0).toList) x1.toList) = true then (donjonref5_Set.l1 k x1 x2 x8 (wrap64 (x11 + 1))) else (if x11 ≤ (x8.length : Int) then ((some (x8.take (x11 : Int).toNat : List (S31))).bind fun y108 => (if ([] : List (S31)).length + y108.length < 5864062014805 then ((some (([] : List (S31)) ++ y108 : List (S31))).bind fun y112 => (if y112.length < 5864062014805 then ((some (y112 ++ [(⟨x1, x2⟩ : S31)] : List (S31))).bind fun y115 => ((some (x8.drop (x11 : Int).toNat : List (S31))).bind fun y118 => (if y115.length + y118.length < 5864062014805 then (some ((y115 ++ y118), 0)) else (none)))) else (none))) else (none))) else (none))) else (none)) else (if 0 ≤ x11 then (if x11 ≤ (x8.length : Int) then ((some (x8.take (x11 : Int).toNat : List (S31))).bind fun y125 => (if ([] : List (S31)).length + y125.length < 5864062014805 then ((some (([] : List (S31)) ++ y125 : List (S31))).bind fun y129 => (if y129.length < 5864062014805 then ((some (y129 ++ [(⟨x1, x2⟩ : S31)] : List (S31))).bind fun y132 => ((some (x8.drop (x11 : Int).toNat : List (S31))).bind fun y135 => (if y132.length + y135.length < 5864062014805 then (some ((y132 ++ y135), 0)) else (none)))) else (none))) else (none))) else (none)) else (none))
end
def donjonref5_Set.f (k : Nat) (l0 : List (S31)) (a1 : ByteArray) (a2 : Int) : Option ((List (S31)) × Int) := (donjonref5_who.f k a1).bind fun t101 => (if t101 = true then (if a2 < 0 then (donjonref5_Set.j0 k l0 a1 a2 true) else (donjonref5_Set.j0 k l0 a1 a2 (decide (a2 > 7)))) else (donjonref5_Set.j0 k l0 a1 a2 true))
theorem donjonref5_Set.mono_l : ∀ k, (∀ y0 y1 y2 y3, LeO (donjonref5_Set.j0 k y0 y1 y2 y3) (donjonref5_Set.j0 (k + 1) y0 y1 y2 y3)) ∧ (∀ y0 y1 y2 y3 y4 y5, LeO (donjonref5_Set.l0 k y0 y1 y2 y3 y4 y5) (donjonref5_Set.l0 (k + 1) y0 y1 y2 y3 y4 y5)) ∧ (∀ y0 y1 y2 y3, LeO (donjonref5_Set.l1 k y0 y1 y2 y3) (donjonref5_Set.l1 (k + 1) y0 y1 y2 y3))
  | 0 => ⟨fun _ _ _ _ r h => by simp [donjonref5_Set.j0] at h, fun _ _ _ _ _ _ r h => by simp [donjonref5_Set.l0] at h, fun _ _ _ _ r h => by simp [donjonref5_Set.l1] at h⟩
  | k + 1 => by
    obtain ⟨ih0, ih1, ih2⟩ := donjonref5_Set.mono_l k
    refine ⟨?_, ?_, ?_⟩
    · intro y0 y1 y2 y3
      unfold donjonref5_Set.j0
      repeat' first
      | (with_reducible exact ih0 _ _ _ _)
      | (with_reducible exact ih1 _ _ _ _ _ _)
      | (with_reducible exact ih2 _ _ _ _)
      | (with_reducible exact donjonref5_who.mono _ _)
      | (with_reducible exact LeO.refl _)
      | (with_reducible exact LeO.none _)
      | (with_reducible refine LeO.ite ?_ ?_)
      | (with_reducible refine LeO.bind ?_ (fun _ => ?_))
      | exact ih0 _ _ _ _
      | exact ih1 _ _ _ _ _ _
      | exact ih2 _ _ _ _
      | exact donjonref5_who.mono _ _
      | exact LeO.none _
      | refine LeO.ite ?_ ?_
      | refine LeO.bind ?_ (fun _ => ?_)
    · intro y0 y1 y2 y3 y4 y5
      unfold donjonref5_Set.l0
      repeat' first
      | (with_reducible exact ih0 _ _ _ _)
      | (with_reducible exact ih1 _ _ _ _ _ _)
      | (with_reducible exact ih2 _ _ _ _)
      | (with_reducible exact donjonref5_who.mono _ _)
      | (with_reducible exact LeO.refl _)
      | (with_reducible exact LeO.none _)
      | (with_reducible refine LeO.ite ?_ ?_)
      | (with_reducible refine LeO.bind ?_ (fun _ => ?_))
      | exact ih0 _ _ _ _
      | exact ih1 _ _ _ _ _ _
      | exact ih2 _ _ _ _
      | exact donjonref5_who.mono _ _
      | exact LeO.none _
      | refine LeO.ite ?_ ?_
      | refine LeO.bind ?_ (fun _ => ?_)
    · intro y0 y1 y2 y3
      unfold donjonref5_Set.l1
      repeat' first
      | (with_reducible exact ih0 _ _ _ _)
      | (with_reducible exact ih1 _ _ _ _ _ _)
      | (with_reducible exact ih2 _ _ _ _)
      | (with_reducible exact donjonref5_who.mono _ _)
      | (with_reducible exact LeO.refl _)
      | (with_reducible exact LeO.none _)
      | (with_reducible refine LeO.ite ?_ ?_)
      | (with_reducible refine LeO.bind ?_ (fun _ => ?_))
      | exact ih0 _ _ _ _
      | exact ih1 _ _ _ _ _ _
      | exact ih2 _ _ _ _
      | exact donjonref5_who.mono _ _
      | exact LeO.none _
      | refine LeO.ite ?_ ?_
      | refine LeO.bind ?_ (fun _ => ?_)
theorem donjonref5_Set.mono : ∀ a0 a1 a2 k, LeO (donjonref5_Set.f k a0 a1 a2) (donjonref5_Set.f (k + 1) a0 a1 a2) := by
  intro a0 a1 a2 k
  obtain ⟨ih0, ih1, ih2⟩ := donjonref5_Set.mono_l k
  unfold donjonref5_Set.f
  repeat' first
      | (with_reducible exact ih0 _ _ _ _)
      | (with_reducible exact ih1 _ _ _ _ _ _)
      | (with_reducible exact ih2 _ _ _ _)
      | (with_reducible exact donjonref5_who.mono _ _)
      | (with_reducible exact LeO.refl _)
      | (with_reducible exact LeO.none _)
      | (with_reducible refine LeO.ite ?_ ?_)
      | (with_reducible refine LeO.bind ?_ (fun _ => ?_))
      | exact ih0 _ _ _ _
      | exact ih1 _ _ _ _ _ _
      | exact ih2 _ _ _ _
      | exact donjonref5_who.mono _ _
      | exact LeO.none _
      | refine LeO.ite ?_ ?_
      | refine LeO.bind ?_ (fun _ => ?_)
set_option maxHeartbeats 8000000 in
set_option maxRecDepth 100000 in
theorem donjonref5_Set.calls (k : Nat) (A0 : Option Addr) (c0 : Nat) (l0 : List (S31)) (a1 : ByteArray) (a2 : Int) (r1 : List (S31)) (r2 : Int) (w : World) (hr0 : Kd.C k31 w A0 l0.length l0) (hc0 : l0.length ≤ c0) (h : donjonref5_Set.f k l0 a1 a2 = some (r1, r2)) :
    Calls Try.prog 12 #[.slice A0 l0.length c0, .string a1, .int .i64 a2] w fun e w' => ∃ v0_ : Value, e = .returned (.tuple #[v0_, .int .i64 r2]) ∧ Kd.R k31 31 w' w.heap.size (fun _ => True) v0_ r1 ∧ Below w.heap.size w w' := by
  have hu31 := Try.underlying31
  have HR0 := Aside0.mk hr0
  have HC0 := Aside0.mk hc0
  clear hr0 hc0
  have HB := Aside0.mk (Below.refl w.heap.size w)
  have H : ((donjonref5_who.f k a1).bind fun t101 => (if t101 = true then (if a2 < 0 then (donjonref5_Set.j0 k l0 a1 a2 true) else (donjonref5_Set.j0 k l0 a1 a2 (decide (a2 > 7)))) else (donjonref5_Set.j0 k l0 a1 a2 true))) = some (r1, r2) := h
  clear h
  have HC4 := Aside0.mk H
  clear H
  go_enter Try.func12, Try.ntmps12
  go_upto_region 1 with (fail)
  go_cut [23] (fun v23 wc => ∃ (kq : Nat) (x23_3 : Bool), v23 = .bool x23_3 ∧ Aside0 (donjonref5_Set.j0 kq l0 a1 a2 x23_3 = some (r1, r2)) ∧ Aside0 (kq ≤ k) ∧ Aside0 (Below w.heap.size w wc))
  case first =>
    have H := HC4.out
    clear HC4
    replace H := Option.bind_eq_some_iff.mp H
    obtain ⟨t101, A50, H⟩ := H
    replace H : (if t101 = true then (if a2 < 0 then (donjonref5_Set.j0 k l0 a1 a2 true) else (donjonref5_Set.j0 k l0 a1 a2 (decide (a2 > 7)))) else (donjonref5_Set.j0 k l0 a1 a2 true)) = some (r1, r2) := H
    have A5 := Aside0.mk A50
    clear A50
    by_cases c6 : t101 = true
    · subst c6
      have H1 : (if a2 < 0 then (donjonref5_Set.j0 k l0 a1 a2 true) else (donjonref5_Set.j0 k l0 a1 a2 (decide (a2 > 7)))) = some (r1, r2) := by rw [if_pos rfl] at H; exact H
      clear H
      have H := H1
      clear H1
      by_cases c7 : a2 < 0
      · rw [if_pos c7] at H
        have c7b0 : decide (a2 < 0) = true := decide_eq_true c7
        clear c7
        (first | rw [c7b0] | (simp only [i64_w, i32_w]; rw [c7b0]) | skip)
        have H' := Aside0.mk H
        clear H
        go_wp2_with (first | ((with_reducible refine gate_callee (f := 29) rfl ?_); refine goesL_ (some 14) rfl rfl Try.func29 (by kernel_rfl) rfl #[.string a1] rfl (by (try simp only [List.map_toArray, List.map_cons, List.map_nil]); first | done | rfl | (simp only [List.length_drop, List.length_take]; rfl)) ?_; (with_reducible refine (donjonref5_who.calls k a1 true _ A5.out).mono ?_); rintro e w' ⟨rfl, ⟨nd, rfl⟩⟩; refine ⟨_, rfl, ?_⟩))
        go_meet
        case rel => exact ⟨_, (true), (by first | rfl | (simp; done) | (simp [*]; done)), H', ⟨by first | omega | exact Nat.le_refl _⟩, ⟨by repeat (first | (with_reducible first | exact HB.out | apply below_alloc | apply pw_below_drewN | apply below_drew1) | exact HB.out)⟩⟩
      · rw [if_neg c7] at H
        have c7b0 : decide (a2 < 0) = false := decide_eq_false c7
        clear c7
        (first | rw [c7b0] | (simp only [i64_w, i32_w]; rw [c7b0]) | skip)
        have H' := Aside0.mk H
        clear H
        go_wp2_with (first | ((with_reducible refine gate_callee (f := 29) rfl ?_); refine goesL_ (some 14) rfl rfl Try.func29 (by kernel_rfl) rfl #[.string a1] rfl (by (try simp only [List.map_toArray, List.map_cons, List.map_nil]); first | done | rfl | (simp only [List.length_drop, List.length_take]; rfl)) ?_; (with_reducible refine (donjonref5_who.calls k a1 true _ A5.out).mono ?_); rintro e w' ⟨rfl, ⟨nd, rfl⟩⟩; refine ⟨_, rfl, ?_⟩))
        go_meet
        case rel => exact ⟨_, (decide (a2 > 7)), (by first | rfl | (simp; done) | (simp [*]; done)), H', ⟨by first | omega | exact Nat.le_refl _⟩, ⟨by repeat (first | (with_reducible first | exact HB.out | apply below_alloc | apply pw_below_drewN | apply below_drew1) | exact HB.out)⟩⟩
    · replace c6 := Bool.eq_false_iff.mpr c6
      subst c6
      have H1 : (donjonref5_Set.j0 k l0 a1 a2 true) = some (r1, r2) := by rw [if_neg (show ¬ (false = true) by decide)] at H; exact H
      clear H
      have H := H1
      clear H1
      have H' := Aside0.mk H
      clear H
      go_wp2_with (first | ((with_reducible refine gate_callee (f := 29) rfl ?_); refine goesL_ (some 14) rfl rfl Try.func29 (by kernel_rfl) rfl #[.string a1] rfl (by (try simp only [List.map_toArray, List.map_cons, List.map_nil]); first | done | rfl | (simp only [List.length_drop, List.length_take]; rfl)) ?_; (with_reducible refine (donjonref5_who.calls k a1 false _ A5.out).mono ?_); rintro e w' ⟨rfl, ⟨nd, rfl⟩⟩; refine ⟨_, rfl, ?_⟩))
      go_meet
      case rel => exact ⟨_, (true), (by first | rfl | (simp; done) | (simp [*]; done)), H', ⟨by first | omega | exact Nat.le_refl _⟩, ⟨by repeat (first | (with_reducible first | exact HB.out | apply below_alloc | apply pw_below_drewN | apply below_drew1) | exact HB.out)⟩⟩
  case rest =>
    clear HC4
    try clear c1
    try clear c2
    try clear p2
    try clear c6
    try clear c7
    try clear c7b0
    obtain ⟨kq, x23_3, rfl, HA, HJ3, HB⟩ := hcut
    cases kq with
    | zero => exact absurd HA.out (by simp [donjonref5_Set.j0])
    | succ kj3 =>
      have H := HA.out
      clear HA
      simp only [donjonref5_Set.j0] at H
      by_cases c8 : x23_3 = true
      · subst c8
        have H1 : (some (([] : List (S31)), 1)) = some (r1, r2) := by rw [if_pos rfl] at H; exact H
        clear H
        have H := H1
        clear H1
        simp only [Option.some.injEq, Prod.mk.injEq] at H
        obtain ⟨rfl, rfl⟩ := H
        go_wp2
        go_ret2
        exact ⟨_, by first | rfl | (simp [errW_none, errW_some] <;> rfl) | (simp [*, errW_none, errW_some] <;> rfl), by first | exact Kd.R_nil _ _ _ _ _ | exact Kd.N_nil _ _ _ _ _ | exact Kd.V_nil _ _ _ _ _ | exact Kd.Q_nil _ _ _ _ _ | exact Kd.S_nil _ _ _ _ _, by repeat (first | (with_reducible first | exact HB.out | apply below_alloc | apply pw_below_drewN | apply below_drew1) | exact HB.out)⟩
      · replace c8 := Bool.eq_false_iff.mpr c8
        subst c8
        have H1 : (donjonref5_Set.l0 kj3 l0 a1 a2 ([] : List (S31)) false 0) = some (r1, r2) := by rw [if_neg (show ¬ (false = true) by decide)] at H; exact H
        clear H
        have H := H1
        clear H1
        have H' := Aside0.mk H
        clear H
        go_wp2
        go_loopg [8, 9, 10] kj3 (fun kq v8 v9 v10 w' => ∃ (x8_2 : List (S31)) (x9_2 : Bool) (x10_2 : Int), v9 = .bool x9_2 ∧ v10 = .int .i64 x10_2 ∧ Aside0 (donjonref5_Set.l0 kq l0 a1 a2 x8_2 x9_2 x10_2 = some (r1, r2)) ∧ Aside0 (kq ≤ kj3) ∧ Aside0 (Kd.R k31 31 w' w.heap.size (fun _ => True) v8 x8_2) ∧ Aside0 (Below w.heap.size w w'))
        case atStart => exact ⟨(([] : List (S31))), (false), (0), (by first | rfl | (simp; done) | (simp [*]; done)), (by first | rfl | (simp; done) | (simp [*]; done)), H', ⟨Nat.le_refl _⟩, ⟨by first | exact Kd.R_nil _ _ _ _ _ | exact Kd.N_nil _ _ _ _ _ | exact Kd.V_nil _ _ _ _ _ | exact Kd.Q_nil _ _ _ _ _ | exact Kd.S_nil _ _ _ _ _⟩, ⟨by repeat (first | (with_reducible first | exact HB.out | apply below_alloc | apply pw_below_drewN | apply below_drew1) | exact HB.out)⟩⟩
        case round =>
          clear H'
          try clear c1
          try clear c2
          try clear p2
          try clear c6
          try clear c7
          try clear c7b0
          try clear c8
          try clear p2
          obtain ⟨x8_2, x9_2, x10_2, rfl, rfl, HA, HK2, HO_8, HB⟩ := hrel
          cases gk with
          | zero => exact absurd HA.out (by simp [donjonref5_Set.l0])
          | succ k2 =>
            have H := HA.out
            clear HA
            simp only [donjonref5_Set.l0] at H
            by_cases c9 : x10_2 < (l0.length : Int)
            · rw [if_pos c9] at H
              have c9b0 : decide (x10_2 < (l0.length : Int)) = true := decide_eq_true c9
              clear c9
              by_cases c10 : 0 ≤ x10_2
              · rw [if_pos c10] at H
                have c10b0 : decide (0 ≤ x10_2) = true := decide_eq_true c10
                clear c10
                by_cases c11 : ((rd_T31 l0 x10_2).f0).toList = a1.toList
                · rw [if_pos c11] at H
                  have c11b0 : (((rd_T31 l0 x10_2).f0).toList == a1.toList) = true := beq_iff_eq.mpr c11
                  have c11b1 : (((rd_T31 l0 x10_2).f0).toList != a1.toList) = false := bne_eq_false_iff_eq.mpr c11
                  clear c11
                  have H' := Aside0.mk H
                  clear H
                  have p102 : 0 ≤ (x10_2 : Int) := of_decide_eq_true (by first | (with_reducible assumption) | assumption)
                  have q102 : x10_2 < (l0.length : Int) := of_decide_eq_true (by first | (with_reducible assumption) | assumption)
                  obtain ⟨ad102, e102, hx102_0, hx102_1⟩ := at_T31 HR0.out x10_2 p102 q102
                  cases e102
                  replace hx102_0 := (HB.out.cell (World.block_lt_of_cell? w _ hx102_0)).trans hx102_0
                  replace hx102_1 := (HB.out.cell (World.block_lt_of_cell? w _ hx102_1)).trans hx102_1
                  replace p102 := eq_true p102
                  replace q102 := eq_true q102
                  go_wp2
                  go_roundg k2
                  case measure => have := HJ3.out; have := HK2.out; omega
                  case rel => exact ⟨(x8_2), (true), (wrap64 (x10_2 + 1)), (by first | rfl | (simp; done) | (simp [*]; done)), (by first | rfl | (simp; done) | (simp [*]; done)), H', ⟨by have := HJ3.out; have := HK2.out; omega⟩, ⟨by (with_reducible repeat (first | apply Kd.R_alloc | apply Kd.R_drewN | apply Kd.R_drew)); exact HO_8.out⟩, ⟨by repeat (first | (with_reducible first | exact HB.out | apply below_alloc | apply pw_below_drewN | apply below_drew1) | exact HB.out)⟩⟩
                · rw [if_neg c11] at H
                  have c11b0 : (((rd_T31 l0 x10_2).f0).toList == a1.toList) = false := beq_eq_false_iff_ne.mpr c11
                  have c11b1 : (((rd_T31 l0 x10_2).f0).toList != a1.toList) = true := bne_iff_ne.mpr c11
                  by_cases c12 : x8_2.length < 5864062014805
                  · rw [if_pos c12] at H
                    have LMc12 := Aside0.mk c12
                    clear c12
                    obtain ⟨y104, hy104⟩ : ∃ y_ : List (S31), y_ = (x8_2 ++ [(⟨(rd_T31 l0 x10_2).f0, (rd_T31 l0 x10_2).f1⟩ : S31)]) := ⟨_, rfl⟩
                    replace H : (donjonref5_Set.l0 k2 l0 a1 a2 y104 x9_2 (wrap64 (x10_2 + 1))) = some (r1, r2) := by first | (rw [hy104]; with_reducible exact H) | (have H2_ := (Option.bind_some _ _).symm.trans H; rw [hy104]; with_reducible exact H2_) | (have H2_ := (Option.bind_some _ _).symm.trans H; with_reducible exact H2_) | with_reducible exact H | (rw [hy104]; exact H) | exact H
                    have Ny104 := Aside0.mk hy104
                    clear hy104
                    have H' := Aside0.mk H
                    clear H
                    have p102 : 0 ≤ (x10_2 : Int) := of_decide_eq_true (by first | (with_reducible assumption) | assumption)
                    have q102 : x10_2 < (l0.length : Int) := of_decide_eq_true (by first | (with_reducible assumption) | assumption)
                    obtain ⟨ad102, e102, hx102_0, hx102_1⟩ := at_T31 HR0.out x10_2 p102 q102
                    cases e102
                    replace hx102_0 := (HB.out.cell (World.block_lt_of_cell? w _ hx102_0)).trans hx102_0
                    replace hx102_1 := (HB.out.cell (World.block_lt_of_cell? w _ hx102_1)).trans hx102_1
                    replace p102 := eq_true p102
                    replace q102 := eq_true q102
                    have p103 : 0 ≤ (x10_2 : Int) := of_decide_eq_true (by first | (with_reducible assumption) | assumption)
                    have q103 : x10_2 < (l0.length : Int) := of_decide_eq_true (by first | (with_reducible assumption) | assumption)
                    obtain ⟨ad103, e103, hx103_0, hx103_1⟩ := at_T31 HR0.out x10_2 p103 q103
                    obtain rfl : ad102 = ad103 := (by injection e103)
                    replace hx103_0 := (HB.out.cell (World.block_lt_of_cell? w _ hx103_0)).trans hx103_0
                    replace hx103_1 := (HB.out.cell (World.block_lt_of_cell? w _ hx103_1)).trans hx103_1
                    replace p103 := eq_true p103
                    replace q103 := eq_true q103
                    go_wp2_with (first | ((with_reducible refine gate_builtin (b := .append) (xs := #[.tmp 37, .tmp 42]) rfl ?_); at_builtin; refine Kd.R_append k31 (w0 := w) w.heap.size rfl (.tmp 37) (.tmp 42) 24 31 (.agg #[(.string ⟨#[]⟩), (.int .i64 0)]) 24 rfl Try.underlying24 info31 rfl (by decide) (by omega) u8 x8_2 (⟨(rd_T31 l0 x10_2).f0, (rd_T31 l0 x10_2).f1⟩ : S31) [.string ((rd_T31 l0 x10_2).f0), .int .i64 ((rd_T31 l0 x10_2).f1)] (fun _ => True) (fun _ => False) rfl rfl ?aP (fun _ hk => hk.elim) ?aF ?aO ?aB ?aS ?aL ?_; (case aP => exact k31_mkM _ _ _ (⟨(rd_T31 l0 x10_2).f0, (rd_T31 l0 x10_2).f1⟩ : S31)); (case aB => exact (by repeat (first | (with_reducible first | exact HB.out | apply below_alloc | apply pw_below_drewN | apply below_drew1) | exact HB.out))); (case aF => exact (fun _ _ => trivial)); (case aO => exact (by (with_reducible repeat (first | apply Kd.R_alloc | apply Kd.R_drewN | apply Kd.R_drew)); exact HO_8.out)); (case aS => exact (below_size (by repeat (first | (with_reducible first | exact HB.out | apply below_alloc | apply pw_below_drewN | apply below_drew1) | exact HB.out)))); (case aL => have := LMc12.out; omega); intro v105 w13 ho hb hg hat; rw [← Ny104.out] at ho; have n0_ := Aside0.mk (hb); have n1_ := Aside0.mk (ho); clear HB; clear HO_8; have HB := n0_; have HO106 := n1_; clear n0_ n1_; clear ho hb hg hat))
                    go_roundg k2
                    case measure => have := HJ3.out; have := HK2.out; omega
                    case rel => exact ⟨(y104), (x9_2), (wrap64 (x10_2 + 1)), (by first | rfl | (simp; done) | (simp [*]; done)), (by first | rfl | (simp; done) | (simp [*]; done)), H', ⟨by have := HJ3.out; have := HK2.out; omega⟩, ⟨by (with_reducible repeat (first | apply Kd.R_alloc | apply Kd.R_drewN | apply Kd.R_drew)); exact HO106.out⟩, ⟨by repeat (first | (with_reducible first | exact HB.out | apply below_alloc | apply pw_below_drewN | apply below_drew1) | exact HB.out)⟩⟩
                  · rw [if_neg c12] at H
                    exact absurd H (by simp)
              · rw [if_neg c10] at H
                exact absurd H (by simp)
            · rw [if_neg c9] at H
              have c9b0 : decide (x10_2 < (l0.length : Int)) = false := decide_eq_false c9
              clear c9
              by_cases c14 : a2 = 0
              · rw [if_pos c14] at H
                have c14b0 : (a2 == 0) = true := beq_iff_eq.mpr c14
                have c14b1 : (a2 != 0) = false := bne_eq_false_iff_eq.mpr c14
                clear c14
                by_cases c15 : x9_2 = true
                · subst c15
                  have H1 : (some (x8_2, 0)) = some (r1, r2) := by rw [if_pos rfl] at H; exact H
                  clear H
                  have H := H1
                  clear H1
                  simp only [Option.some.injEq, Prod.mk.injEq] at H
                  obtain ⟨rfl, rfl⟩ := H
                  go_wp2
                  go_ret2
                  exact ⟨_, by first | rfl | (simp [errW_none, errW_some] <;> rfl) | (simp [*, errW_none, errW_some] <;> rfl), by (with_reducible repeat (first | apply Kd.R_alloc | apply Kd.R_drewN | apply Kd.R_drew)); exact HO_8.out, by repeat (first | (with_reducible first | exact HB.out | apply below_alloc | apply pw_below_drewN | apply below_drew1) | exact HB.out)⟩
                · replace c15 := Bool.eq_false_iff.mpr c15
                  subst c15
                  have H1 : (some (([] : List (S31)), 2)) = some (r1, r2) := by rw [if_neg (show ¬ (false = true) by decide)] at H; exact H
                  clear H
                  have H := H1
                  clear H1
                  simp only [Option.some.injEq, Prod.mk.injEq] at H
                  obtain ⟨rfl, rfl⟩ := H
                  go_wp2
                  go_ret2
                  exact ⟨_, by first | rfl | (simp [errW_none, errW_some] <;> rfl) | (simp [*, errW_none, errW_some] <;> rfl), by first | exact Kd.R_nil _ _ _ _ _ | exact Kd.N_nil _ _ _ _ _ | exact Kd.V_nil _ _ _ _ _ | exact Kd.Q_nil _ _ _ _ _ | exact Kd.S_nil _ _ _ _ _, by repeat (first | (with_reducible first | exact HB.out | apply below_alloc | apply pw_below_drewN | apply below_drew1) | exact HB.out)⟩
              · rw [if_neg c14] at H
                have c14b0 : (a2 == 0) = false := beq_eq_false_iff_ne.mpr c14
                have c14b1 : (a2 != 0) = true := bne_iff_ne.mpr c14
                by_cases c16 : (x8_2.length : Int) ≥ 4
                · rw [if_pos c16] at H
                  have c16b0 : decide (4 ≤ (x8_2.length : Int)) = true := decide_eq_true c16
                  have c16b1 : decide (4 ≤ x8_2.length) = true := decide_eq_true (by omega)
                  clear c16
                  simp only [Option.some.injEq, Prod.mk.injEq] at H
                  obtain ⟨rfl, rfl⟩ := H
                  obtain ⟨Ao17, co17, eo17⟩ := Kd.R_slice HO_8.out
                  subst eo17
                  go_wp2
                  go_ret2
                  exact ⟨_, by first | rfl | (simp [errW_none, errW_some] <;> rfl) | (simp [*, errW_none, errW_some] <;> rfl), by first | exact Kd.R_nil _ _ _ _ _ | exact Kd.N_nil _ _ _ _ _ | exact Kd.V_nil _ _ _ _ _ | exact Kd.Q_nil _ _ _ _ _ | exact Kd.S_nil _ _ _ _ _, by repeat (first | (with_reducible first | exact HB.out | apply below_alloc | apply pw_below_drewN | apply below_drew1) | exact HB.out)⟩
                · rw [if_neg c16] at H
                  have c16b0 : decide (4 ≤ (x8_2.length : Int)) = false := decide_eq_false c16
                  have c16b1 : decide (4 ≤ x8_2.length) = false := decide_eq_false (by omega)
                  clear c16
                  have H' := Aside0.mk H
                  clear H
                  obtain ⟨Ao18, co18, eo18⟩ := Kd.R_slice HO_8.out
                  subst eo18
                  go_wp2
                  go_loopg [11] k2 (fun kq v11 w' => ∃ (x11_3 : Int), v11 = .int .i64 x11_3 ∧ Aside0 (donjonref5_Set.l1 kq a1 a2 x8_2 x11_3 = some (r1, r2)) ∧ Aside0 (kq ≤ k2) ∧ Aside0 (Kd.R k31 31 w' w.heap.size (fun _ => True) (.slice Ao18 x8_2.length co18) x8_2) ∧ Aside0 (Below w.heap.size w w'))
                  case atStart => exact ⟨(0), (by first | rfl | (simp; done) | (simp [*]; done)), H', ⟨Nat.le_refl _⟩, ⟨by (with_reducible repeat (first | apply Kd.R_alloc | apply Kd.R_drewN | apply Kd.R_drew)); exact HO_8.out⟩, ⟨by repeat (first | (with_reducible first | exact HB.out | apply below_alloc | apply pw_below_drewN | apply below_drew1) | exact HB.out)⟩⟩
                  case round =>
                    clear H'
                    try clear c1
                    try clear p1
                    try clear q1
                    try clear hx1
                    try clear c2
                    try clear p2
                    try clear c6
                    try clear p6
                    try clear c7
                    try clear c7b0
                    try clear c8
                    try clear c9
                    try clear c9b0
                    try clear c10
                    try clear c10b0
                    try clear p10
                    try clear q10
                    try clear hx10
                    try clear c11
                    try clear c11b0
                    try clear c11b1
                    try clear c12
                    try clear c14
                    try clear c14b0
                    try clear c14b1
                    try clear c15
                    try clear c16
                    try clear c16b0
                    try clear c16b1
                    try clear hx102_0
                    try clear hx102_1
                    try clear hx103_0
                    try clear hx103_1
                    try clear p102
                    try clear p103
                    try clear p2
                    try clear q102
                    try clear q103
                    obtain ⟨x11_3, rfl, HA, HK3, HO_8, HB⟩ := hrel
                    cases gk with
                    | zero => exact absurd HA.out (by simp [donjonref5_Set.l1])
                    | succ k3 =>
                      have H := HA.out
                      clear HA
                      simp only [donjonref5_Set.l1] at H
                      by_cases c19 : x11_3 < (x8_2.length : Int)
                      · rw [if_pos c19] at H
                        have c19b0 : decide (x11_3 < (x8_2.length : Int)) = true := decide_eq_true c19
                        clear c19
                        by_cases c20 : 0 ≤ x11_3
                        · rw [if_pos c20] at H
                          have c20b0 : decide (0 ≤ x11_3) = true := decide_eq_true c20
                          clear c20
                          by_cases c21 : (Op.bytesLess (((rd_T31 x8_2 x11_3).f0).toList) a1.toList) = true
                          · rw [if_pos c21] at H
                            have c21b0 : (Op.bytesLess (((rd_T31 x8_2 x11_3).f0).toList) a1.toList) = true := c21
                            clear c21
                            have H' := Aside0.mk H
                            clear H
                            have p107 : 0 ≤ (x11_3 : Int) := of_decide_eq_true (by first | (with_reducible assumption) | assumption)
                            have q107 : x11_3 < (x8_2.length : Int) := of_decide_eq_true (by first | (with_reducible assumption) | assumption)
                            obtain ⟨ad107, e107, hx107_0, hx107_1⟩ := at_T31 (Kd.R_reads' HO_8.out).2.2 x11_3 p107 q107
                            cases e107
                            replace p107 := eq_true p107
                            replace q107 := eq_true q107
                            go_wp2
                            go_roundg k3
                            case measure => have := HJ3.out; have := HK2.out; have := HK3.out; omega
                            case rel => exact ⟨(wrap64 (x11_3 + 1)), (by first | rfl | (simp; done) | (simp [*]; done)), H', ⟨by have := HJ3.out; have := HK2.out; have := HK3.out; omega⟩, ⟨by (with_reducible repeat (first | apply Kd.R_alloc | apply Kd.R_drewN | apply Kd.R_drew)); exact HO_8.out⟩, ⟨by repeat (first | (with_reducible first | exact HB.out | apply below_alloc | apply pw_below_drewN | apply below_drew1) | exact HB.out)⟩⟩
                          · rw [if_neg c21] at H
                            have c21b0 : (Op.bytesLess (((rd_T31 x8_2 x11_3).f0).toList) a1.toList) = false := by simpa using c21
                            clear c21
                            have c22b0 := eq_true (of_decide_eq_true (by first | (with_reducible assumption) | assumption) : 0 ≤ x11_3)
                            by_cases c23 : x11_3 ≤ (x8_2.length : Int)
                            · rw [if_pos c23] at H
                              have c23b0 := eq_true c23
                              have c23b1 : decide (x11_3 ≤ (x8_2.length : Int)) = true := decide_eq_true c23
                              clear c23
                              obtain ⟨y108, hy108⟩ : ∃ y_ : List (S31), y_ = (x8_2.take (x11_3 : Int).toNat) := ⟨_, rfl⟩
                              replace H : (if ([] : List (S31)).length + y108.length < 5864062014805 then ((some (([] : List (S31)) ++ y108 : List (S31))).bind fun y112 => (if y112.length < 5864062014805 then ((some (y112 ++ [(⟨a1, a2⟩ : S31)] : List (S31))).bind fun y115 => ((some (x8_2.drop (x11_3 : Int).toNat : List (S31))).bind fun y118 => (if y115.length + y118.length < 5864062014805 then (some ((y115 ++ y118), 0)) else (none)))) else (none))) else (none)) = some (r1, r2) := by first | (rw [hy108]; with_reducible exact H) | (have H2_ := (Option.bind_some _ _).symm.trans H; rw [hy108]; with_reducible exact H2_) | (have H2_ := (Option.bind_some _ _).symm.trans H; with_reducible exact H2_) | with_reducible exact H | (rw [hy108]; exact H) | exact H
                              have Ny108 := Aside0.mk hy108
                              clear hy108
                              by_cases c24 : ([] : List (S31)).length + y108.length < 5864062014805
                              · rw [if_pos c24] at H
                                have LMc24 := Aside0.mk c24
                                clear c24
                                obtain ⟨y112, hy112⟩ : ∃ y_ : List (S31), y_ = (([] : List (S31)) ++ y108) := ⟨_, rfl⟩
                                replace H : (if y112.length < 5864062014805 then ((some (y112 ++ [(⟨a1, a2⟩ : S31)] : List (S31))).bind fun y115 => ((some (x8_2.drop (x11_3 : Int).toNat : List (S31))).bind fun y118 => (if y115.length + y118.length < 5864062014805 then (some ((y115 ++ y118), 0)) else (none)))) else (none)) = some (r1, r2) := by first | (rw [hy112]; with_reducible exact H) | (have H2_ := (Option.bind_some _ _).symm.trans H; rw [hy112]; with_reducible exact H2_) | (have H2_ := (Option.bind_some _ _).symm.trans H; with_reducible exact H2_) | with_reducible exact H | (rw [hy112]; exact H) | exact H
                                have Ny112 := Aside0.mk hy112
                                clear hy112
                                by_cases c25 : y112.length < 5864062014805
                                · rw [if_pos c25] at H
                                  have LMc25 := Aside0.mk c25
                                  clear c25
                                  obtain ⟨y115, hy115⟩ : ∃ y_ : List (S31), y_ = (y112 ++ [(⟨a1, a2⟩ : S31)]) := ⟨_, rfl⟩
                                  replace H : ((some (x8_2.drop (x11_3 : Int).toNat : List (S31))).bind fun y118 => (if y115.length + y118.length < 5864062014805 then (some ((y115 ++ y118), 0)) else (none))) = some (r1, r2) := by first | (rw [hy115]; with_reducible exact H) | (have H2_ := (Option.bind_some _ _).symm.trans H; rw [hy115]; with_reducible exact H2_) | (have H2_ := (Option.bind_some _ _).symm.trans H; with_reducible exact H2_) | with_reducible exact H | (rw [hy115]; exact H) | exact H
                                  have Ny115 := Aside0.mk hy115
                                  clear hy115
                                  have c26b0 := eq_true (of_decide_eq_true (by first | (with_reducible assumption) | assumption) : 0 ≤ x11_3)
                                  have c27b0 := eq_true (of_decide_eq_true (by first | (with_reducible assumption) | assumption) : x11_3 ≤ (x8_2.length : Int))
                                  obtain ⟨y118, hy118⟩ : ∃ y_ : List (S31), y_ = (x8_2.drop (x11_3 : Int).toNat) := ⟨_, rfl⟩
                                  replace H : (if y115.length + y118.length < 5864062014805 then (some ((y115 ++ y118), 0)) else (none)) = some (r1, r2) := by first | (rw [hy118]; with_reducible exact H) | (have H2_ := (Option.bind_some _ _).symm.trans H; rw [hy118]; with_reducible exact H2_) | (have H2_ := (Option.bind_some _ _).symm.trans H; with_reducible exact H2_) | with_reducible exact H | (rw [hy118]; exact H) | exact H
                                  have Ny118 := Aside0.mk hy118
                                  clear hy118
                                  by_cases c28 : y115.length + y118.length < 5864062014805
                                  · rw [if_pos c28] at H
                                    have LMc28 := Aside0.mk c28
                                    clear c28
                                    obtain ⟨y122, hy122⟩ : ∃ y_ : List (S31), y_ = (y115 ++ y118) := ⟨_, rfl⟩
                                    replace H : (some (y122, 0)) = some (r1, r2) := by first | (rw [hy122]; with_reducible exact H) | (have H2_ := (Option.bind_some _ _).symm.trans H; rw [hy122]; with_reducible exact H2_) | (have H2_ := (Option.bind_some _ _).symm.trans H; with_reducible exact H2_) | with_reducible exact H | (rw [hy122]; exact H) | exact H
                                    have Ny122 := Aside0.mk hy122
                                    clear hy122
                                    simp only [Option.some.injEq, Prod.mk.injEq] at H
                                    obtain ⟨rfl, rfl⟩ := H
                                    have p107 : 0 ≤ (x11_3 : Int) := of_decide_eq_true (by first | (with_reducible assumption) | assumption)
                                    have q107 : x11_3 < (x8_2.length : Int) := of_decide_eq_true (by first | (with_reducible assumption) | assumption)
                                    obtain ⟨ad107, e107, hx107_0, hx107_1⟩ := at_T31 (Kd.R_reads' HO_8.out).2.2 x11_3 p107 q107
                                    cases e107
                                    replace p107 := eq_true p107
                                    replace q107 := eq_true q107
                                    have q29 : (x11_3 : Int) ≤ ((x8_2.length : Int) : Int) := of_decide_eq_true (by first | (with_reducible assumption) | assumption)
                                    obtain ⟨i029, hi029, _, hsz29, _⟩ := info_parts info31
                                    have hroom29 : x8_2.length ≤ co18 := (Kd.R_reads' HO_8.out).2.1
                                    have hC29 : Kd.C k31 _ (some ad107) x8_2.length x8_2 := (Kd.R_reads' HO_8.out).2.2
                                    have hcut29 := cut_to (P := Try.prog) 24 31 .i64 Try.underlying24 hi029 (some ad107) x8_2.length co18 x11_3 (of_decide_eq_true (by first | (with_reducible assumption) | assumption)) q29 hroom29
                                    have hr29 := Kd.C_take (m := (x11_3 : Int).toNat) hC29 (by omega)
                                    have hy29 : y108.length = (x11_3 : Int).toNat := (by rw [Ny108.out, List.length_take]; omega)
                                    rw [← Ny108.out] at hr29
                                    rw [← hy29] at hcut29
                                    have HR111 := Aside0.mk hr29
                                    have HC111 := Aside0.mk (show y108.length ≤ co18 from by omega)
                                    clear hr29 hC29 hroom29 hi029 hsz29
                                    have KY29 := Aside0.mk hy29
                                    clear hy29
                                    have KL29 := Aside0.mk (show (x11_3 : Int).toNat ≤ x8_2.length from by omega)
                                    replace q29 := eq_true q29
                                    go_wp2_with (first | ((with_reducible refine gate_builtin (b := .append) (xs := #[.tmp 67, .tmp 70]) rfl ?_); at_builtin; refine Kd.R_append_rows k31 (w0 := w) w.heap.size rfl (.tmp 67) (.tmp 70) 24 31 (.agg #[(.string ⟨#[]⟩), (.int .i64 0)]) 24 rfl Try.underlying24 info31 rfl (by decide) (by omega) (.slice none 0 0) ([] : List (S31)) y108 _ _ _ (fun k_ => some k_ ≠ (.slice (some ad107) x8_2.length co18 : Value).ownBlock) (fun _ => False) rfl rfl ?aO ?aR (fun _ _ h => h) (fun _ h => h.elim) ?aF ?aB ?aS ?aL ?_; (case aR => repeat (first | exact (by repeat (first | (with_reducible exact HR111.out) | (with_reducible refine Kd.C_alloc ?_ _) | (with_reducible refine Kd.C_drewN ?_ _) | (with_reducible refine Kd.C_drew ?_) | exact HR111.out)) | (with_reducible refine Kd.C_alloc ?_ _) | (with_reducible refine Kd.C_drewN ?_ _) | (with_reducible refine Kd.C_drew ?_))); (case aB => exact (by repeat (first | (with_reducible first | exact HB.out | apply below_alloc | apply pw_below_drewN | apply below_drew1) | exact HB.out))); (case aF => exact (fun k_ hk => Kd.fresh' (Kd.R_lt (by (with_reducible repeat (first | apply Kd.R_alloc | apply Kd.R_drewN | apply Kd.R_drew)); exact HO_8.out)) k_ hk)); (case aO => exact ((Kd.R_nil _ _ _ _ (fun k_ => some k_ ≠ (.slice (some ad107) x8_2.length co18 : Value).ownBlock)))); (case aS => exact (below_size (by repeat (first | (with_reducible first | exact HB.out | apply below_alloc | apply pw_below_drewN | apply below_drew1) | exact HB.out)))); (case aL => have := LMc24.out; omega); intro v113 w30 ho hb hg hat; rw [← Ny112.out] at ho; have n0_ := Aside0.mk (Kd.R_after (Kd.R_apart_nil (by (with_reducible repeat (first | apply Kd.R_alloc | apply Kd.R_drewN | apply Kd.R_drew)); exact HO_8.out)) hg hat); have n1_ := Aside0.mk (hb); have n2_ := Aside0.mk ((show Kd.C k31 w30 (some ad107) y108.length y108 from by rw [Ny108.out]; exact Kd.C_take (m := (x11_3 : Int).toNat) ((Kd.R_reads' (Kd.R_after (Kd.R_apart_nil (by (with_reducible repeat (first | apply Kd.R_alloc | apply Kd.R_drewN | apply Kd.R_drew)); exact HO_8.out)) hg hat)).2.2) KL29.out)); have n3_ := Aside0.mk (ho); clear HO_8; clear HB; clear HR111; have HO_8 := n0_; have HB := n1_; have HR111 := n2_; have HO114 := n3_; clear n0_ n1_ n2_ n3_; clear ho hb hg hat) | ((with_reducible refine gate_builtin (b := .append) (xs := #[.tmp 72, .tmp 76]) rfl ?_); at_builtin; refine Kd.R_append k31 (w0 := w) w.heap.size rfl (.tmp 72) (.tmp 76) 24 31 (.agg #[(.string ⟨#[]⟩), (.int .i64 0)]) 24 rfl Try.underlying24 info31 rfl (by decide) (by omega) v113 y112 (⟨a1, a2⟩ : S31) [.string a1, .int .i64 a2] (fun k_ => some k_ ≠ (.slice (some ad107) x8_2.length co18 : Value).ownBlock) (fun _ => False) rfl rfl ?aP (fun _ hk => hk.elim) ?aF ?aO ?aB ?aS ?aL ?_; (case aP => exact k31_mkM _ _ _ (⟨a1, a2⟩ : S31)); (case aB => exact (by repeat (first | (with_reducible first | exact HB.out | apply below_alloc | apply pw_below_drewN | apply below_drew1) | exact HB.out))); (case aF => exact (fun k_ hk => Kd.fresh' (Kd.R_lt (by (with_reducible repeat (first | apply Kd.R_alloc | apply Kd.R_drewN | apply Kd.R_drew)); exact HO_8.out)) k_ hk)); (case aO => exact (by (with_reducible repeat (first | apply Kd.R_alloc | apply Kd.R_drewN | apply Kd.R_drew)); exact HO114.out)); (case aS => exact (below_size (by repeat (first | (with_reducible first | exact HB.out | apply below_alloc | apply pw_below_drewN | apply below_drew1) | exact HB.out)))); (case aL => have := LMc25.out; omega); intro v116 w31 ho hb hg hat; rw [← Ny115.out] at ho; have n0_ := Aside0.mk (Kd.R_after (ok := (fun _ => True)) (by (with_reducible repeat (first | apply Kd.R_alloc | apply Kd.R_drewN | apply Kd.R_drew)); exact HO_8.out) hg hat); have n1_ := Aside0.mk (hb); have n2_ := Aside0.mk ((show Kd.C k31 w31 (some ad107) y108.length y108 from by rw [Ny108.out]; exact Kd.C_take (m := (x11_3 : Int).toNat) ((Kd.R_reads' (Kd.R_after (ok := (fun _ => True)) (by (with_reducible repeat (first | apply Kd.R_alloc | apply Kd.R_drewN | apply Kd.R_drew)); exact HO_8.out) hg hat)).2.2) KL29.out)); have n3_ := Aside0.mk (ho); clear HO_8; clear HB; clear HR111; clear HO114; have HO_8 := n0_; have HB := n1_; have HR111 := n2_; have HO117 := n3_; clear n0_ n1_ n2_ n3_; clear ho hb hg hat; have q32 : (x11_3 : Int) ≤ ((x8_2.length : Int) : Int) := of_decide_eq_true (by first | (with_reducible assumption) | assumption); obtain ⟨i032, hi032, _, hsz32, _⟩ := info_parts info31; have hroom32 : x8_2.length ≤ co18 := (Kd.R_reads' HO_8.out).2.1; have hC32 : Kd.C k31 _ (some ad107) x8_2.length x8_2 := (Kd.R_reads' HO_8.out).2.2; have q032 : (0 : Int) ≤ (x11_3 : Int) := of_decide_eq_true (by first | (with_reducible assumption) | assumption); have hcut32 := cut_from (P := Try.prog) 24 31 .i64 Try.underlying24 hi032 2 hsz32 (some ad107) x8_2.length co18 x11_3 q032 q32; have hr32 := Kd.C_drop (m := (x11_3 : Int).toNat) (c := co18) hC32 (by omega) hroom32; obtain ⟨A32, hA32⟩ : ∃ A1, A1 = (if co18 = (x11_3 : Int).toNat then (some ad107) else ((some ad107) : Option Addr).map (·.add ((x11_3 : Int).toNat * 2))) := ⟨_, rfl⟩; obtain ⟨c32, hc32⟩ : ∃ c1, c1 = co18 - (x11_3 : Int).toNat := ⟨_, rfl⟩; have hy32 : y118.length = x8_2.length - (x11_3 : Int).toNat := (by rw [Ny118.out, List.length_drop] <;> omega); rw [show (x8_2).drop (x11_3 : Int).toNat = y118 from Ny118.out.symm] at hr32; replace hr32 : Kd.C k31 _ A32 y118.length y118 := (by rw [hA32]; exact hr32); rw [← hy32, ← hA32, ← hc32] at hcut32; have HR121 := Aside0.mk hr32; have HC121 := Aside0.mk (show y118.length ≤ c32 from by rw [hy32, hc32]; exact Nat.sub_le_sub_right hroom32 _); clear hr32 hC32 hroom32 hi032 hsz32 hc32; have KY32 := Aside0.mk hy32; have KA32 := Aside0.mk hA32; clear hy32 hA32; have KL32 := Aside0.mk (show (x11_3 : Int).toNat ≤ x8_2.length from by omega); replace q32 := eq_true q32) | ((with_reducible refine gate_builtin (b := .append) (xs := #[.tmp 78, .tmp 81]) rfl ?_); at_builtin; refine Kd.R_append_rows k31 (w0 := w) w.heap.size rfl (.tmp 78) (.tmp 81) 24 31 (.agg #[(.string ⟨#[]⟩), (.int .i64 0)]) 24 rfl Try.underlying24 info31 rfl (by decide) (by omega) v116 y115 y118 _ _ _ (fun k_ => some k_ ≠ (.slice (some ad107) x8_2.length co18 : Value).ownBlock) (fun _ => False) rfl rfl ?aO ?aR (fun _ _ h => h) (fun _ h => h.elim) ?aF ?aB ?aS ?aL ?_; (case aR => repeat (first | exact (by repeat (first | (with_reducible exact HR121.out) | (with_reducible refine Kd.C_alloc ?_ _) | (with_reducible refine Kd.C_drewN ?_ _) | (with_reducible refine Kd.C_drew ?_) | exact HR121.out)) | (with_reducible refine Kd.C_alloc ?_ _) | (with_reducible refine Kd.C_drewN ?_ _) | (with_reducible refine Kd.C_drew ?_))); (case aB => exact (by repeat (first | (with_reducible first | exact HB.out | apply below_alloc | apply pw_below_drewN | apply below_drew1) | exact HB.out))); (case aF => exact (fun k_ hk => Kd.fresh' (Kd.R_lt (by (with_reducible repeat (first | apply Kd.R_alloc | apply Kd.R_drewN | apply Kd.R_drew)); exact HO_8.out)) k_ hk)); (case aO => exact (by (with_reducible repeat (first | apply Kd.R_alloc | apply Kd.R_drewN | apply Kd.R_drew)); exact HO117.out)); (case aS => exact (below_size (by repeat (first | (with_reducible first | exact HB.out | apply below_alloc | apply pw_below_drewN | apply below_drew1) | exact HB.out)))); (case aL => have := LMc28.out; omega); intro v123 w33 ho hb hg hat; rw [← Ny122.out] at ho; have n0_ := Aside0.mk (Kd.R_after (ok := (fun _ => True)) (by (with_reducible repeat (first | apply Kd.R_alloc | apply Kd.R_drewN | apply Kd.R_drew)); exact HO_8.out) hg hat); have n1_ := Aside0.mk (hb); have n2_ := Aside0.mk ((show Kd.C k31 w33 (some ad107) y108.length y108 from by rw [Ny108.out]; exact Kd.C_take (m := (x11_3 : Int).toNat) ((Kd.R_reads' (Kd.R_after (ok := (fun _ => True)) (by (with_reducible repeat (first | apply Kd.R_alloc | apply Kd.R_drewN | apply Kd.R_drew)); exact HO_8.out) hg hat)).2.2) KL29.out)); have n3_ := Aside0.mk ((show Kd.C k31 w33 A32 y118.length y118 from by rw [Ny118.out, KA32.out]; exact Kd.C_drop (m := (x11_3 : Int).toNat) (c := co18) ((Kd.R_reads' (Kd.R_after (ok := (fun _ => True)) (by (with_reducible repeat (first | apply Kd.R_alloc | apply Kd.R_drewN | apply Kd.R_drew)); exact HO_8.out) hg hat)).2.2) KL32.out ((Kd.R_reads' (Kd.R_after (ok := (fun _ => True)) (by (with_reducible repeat (first | apply Kd.R_alloc | apply Kd.R_drewN | apply Kd.R_drew)); exact HO_8.out) hg hat)).2.1))); have n4_ := Aside0.mk (ho); clear HO_8; clear HB; clear HR111; clear HR121; clear HO117; have HO_8 := n0_; have HB := n1_; have HR111 := n2_; have HR121 := n3_; have HO124 := n4_; clear n0_ n1_ n2_ n3_ n4_; clear ho hb hg hat))
                                    go_ret2
                                    exact ⟨_, by first | rfl | (simp [errW_none, errW_some] <;> rfl) | (simp [*, errW_none, errW_some] <;> rfl), by (with_reducible repeat (first | apply Kd.R_alloc | apply Kd.R_drewN | apply Kd.R_drew)); exact Kd.R_mono HO124.out (fun _ hk => trivial), by repeat (first | (with_reducible first | exact HB.out | apply below_alloc | apply pw_below_drewN | apply below_drew1) | exact HB.out)⟩
                                  · rw [if_neg c28] at H
                                    exact absurd H (by simp)
                                · rw [if_neg c25] at H
                                  exact absurd H (by simp)
                              · rw [if_neg c24] at H
                                exact absurd H (by simp)
                            · rw [if_neg c23] at H
                              exact absurd H (by simp)
                        · rw [if_neg c20] at H
                          exact absurd H (by simp)
                      · rw [if_neg c19] at H
                        have c19b0 : decide (x11_3 < (x8_2.length : Int)) = false := decide_eq_false c19
                        clear c19
                        by_cases c34 : 0 ≤ x11_3
                        · rw [if_pos c34] at H
                          have c34b0 := eq_true c34
                          have c34b1 : decide (0 ≤ x11_3) = true := decide_eq_true c34
                          clear c34
                          by_cases c35 : x11_3 ≤ (x8_2.length : Int)
                          · rw [if_pos c35] at H
                            have c35b0 := eq_true c35
                            have c35b1 : decide (x11_3 ≤ (x8_2.length : Int)) = true := decide_eq_true c35
                            clear c35
                            obtain ⟨y125, hy125⟩ : ∃ y_ : List (S31), y_ = (x8_2.take (x11_3 : Int).toNat) := ⟨_, rfl⟩
                            replace H : (if ([] : List (S31)).length + y125.length < 5864062014805 then ((some (([] : List (S31)) ++ y125 : List (S31))).bind fun y129 => (if y129.length < 5864062014805 then ((some (y129 ++ [(⟨a1, a2⟩ : S31)] : List (S31))).bind fun y132 => ((some (x8_2.drop (x11_3 : Int).toNat : List (S31))).bind fun y135 => (if y132.length + y135.length < 5864062014805 then (some ((y132 ++ y135), 0)) else (none)))) else (none))) else (none)) = some (r1, r2) := by first | (rw [hy125]; with_reducible exact H) | (have H2_ := (Option.bind_some _ _).symm.trans H; rw [hy125]; with_reducible exact H2_) | (have H2_ := (Option.bind_some _ _).symm.trans H; with_reducible exact H2_) | with_reducible exact H | (rw [hy125]; exact H) | exact H
                            have Ny125 := Aside0.mk hy125
                            clear hy125
                            by_cases c36 : ([] : List (S31)).length + y125.length < 5864062014805
                            · rw [if_pos c36] at H
                              have LMc36 := Aside0.mk c36
                              clear c36
                              obtain ⟨y129, hy129⟩ : ∃ y_ : List (S31), y_ = (([] : List (S31)) ++ y125) := ⟨_, rfl⟩
                              replace H : (if y129.length < 5864062014805 then ((some (y129 ++ [(⟨a1, a2⟩ : S31)] : List (S31))).bind fun y132 => ((some (x8_2.drop (x11_3 : Int).toNat : List (S31))).bind fun y135 => (if y132.length + y135.length < 5864062014805 then (some ((y132 ++ y135), 0)) else (none)))) else (none)) = some (r1, r2) := by first | (rw [hy129]; with_reducible exact H) | (have H2_ := (Option.bind_some _ _).symm.trans H; rw [hy129]; with_reducible exact H2_) | (have H2_ := (Option.bind_some _ _).symm.trans H; with_reducible exact H2_) | with_reducible exact H | (rw [hy129]; exact H) | exact H
                              have Ny129 := Aside0.mk hy129
                              clear hy129
                              by_cases c37 : y129.length < 5864062014805
                              · rw [if_pos c37] at H
                                have LMc37 := Aside0.mk c37
                                clear c37
                                obtain ⟨y132, hy132⟩ : ∃ y_ : List (S31), y_ = (y129 ++ [(⟨a1, a2⟩ : S31)]) := ⟨_, rfl⟩
                                replace H : ((some (x8_2.drop (x11_3 : Int).toNat : List (S31))).bind fun y135 => (if y132.length + y135.length < 5864062014805 then (some ((y132 ++ y135), 0)) else (none))) = some (r1, r2) := by first | (rw [hy132]; with_reducible exact H) | (have H2_ := (Option.bind_some _ _).symm.trans H; rw [hy132]; with_reducible exact H2_) | (have H2_ := (Option.bind_some _ _).symm.trans H; with_reducible exact H2_) | with_reducible exact H | (rw [hy132]; exact H) | exact H
                                have Ny132 := Aside0.mk hy132
                                clear hy132
                                have c38b0 := eq_true (of_decide_eq_true (by first | (with_reducible assumption) | assumption) : 0 ≤ x11_3)
                                have c39b0 := eq_true (of_decide_eq_true (by first | (with_reducible assumption) | assumption) : x11_3 ≤ (x8_2.length : Int))
                                obtain ⟨y135, hy135⟩ : ∃ y_ : List (S31), y_ = (x8_2.drop (x11_3 : Int).toNat) := ⟨_, rfl⟩
                                replace H : (if y132.length + y135.length < 5864062014805 then (some ((y132 ++ y135), 0)) else (none)) = some (r1, r2) := by first | (rw [hy135]; with_reducible exact H) | (have H2_ := (Option.bind_some _ _).symm.trans H; rw [hy135]; with_reducible exact H2_) | (have H2_ := (Option.bind_some _ _).symm.trans H; with_reducible exact H2_) | with_reducible exact H | (rw [hy135]; exact H) | exact H
                                have Ny135 := Aside0.mk hy135
                                clear hy135
                                by_cases c40 : y132.length + y135.length < 5864062014805
                                · rw [if_pos c40] at H
                                  have LMc40 := Aside0.mk c40
                                  clear c40
                                  obtain ⟨y139, hy139⟩ : ∃ y_ : List (S31), y_ = (y132 ++ y135) := ⟨_, rfl⟩
                                  replace H : (some (y139, 0)) = some (r1, r2) := by first | (rw [hy139]; with_reducible exact H) | (have H2_ := (Option.bind_some _ _).symm.trans H; rw [hy139]; with_reducible exact H2_) | (have H2_ := (Option.bind_some _ _).symm.trans H; with_reducible exact H2_) | with_reducible exact H | (rw [hy139]; exact H) | exact H
                                  have Ny139 := Aside0.mk hy139
                                  clear hy139
                                  simp only [Option.some.injEq, Prod.mk.injEq] at H
                                  obtain ⟨rfl, rfl⟩ := H
                                  have q41 : (x11_3 : Int) ≤ ((x8_2.length : Int) : Int) := of_decide_eq_true (by first | (with_reducible assumption) | assumption)
                                  obtain ⟨i041, hi041, _, hsz41, _⟩ := info_parts info31
                                  have hroom41 : x8_2.length ≤ co18 := (Kd.R_reads' HO_8.out).2.1
                                  have hC41 : Kd.C k31 _ Ao18 x8_2.length x8_2 := (Kd.R_reads' HO_8.out).2.2
                                  have hcut41 := cut_to (P := Try.prog) 24 31 .i64 Try.underlying24 hi041 Ao18 x8_2.length co18 x11_3 (of_decide_eq_true (by first | (with_reducible assumption) | assumption)) q41 hroom41
                                  have hr41 := Kd.C_take (m := (x11_3 : Int).toNat) hC41 (by omega)
                                  have hy41 : y125.length = (x11_3 : Int).toNat := (by rw [Ny125.out, List.length_take]; omega)
                                  rw [← Ny125.out] at hr41
                                  rw [← hy41] at hcut41
                                  have HR128 := Aside0.mk hr41
                                  have HC128 := Aside0.mk (show y125.length ≤ co18 from by omega)
                                  clear hr41 hC41 hroom41 hi041 hsz41
                                  have KY41 := Aside0.mk hy41
                                  clear hy41
                                  have KL41 := Aside0.mk (show (x11_3 : Int).toNat ≤ x8_2.length from by omega)
                                  replace q41 := eq_true q41
                                  go_wp2_with (first | ((with_reducible refine gate_builtin (b := .append) (xs := #[.tmp 67, .tmp 70]) rfl ?_); at_builtin; refine Kd.R_append_rows k31 (w0 := w) w.heap.size rfl (.tmp 67) (.tmp 70) 24 31 (.agg #[(.string ⟨#[]⟩), (.int .i64 0)]) 24 rfl Try.underlying24 info31 rfl (by decide) (by omega) (.slice none 0 0) ([] : List (S31)) y125 _ _ _ (fun k_ => some k_ ≠ (.slice Ao18 x8_2.length co18 : Value).ownBlock) (fun _ => False) rfl rfl ?aO ?aR (fun _ _ h => h) (fun _ h => h.elim) ?aF ?aB ?aS ?aL ?_; (case aR => repeat (first | exact (by repeat (first | (with_reducible exact HR128.out) | (with_reducible refine Kd.C_alloc ?_ _) | (with_reducible refine Kd.C_drewN ?_ _) | (with_reducible refine Kd.C_drew ?_) | exact HR128.out)) | (with_reducible refine Kd.C_alloc ?_ _) | (with_reducible refine Kd.C_drewN ?_ _) | (with_reducible refine Kd.C_drew ?_))); (case aB => exact (by repeat (first | (with_reducible first | exact HB.out | apply below_alloc | apply pw_below_drewN | apply below_drew1) | exact HB.out))); (case aF => exact (fun k_ hk => Kd.fresh' (Kd.R_lt (by (with_reducible repeat (first | apply Kd.R_alloc | apply Kd.R_drewN | apply Kd.R_drew)); exact HO_8.out)) k_ hk)); (case aO => exact ((Kd.R_nil _ _ _ _ (fun k_ => some k_ ≠ (.slice Ao18 x8_2.length co18 : Value).ownBlock)))); (case aS => exact (below_size (by repeat (first | (with_reducible first | exact HB.out | apply below_alloc | apply pw_below_drewN | apply below_drew1) | exact HB.out)))); (case aL => have := LMc36.out; omega); intro v130 w42 ho hb hg hat; rw [← Ny129.out] at ho; have n0_ := Aside0.mk (Kd.R_after (Kd.R_apart_nil (by (with_reducible repeat (first | apply Kd.R_alloc | apply Kd.R_drewN | apply Kd.R_drew)); exact HO_8.out)) hg hat); have n1_ := Aside0.mk (hb); have n2_ := Aside0.mk ((show Kd.C k31 w42 Ao18 y125.length y125 from by rw [Ny125.out]; exact Kd.C_take (m := (x11_3 : Int).toNat) ((Kd.R_reads' (Kd.R_after (Kd.R_apart_nil (by (with_reducible repeat (first | apply Kd.R_alloc | apply Kd.R_drewN | apply Kd.R_drew)); exact HO_8.out)) hg hat)).2.2) KL41.out)); have n3_ := Aside0.mk (ho); clear HO_8; clear HB; clear HR128; have HO_8 := n0_; have HB := n1_; have HR128 := n2_; have HO131 := n3_; clear n0_ n1_ n2_ n3_; clear ho hb hg hat) | ((with_reducible refine gate_builtin (b := .append) (xs := #[.tmp 72, .tmp 76]) rfl ?_); at_builtin; refine Kd.R_append k31 (w0 := w) w.heap.size rfl (.tmp 72) (.tmp 76) 24 31 (.agg #[(.string ⟨#[]⟩), (.int .i64 0)]) 24 rfl Try.underlying24 info31 rfl (by decide) (by omega) v130 y129 (⟨a1, a2⟩ : S31) [.string a1, .int .i64 a2] (fun k_ => some k_ ≠ (.slice Ao18 x8_2.length co18 : Value).ownBlock) (fun _ => False) rfl rfl ?aP (fun _ hk => hk.elim) ?aF ?aO ?aB ?aS ?aL ?_; (case aP => exact k31_mkM _ _ _ (⟨a1, a2⟩ : S31)); (case aB => exact (by repeat (first | (with_reducible first | exact HB.out | apply below_alloc | apply pw_below_drewN | apply below_drew1) | exact HB.out))); (case aF => exact (fun k_ hk => Kd.fresh' (Kd.R_lt (by (with_reducible repeat (first | apply Kd.R_alloc | apply Kd.R_drewN | apply Kd.R_drew)); exact HO_8.out)) k_ hk)); (case aO => exact (by (with_reducible repeat (first | apply Kd.R_alloc | apply Kd.R_drewN | apply Kd.R_drew)); exact HO131.out)); (case aS => exact (below_size (by repeat (first | (with_reducible first | exact HB.out | apply below_alloc | apply pw_below_drewN | apply below_drew1) | exact HB.out)))); (case aL => have := LMc37.out; omega); intro v133 w43 ho hb hg hat; rw [← Ny132.out] at ho; have n0_ := Aside0.mk (Kd.R_after (ok := (fun _ => True)) (by (with_reducible repeat (first | apply Kd.R_alloc | apply Kd.R_drewN | apply Kd.R_drew)); exact HO_8.out) hg hat); have n1_ := Aside0.mk (hb); have n2_ := Aside0.mk ((show Kd.C k31 w43 Ao18 y125.length y125 from by rw [Ny125.out]; exact Kd.C_take (m := (x11_3 : Int).toNat) ((Kd.R_reads' (Kd.R_after (ok := (fun _ => True)) (by (with_reducible repeat (first | apply Kd.R_alloc | apply Kd.R_drewN | apply Kd.R_drew)); exact HO_8.out) hg hat)).2.2) KL41.out)); have n3_ := Aside0.mk (ho); clear HO_8; clear HB; clear HR128; clear HO131; have HO_8 := n0_; have HB := n1_; have HR128 := n2_; have HO134 := n3_; clear n0_ n1_ n2_ n3_; clear ho hb hg hat; have q44 : (x11_3 : Int) ≤ ((x8_2.length : Int) : Int) := of_decide_eq_true (by first | (with_reducible assumption) | assumption); obtain ⟨i044, hi044, _, hsz44, _⟩ := info_parts info31; have hroom44 : x8_2.length ≤ co18 := (Kd.R_reads' HO_8.out).2.1; have hC44 : Kd.C k31 _ Ao18 x8_2.length x8_2 := (Kd.R_reads' HO_8.out).2.2; have q044 : (0 : Int) ≤ (x11_3 : Int) := of_decide_eq_true (by first | (with_reducible assumption) | assumption); have hcut44 := cut_from (P := Try.prog) 24 31 .i64 Try.underlying24 hi044 2 hsz44 Ao18 x8_2.length co18 x11_3 q044 q44; have hr44 := Kd.C_drop (m := (x11_3 : Int).toNat) (c := co18) hC44 (by omega) hroom44; obtain ⟨A44, hA44⟩ : ∃ A1, A1 = (if co18 = (x11_3 : Int).toNat then Ao18 else (Ao18 : Option Addr).map (·.add ((x11_3 : Int).toNat * 2))) := ⟨_, rfl⟩; obtain ⟨c44, hc44⟩ : ∃ c1, c1 = co18 - (x11_3 : Int).toNat := ⟨_, rfl⟩; have hy44 : y135.length = x8_2.length - (x11_3 : Int).toNat := (by rw [Ny135.out, List.length_drop] <;> omega); rw [show (x8_2).drop (x11_3 : Int).toNat = y135 from Ny135.out.symm] at hr44; replace hr44 : Kd.C k31 _ A44 y135.length y135 := (by rw [hA44]; exact hr44); rw [← hy44, ← hA44, ← hc44] at hcut44; have HR138 := Aside0.mk hr44; have HC138 := Aside0.mk (show y135.length ≤ c44 from by rw [hy44, hc44]; exact Nat.sub_le_sub_right hroom44 _); clear hr44 hC44 hroom44 hi044 hsz44 hc44; have KY44 := Aside0.mk hy44; have KA44 := Aside0.mk hA44; clear hy44 hA44; have KL44 := Aside0.mk (show (x11_3 : Int).toNat ≤ x8_2.length from by omega); replace q44 := eq_true q44) | ((with_reducible refine gate_builtin (b := .append) (xs := #[.tmp 78, .tmp 81]) rfl ?_); at_builtin; refine Kd.R_append_rows k31 (w0 := w) w.heap.size rfl (.tmp 78) (.tmp 81) 24 31 (.agg #[(.string ⟨#[]⟩), (.int .i64 0)]) 24 rfl Try.underlying24 info31 rfl (by decide) (by omega) v133 y132 y135 _ _ _ (fun k_ => some k_ ≠ (.slice Ao18 x8_2.length co18 : Value).ownBlock) (fun _ => False) rfl rfl ?aO ?aR (fun _ _ h => h) (fun _ h => h.elim) ?aF ?aB ?aS ?aL ?_; (case aR => repeat (first | exact (by repeat (first | (with_reducible exact HR138.out) | (with_reducible refine Kd.C_alloc ?_ _) | (with_reducible refine Kd.C_drewN ?_ _) | (with_reducible refine Kd.C_drew ?_) | exact HR138.out)) | (with_reducible refine Kd.C_alloc ?_ _) | (with_reducible refine Kd.C_drewN ?_ _) | (with_reducible refine Kd.C_drew ?_))); (case aB => exact (by repeat (first | (with_reducible first | exact HB.out | apply below_alloc | apply pw_below_drewN | apply below_drew1) | exact HB.out))); (case aF => exact (fun k_ hk => Kd.fresh' (Kd.R_lt (by (with_reducible repeat (first | apply Kd.R_alloc | apply Kd.R_drewN | apply Kd.R_drew)); exact HO_8.out)) k_ hk)); (case aO => exact (by (with_reducible repeat (first | apply Kd.R_alloc | apply Kd.R_drewN | apply Kd.R_drew)); exact HO134.out)); (case aS => exact (below_size (by repeat (first | (with_reducible first | exact HB.out | apply below_alloc | apply pw_below_drewN | apply below_drew1) | exact HB.out)))); (case aL => have := LMc40.out; omega); intro v140 w45 ho hb hg hat; rw [← Ny139.out] at ho; have n0_ := Aside0.mk (Kd.R_after (ok := (fun _ => True)) (by (with_reducible repeat (first | apply Kd.R_alloc | apply Kd.R_drewN | apply Kd.R_drew)); exact HO_8.out) hg hat); have n1_ := Aside0.mk (hb); have n2_ := Aside0.mk ((show Kd.C k31 w45 Ao18 y125.length y125 from by rw [Ny125.out]; exact Kd.C_take (m := (x11_3 : Int).toNat) ((Kd.R_reads' (Kd.R_after (ok := (fun _ => True)) (by (with_reducible repeat (first | apply Kd.R_alloc | apply Kd.R_drewN | apply Kd.R_drew)); exact HO_8.out) hg hat)).2.2) KL41.out)); have n3_ := Aside0.mk ((show Kd.C k31 w45 A44 y135.length y135 from by rw [Ny135.out, KA44.out]; exact Kd.C_drop (m := (x11_3 : Int).toNat) (c := co18) ((Kd.R_reads' (Kd.R_after (ok := (fun _ => True)) (by (with_reducible repeat (first | apply Kd.R_alloc | apply Kd.R_drewN | apply Kd.R_drew)); exact HO_8.out) hg hat)).2.2) KL44.out ((Kd.R_reads' (Kd.R_after (ok := (fun _ => True)) (by (with_reducible repeat (first | apply Kd.R_alloc | apply Kd.R_drewN | apply Kd.R_drew)); exact HO_8.out) hg hat)).2.1))); have n4_ := Aside0.mk (ho); clear HO_8; clear HB; clear HR128; clear HR138; clear HO134; have HO_8 := n0_; have HB := n1_; have HR128 := n2_; have HR138 := n3_; have HO141 := n4_; clear n0_ n1_ n2_ n3_ n4_; clear ho hb hg hat))
                                  go_ret2
                                  exact ⟨_, by first | rfl | (simp [errW_none, errW_some] <;> rfl) | (simp [*, errW_none, errW_some] <;> rfl), by (with_reducible repeat (first | apply Kd.R_alloc | apply Kd.R_drewN | apply Kd.R_drew)); exact Kd.R_mono HO141.out (fun _ hk => trivial), by repeat (first | (with_reducible first | exact HB.out | apply below_alloc | apply pw_below_drewN | apply below_drew1) | exact HB.out)⟩
                                · rw [if_neg c40] at H
                                  exact absurd H (by simp)
                              · rw [if_neg c37] at H
                                exact absurd H (by simp)
                            · rw [if_neg c36] at H
                              exact absurd H (by simp)
                          · rw [if_neg c35] at H
                            exact absurd H (by simp)
                        · rw [if_neg c34] at H
                          exact absurd H (by simp)

end Go.Proofs.Ytinbhijeonghaaa.X
