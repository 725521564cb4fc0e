/- Written by a program of this session over the kit's print: YtcjkekdmmjfgeaaF12. -/
import Derived.Test.YtcjkekdmmjfgeaaH
import Derived.Test.YtcjkekdmmjfgeaaF31
import Derived.Test.YtcjkekdmmjfgeaaF32
import Derived.Test.YtcjkekdmmjfgeaaF33
import Derived.Test.YtcjkekdmmjfgeaaF38
import Derived.Test.YtcjkekdmmjfgeaaF41
namespace Go.Proofs.Ytcjkekdmmjfgeaa.X
open Go.RowKit Go.Proofs.YtcjkekdmmjfgeaaW.PrintWords Go.Proofs.YtcjkekdmmjfgeaaW.PrintLast Go.Proofs.YtcjkekdmmjfgeaaW.PrintMore Go.Proofs.Ytcjkekdmmjfgeaa.More
attribute [local go_sem] max2_int min2_int max_two min_two max_three min_three max_four min_four binOp_string_leq binOp_string_gtr   -- for this text's walks alone
set_option linter.unusedVariables false
set_option linter.unusedSimpArgs false

/-! ### donjonlaw9_UserOrder: function 12 -/
mutual
def donjonlaw9_UserOrder.l0 : Nat → Int → Int → List (S58) → Int → Option (Bool)
  | 0, _, _, _, _ => none
  | k + 1, x1, x2, x7, x8 => if x8 < x2 then ((some (([(wrap64 (97 + x8)) % 256] : List Int) : List Int)).bind fun y107 => (if 1 + (strOfNums y107).size ≤ 9223372036854775807 then ((donjonlaw4_Good.f 0 0 0 0).bind fun bt110 => (if x7.length < 1954687338268 then (donjonlaw9_UserOrder.l0 k x1 x2 (x7 ++ [(⟨(⟨#[120]⟩ : ByteArray) ++ (strOfNums y107), 0, 0, (⟨bt110.1, bt110.2.1, bt110.2.2.1, bt110.2.2.2⟩ : S54), false⟩ : S58)]) (wrap64 (x8 + 1))) else (none))) else (none))) else ((user_Check.f k x7).bind fun t117 => (if ((t117 == 0) != (decide ((x7.length : Int) ≤ 16))) = true then (some false) else (if (x7.length : Int) < 2 then (donjonlaw9_UserOrder.j1 k x1 x7 true) else (donjonlaw9_UserOrder.j1 k x1 x7 (decide ((x7.length : Int) > 16))))))
def donjonlaw9_UserOrder.j1 : Nat → Int → List (S58) → Bool → Option (Bool)
  | 0, _, _, _ => none
  | k + 1, x1, x7, x52 => if x52 = true then (some true) else ((donjonlaw9_within.f x1 (wrap64 ((x7.length : Int) - 1))).bind fun t118 => ((some (([] : List (S58)) : List (S58))).bind fun y119 => (if y119.length + x7.length < 1954687338268 then ((some (y119 ++ x7 : List (S58))).bind fun y122 => (if 0 ≤ (wrap64 (t118 + 1)) then (if (wrap64 (t118 + 1)) < (y122.length : Int) then (if 0 ≤ t118 then (if t118 < (y122.length : Int) then ((some (([] : List (S58)) : List (S58))).bind fun y129 => (if y129.length + x7.length < 1954687338268 then ((some (y129 ++ x7 : List (S58))).bind fun y132 => (if t118 < (y132.length : Int) then (if (wrap64 (t118 + 1)) < (y132.length : Int) then ((user_Check.f k ((y122.set (t118 : Int).toNat (⟨(rd_T58 y122 (wrap64 (t118 + 1))).f0, (rd_T58 y122 (wrap64 (t118 + 1))).f1, (rd_T58 y122 (wrap64 (t118 + 1))).f2, (⟨(rd_T58 y122 (wrap64 (t118 + 1))).f3.f0, (rd_T58 y122 (wrap64 (t118 + 1))).f3.f1, (rd_T58 y122 (wrap64 (t118 + 1))).f3.f2, (rd_T58 y122 (wrap64 (t118 + 1))).f3.f3⟩ : S54), (rd_T58 y122 (wrap64 (t118 + 1))).f4⟩ : S58)).set ((wrap64 (t118 + 1)) : Int).toNat (⟨(rd_T58 y122 t118).f0, (rd_T58 y122 t118).f1, (rd_T58 y122 t118).f2, (⟨(rd_T58 y122 t118).f3.f0, (rd_T58 y122 t118).f3.f1, (rd_T58 y122 t118).f3.f2, (rd_T58 y122 t118).f3.f3⟩ : S54), (rd_T58 y122 t118).f4⟩ : S58))).bind fun t137 => (if t137 = 1 then ((user_Check.f k (y132.set ((wrap64 (t118 + 1)) : Int).toNat (⟨(rd_T58 y132 t118).f0, (rd_T58 y132 (wrap64 (t118 + 1))).f1, (rd_T58 y132 (wrap64 (t118 + 1))).f2, (⟨(rd_T58 y132 (wrap64 (t118 + 1))).f3.f0, (rd_T58 y132 (wrap64 (t118 + 1))).f3.f1, (rd_T58 y132 (wrap64 (t118 + 1))).f3.f2, (rd_T58 y132 (wrap64 (t118 + 1))).f3.f3⟩ : S54), (rd_T58 y132 (wrap64 (t118 + 1))).f4⟩ : S58))).bind fun t138 => (some (t138 == 1))) else (some false))) else (none)) else (none))) else (none))) else (none)) else (none)) else (none)) else (none))) else (none))))
end
def donjonlaw9_UserOrder.f (k : Nat) (l0 : List (S54)) (a1 : Int) (a2 : Int) : Option (Bool) := (donjonlaw9_known.f k).bind fun t101 => (if t101 = true then ((donjonlaw9_Some.f k l0).bind fun t102 => ((user_Check.f k t102).bind fun t105 => (if t105 = 0 then ((donjonlaw9_within.f a2 20).bind fun t106 => (donjonlaw9_UserOrder.l0 k a1 t106 t102 0)) else (some false)))) else (some false))
theorem donjonlaw9_UserOrder.mono_l : ∀ k, (∀ y0 y1 y2 y3, LeO (donjonlaw9_UserOrder.l0 k y0 y1 y2 y3) (donjonlaw9_UserOrder.l0 (k + 1) y0 y1 y2 y3)) ∧ (∀ y0 y1 y2, LeO (donjonlaw9_UserOrder.j1 k y0 y1 y2) (donjonlaw9_UserOrder.j1 (k + 1) y0 y1 y2))
  | 0 => ⟨fun _ _ _ _ r h => by simp [donjonlaw9_UserOrder.l0] at h, fun _ _ _ r h => by simp [donjonlaw9_UserOrder.j1] at h⟩
  | k + 1 => by
    obtain ⟨ih0, ih1⟩ := donjonlaw9_UserOrder.mono_l k
    refine ⟨?_, ?_⟩
    · intro y0 y1 y2 y3
      unfold donjonlaw9_UserOrder.l0
      repeat' first
      | (with_reducible exact ih0 _ _ _ _)
      | (with_reducible exact ih1 _ _ _)
      | (with_reducible exact donjonlaw9_Some.mono _ _)
      | (with_reducible exact donjonlaw9_known.mono _)
      | (with_reducible exact user_Check.mono _ _)
      | (with_reducible exact LeO.refl _)
      | (with_reducible exact LeO.none _)
      | (with_reducible refine LeO.ite ?_ ?_)
      | (with_reducible refine LeO.bind ?_ (fun _ => ?_))
      | exact ih0 _ _ _ _
      | exact ih1 _ _ _
      | exact donjonlaw9_Some.mono _ _
      | exact donjonlaw9_known.mono _
      | exact user_Check.mono _ _
      | exact LeO.none _
      | refine LeO.ite ?_ ?_
      | refine LeO.bind ?_ (fun _ => ?_)
    · intro y0 y1 y2
      unfold donjonlaw9_UserOrder.j1
      repeat' first
      | (with_reducible exact ih0 _ _ _ _)
      | (with_reducible exact ih1 _ _ _)
      | (with_reducible exact donjonlaw9_Some.mono _ _)
      | (with_reducible exact donjonlaw9_known.mono _)
      | (with_reducible exact user_Check.mono _ _)
      | (with_reducible exact LeO.refl _)
      | (with_reducible exact LeO.none _)
      | (with_reducible refine LeO.ite ?_ ?_)
      | (with_reducible refine LeO.bind ?_ (fun _ => ?_))
      | exact ih0 _ _ _ _
      | exact ih1 _ _ _
      | exact donjonlaw9_Some.mono _ _
      | exact donjonlaw9_known.mono _
      | exact user_Check.mono _ _
      | exact LeO.none _
      | refine LeO.ite ?_ ?_
      | refine LeO.bind ?_ (fun _ => ?_)
theorem donjonlaw9_UserOrder.mono : ∀ a0 a1 a2 k, LeO (donjonlaw9_UserOrder.f k a0 a1 a2) (donjonlaw9_UserOrder.f (k + 1) a0 a1 a2) := by
  intro a0 a1 a2 k
  obtain ⟨ih0, ih1⟩ := donjonlaw9_UserOrder.mono_l k
  unfold donjonlaw9_UserOrder.f
  repeat' first
      | (with_reducible exact ih0 _ _ _ _)
      | (with_reducible exact ih1 _ _ _)
      | (with_reducible exact donjonlaw9_Some.mono _ _)
      | (with_reducible exact donjonlaw9_known.mono _)
      | (with_reducible exact user_Check.mono _ _)
      | (with_reducible exact LeO.refl _)
      | (with_reducible exact LeO.none _)
      | (with_reducible refine LeO.ite ?_ ?_)
      | (with_reducible refine LeO.bind ?_ (fun _ => ?_))
      | exact ih0 _ _ _ _
      | exact ih1 _ _ _
      | exact donjonlaw9_Some.mono _ _
      | exact donjonlaw9_known.mono _
      | exact user_Check.mono _ _
      | exact LeO.none _
      | refine LeO.ite ?_ ?_
      | refine LeO.bind ?_ (fun _ => ?_)
def donjonlaw9_UserOrder.T10 : Bool × List (List Nat × List Nat) := (true, [([], []), ([], []), ([1], [1]), ([2], [2]), ([3], [3]), ([4], [4]), ([5], [5]), ([], []), ([7], [7]), ([6, 8], [6, 8]), ([9], [9]), ([0, 10, 8], [0, 10]), ([11, 11, 0, 1, 2, 3, 4, 5, 6, 7, 8, 9, 10, 11], [0, 11])])
def donjonlaw9_UserOrder.B10 : List Nat := [0, 0, 2, 6, 14, 30, 62, 0, 128, 510, 1022, 2047, 4095]
theorem donjonlaw9_UserOrder.tab10 : rtab .any (opsOf Try.f12 10) = donjonlaw9_UserOrder.T10 := by kernel_rfl
theorem donjonlaw9_UserOrder.bits10 : waitsOk donjonlaw9_UserOrder.T10.2 donjonlaw9_UserOrder.B10 = true := by kernel_rfl
def donjonlaw9_UserOrder.T17 : Bool × List (List Nat × List Nat) := (true, [([], []), ([], []), ([], []), ([], []), ([3], [3]), ([], []), ([], []), ([6], [6]), ([5, 7], [5, 7]), ([8], [8]), ([], []), ([], []), ([10, 11], [10, 11]), ([12], [12]), ([0, 1, 0, 1, 5, 6, 7, 8, 9, 13], [0, 1]), ([14, 9, 0, 1, 5, 6, 7, 8, 9, 13], [9, 14]), ([2, 4, 0, 1, 2, 3, 4, 5, 6, 7, 8, 9, 10, 11, 12, 13, 14, 15], [2, 4]), ([16, 13, 15, 0, 1, 2, 3, 4, 5, 6, 7, 8, 9, 10, 11, 12, 13, 14, 15], [13, 16])])
def donjonlaw9_UserOrder.B17 : List Nat := [0, 0, 0, 0, 8, 0, 0, 64, 224, 480, 0, 0, 3072, 7168, 16355, 32739, 65535, 131071]
theorem donjonlaw9_UserOrder.tab17 : rtab .any (opsOf Try.f12 17) = donjonlaw9_UserOrder.T17 := by kernel_rfl
theorem donjonlaw9_UserOrder.bits17 : waitsOk donjonlaw9_UserOrder.T17.2 donjonlaw9_UserOrder.B17 = true := by kernel_rfl
set_option maxHeartbeats 8000000 in
set_option maxRecDepth 100000 in
theorem donjonlaw9_UserOrder.calls (k : Nat) (A0 : Option Addr) (c0 : Nat) (l0 : List (S54)) (a1 : Int) (a2 : Int) (r : Bool) (w : World) (hrt0 : r = true) (hr0 : Kd.C k54 w A0 l0.length l0) (hc0 : l0.length ≤ c0) (h : donjonlaw9_UserOrder.f k l0 a1 a2 = some r) :
    Calls Try.prog 12 #[.slice A0 l0.length c0, .int .i64 a1, .int .i64 a2] w fun e w' => e = .returned (.bool r) ∧ Below w.heap.size w w' := by
  have HRT := Aside0.mk hrt0
  clear hrt0
  have hu54 := Try.underlying54
  have hu58 := Try.underlying58
  have HR0 := Aside0.mk hr0
  have HC0 := Aside0.mk hc0
  clear hr0 hc0
  have HB := Aside0.mk (Below.refl w.heap.size w)
  have H : ((donjonlaw9_known.f k).bind fun t101 => (if t101 = true then ((donjonlaw9_Some.f k l0).bind fun t102 => ((user_Check.f k t102).bind fun t105 => (if t105 = 0 then ((donjonlaw9_within.f a2 20).bind fun t106 => (donjonlaw9_UserOrder.l0 k a1 t106 t102 0)) else (some false)))) else (some false))) = some r := h
  clear h
  replace H := Option.bind_eq_some_iff.mp H
  obtain ⟨t101, A40, H⟩ := H
  replace H : (if t101 = true then ((donjonlaw9_Some.f k l0).bind fun t102 => ((user_Check.f k t102).bind fun t105 => (if t105 = 0 then ((donjonlaw9_within.f a2 20).bind fun t106 => (donjonlaw9_UserOrder.l0 k a1 t106 t102 0)) else (some false)))) else (some false)) = some r := H
  have A4 := Aside0.mk A40
  clear A40
  by_cases c5 : t101 = true
  · subst c5
    have H1 : ((donjonlaw9_Some.f k l0).bind fun t102 => ((user_Check.f k t102).bind fun t105 => (if t105 = 0 then ((donjonlaw9_within.f a2 20).bind fun t106 => (donjonlaw9_UserOrder.l0 k a1 t106 t102 0)) else (some false)))) = some r := by rw [if_pos rfl] at H; exact H
    clear H
    have H := H1
    clear H1
    replace H := Option.bind_eq_some_iff.mp H
    obtain ⟨t102, A60, H⟩ := H
    replace H : ((user_Check.f k t102).bind fun t105 => (if t105 = 0 then ((donjonlaw9_within.f a2 20).bind fun t106 => (donjonlaw9_UserOrder.l0 k a1 t106 t102 0)) else (some false))) = some r := H
    have A6 := Aside0.mk A60
    clear A60
    replace H := Option.bind_eq_some_iff.mp H
    obtain ⟨t105, A70, H⟩ := H
    replace H : (if t105 = 0 then ((donjonlaw9_within.f a2 20).bind fun t106 => (donjonlaw9_UserOrder.l0 k a1 t106 t102 0)) else (some false)) = some r := H
    have A7 := Aside0.mk A70
    clear A70
    by_cases c8 : t105 = 0
    · rw [if_pos c8] at H
      have c8b0 : (t105 == 0) = true := beq_iff_eq.mpr c8
      have c8b1 : (t105 != 0) = false := bne_eq_false_iff_eq.mpr c8
      clear c8
      replace H := Option.bind_eq_some_iff.mp H
      obtain ⟨t106, A90, H⟩ := H
      replace H : (donjonlaw9_UserOrder.l0 k a1 t106 t102 0) = some r := H
      have A9 := Aside0.mk A90
      clear A90
      have H' := Aside0.mk H
      clear H
      go_enter Try.func12, Try.ntmps12
      go_wp2_with (first | ((with_reducible refine gate_callee (f := 31) rfl ?_); refine goesL_ (some 12) rfl rfl Try.func31 (by kernel_rfl) rfl #[] rfl (by (try simp only [List.map_toArray, List.map_cons, List.map_nil]); first | done | rfl | (simp only [List.length_drop, List.length_take]; rfl)) ?_; (with_reducible refine (donjonlaw9_known.calls k  true _ A4.out).mono ?_); rintro e w10 ⟨rfl, hb⟩; refine ⟨_, rfl, ?_⟩; have n0_ := Aside0.mk (below_step (by repeat (first | (with_reducible first | exact HB.out | apply below_alloc | apply pw_below_drewN | apply below_drew1) | exact HB.out)) hb); clear HB; have HB := n0_; clear n0_; (try clear hb); (try clear hb2); (try clear hk); (try clear hi)) | ((with_reducible refine gate_callee (f := 32) rfl ?_); refine goesL_ (some 15) rfl rfl Try.func32 (by kernel_rfl) rfl #[.slice A0 l0.length c0] rfl (by (try simp only [List.map_toArray, List.map_cons, List.map_nil]); first | done | rfl | (simp only [List.length_drop, List.length_take]; rfl)) ?_; (with_reducible refine (donjonlaw9_Some.calls k _ _ l0 t102 _ ?side1 ?side2 A6.out).mono ?_); (case side1 => repeat (first | exact (Kd.C_below HR0.out HB.out) | (with_reducible refine Kd.C_alloc ?_ _) | (with_reducible refine Kd.C_drewN ?_ _) | (with_reducible refine Kd.C_drew ?_))); (case side2 => exact HC0.out); rintro e w11 ⟨v103, rfl, ho0, hb⟩; refine ⟨_, rfl, ?_⟩; have n0_ := Aside0.mk (Kd.R_lower ho0 (below_size (by repeat (first | (with_reducible first | exact HB.out | apply below_alloc | apply pw_below_drewN | apply below_drew1) | exact HB.out)))); have n1_ := Aside0.mk (below_step (by repeat (first | (with_reducible first | exact HB.out | apply below_alloc | apply pw_below_drewN | apply below_drew1) | exact HB.out)) hb); clear HB; have HO104 := n0_; have HB := n1_; clear n0_ n1_; (try clear hb); (try clear hb2); (try clear hk); (try clear hi); (try clear ho0); obtain ⟨Ao12, co12, eo12⟩ := Kd.R_slice HO104.out; subst eo12) | ((with_reducible refine gate_callee (f := 38) rfl ?_); refine goesL_ (some 17) rfl rfl Try.func38 (by kernel_rfl) rfl #[.slice Ao12 t102.length co12] rfl (by (try simp only [List.map_toArray, List.map_cons, List.map_nil]); first | done | rfl | (simp only [List.length_drop, List.length_take]; rfl)) ?_; (with_reducible refine (user_Check.calls k _ _ t102 t105 _ ?side1 ?side2 A7.out).mono ?_); (case side1 => repeat (first | exact (Kd.R_reads' HO104.out).2.2 | (with_reducible refine Kd.C_alloc ?_ _) | (with_reducible refine Kd.C_drewN ?_ _) | (with_reducible refine Kd.C_drew ?_))); (case side2 => exact (Kd.R_reads' HO104.out).2.1); rintro e w13 ⟨rfl, hb⟩; refine ⟨_, rfl, ?_⟩; have n0_ := Aside0.mk (Kd.R_below (by (with_reducible repeat (first | apply Kd.R_alloc | apply Kd.R_drewN | apply Kd.R_drew)); exact HO104.out) hb); have n1_ := Aside0.mk (below_step (by repeat (first | (with_reducible first | exact HB.out | apply below_alloc | apply pw_below_drewN | apply below_drew1) | exact HB.out)) hb); clear HO104; clear HB; have HO104 := n0_; have HB := n1_; clear n0_ n1_; (try clear hb); (try clear hb2); (try clear hk); (try clear hi)) | ((with_reducible refine gate_callee (f := 41) rfl ?_); refine goesL_ (some 20) rfl rfl Try.func41 (by kernel_rfl) rfl #[.int .i64 a2, .int .i64 20] rfl (by (try simp only [List.map_toArray, List.map_cons, List.map_nil]); first | done | rfl | (simp only [List.length_drop, List.length_take]; rfl)) ?_; (with_reducible refine (donjonlaw9_within.calls a2 20 t106 _ A9.out).mono ?_); rintro e w' ⟨rfl, ⟨nd, rfl⟩⟩; refine ⟨_, rfl, ?_⟩))
      go_loopg [7, 8] k (fun kq v7 v8 w' => ∃ (x7_1 : List (S58)) (x8_1 : Int), v8 = .int .i64 x8_1 ∧ Aside0 (donjonlaw9_UserOrder.l0 kq a1 t106 x7_1 x8_1 = some r) ∧ Aside0 (kq ≤ k) ∧ Aside0 (Kd.R k58 58 w' w.heap.size (fun _ => True) v7 x7_1) ∧ Aside0 (Below w.heap.size w w'))
      case atStart => exact ⟨(t102), (0), (by first | rfl | (simp; done) | (simp [*]; done)), H', ⟨Nat.le_refl _⟩, ⟨by (with_reducible repeat (first | apply Kd.R_alloc | apply Kd.R_drewN | apply Kd.R_drew)); exact HO104.out⟩, ⟨by repeat (first | (with_reducible first | exact HB.out | apply below_alloc | apply pw_below_drewN | apply below_drew1) | exact HB.out)⟩⟩
      case round =>
        clear H'
        try clear c1
        try clear p2
        try clear c3
        try clear c4
        try clear c5
        try clear c8
        try clear c8b0
        try clear c8b1
        try clear c12
        obtain ⟨x7_1, x8_1, rfl, HA, HK1, HO_7, HB⟩ := hrel
        cases gk with
        | zero => exact absurd HA.out (by simp [donjonlaw9_UserOrder.l0])
        | succ k1 =>
          have H := HA.out
          clear HA
          simp only [donjonlaw9_UserOrder.l0] at H
          by_cases c14 : x8_1 < t106
          · rw [if_pos c14] at H
            have c14b0 : decide (x8_1 < t106) = true := decide_eq_true c14
            clear c14
            obtain ⟨y107, hy107⟩ : ∃ y_ : List Int, y_ = (([(wrap64 (97 + x8_1)) % 256] : List Int)) := ⟨_, rfl⟩
            replace H : (if 1 + (strOfNums y107).size ≤ 9223372036854775807 then ((donjonlaw4_Good.f 0 0 0 0).bind fun bt110 => (if x7_1.length < 1954687338268 then (donjonlaw9_UserOrder.l0 k1 a1 t106 (x7_1 ++ [(⟨(⟨#[120]⟩ : ByteArray) ++ (strOfNums y107), 0, 0, (⟨bt110.1, bt110.2.1, bt110.2.2.1, bt110.2.2.2⟩ : S54), false⟩ : S58)]) (wrap64 (x8_1 + 1))) else (none))) else (none)) = some r := by first | (rw [hy107]; with_reducible exact H) | (have H2_ := (Option.bind_some _ _).symm.trans H; rw [hy107]; with_reducible exact H2_) | (have H2_ := (Option.bind_some _ _).symm.trans H; with_reducible exact H2_) | with_reducible exact H | (rw [hy107]; exact H) | exact H
            have Ny107 := Aside0.mk hy107
            clear hy107
            by_cases c15 : 1 + (strOfNums y107).size ≤ 9223372036854775807
            · rw [if_pos c15] at H
              have c15b0 := eq_true c15
              have c15b1 : decide (1 + (strOfNums y107).size ≤ 9223372036854775807) = true := decide_eq_true c15
              try have c15b2 : (9223372036854775807 < 1 + (strOfNums y107).size) = False := eq_false (Nat.not_lt.2 c15)
              replace H := Option.bind_eq_some_iff.mp H
              obtain ⟨⟨t110, t111, t112, t113⟩, A160, H⟩ := H
              replace H : (if x7_1.length < 1954687338268 then (donjonlaw9_UserOrder.l0 k1 a1 t106 (x7_1 ++ [(⟨(⟨#[120]⟩ : ByteArray) ++ (strOfNums y107), 0, 0, (⟨t110, t111, t112, t113⟩ : S54), false⟩ : S58)]) (wrap64 (x8_1 + 1))) else (none)) = some r := H
              have A16 := Aside0.mk A160
              clear A160
              by_cases c17 : x7_1.length < 1954687338268
              · rw [if_pos c17] at H
                have LMc17 := Aside0.mk c17
                clear c17
                obtain ⟨y114, hy114⟩ : ∃ y_ : List (S58), y_ = (x7_1 ++ [(⟨(⟨#[120]⟩ : ByteArray) ++ (strOfNums y107), 0, 0, (⟨t110, t111, t112, t113⟩ : S54), false⟩ : S58)]) := ⟨_, rfl⟩
                replace H : (donjonlaw9_UserOrder.l0 k1 a1 t106 y114 (wrap64 (x8_1 + 1))) = some r := by first | (rw [hy114]; with_reducible exact H) | (have H2_ := (Option.bind_some _ _).symm.trans H; rw [hy114]; with_reducible exact H2_) | (have H2_ := (Option.bind_some _ _).symm.trans H; with_reducible exact H2_) | with_reducible exact H | (rw [hy114]; exact H) | exact H
                have Ny114 := Aside0.mk hy114
                clear hy114
                have H' := Aside0.mk H
                clear H
                obtain ⟨Ao18, co18, eo18⟩ := Kd.R_slice HO_7.out
                subst eo18
                try go_wp2
                have n0_ := Aside0.mk (Kd.R_drew HO_7.out)
                have n1_ := Aside0.mk (below_drew1 HB.out)
                clear HO_7
                clear HB
                have HO_7 := n0_
                have HB := n1_
                clear n0_ n1_
                refine start_ (n := 13) (S := fun w' => True) (ds := []) #[false, false, false, false, false, false, false, false, false, false, false, false, false] (by kernel_rfl) rfl rfl trivial (fun hHeld => ?_); refine with_tabW donjonlaw9_UserOrder.tab10 donjonlaw9_UserOrder.bits10 (fun HT_ HW_ => ?_)
                generalize wr.drew = w19 at HO_7 HB hHeld ⊢
                refine pure_ (i := 0) (N := some 26) (v := ?_) (a' := ?_) #[true, false, false, false, false, false, false, false, false, false, false, false, false] rfl rfl (any_of HT_.out (by kernel_rfl)) (fun _ _ _ h => h) (Or.inl ⟨by rfl, ?_⟩) ?_ ?_
                rotate_left
                · intro w'
                  go_simp
                  with_reducible rfl
                rotate_left
                · simp only [Act.put, List.setIfInBounds_toArray, List.set_cons_zero, List.set_cons_succ, i64_w, i32_w]
                  rfl
                refine pure_ (i := 1) (N := some 27) (v := ?_) (a' := ?_) #[true, true, false, false, false, false, false, false, false, false, false, false, false] rfl rfl (any_of HT_.out (by kernel_rfl)) (fun _ _ _ h => h) (Or.inl ⟨by rfl, ?_⟩) ?_ ?_
                rotate_left
                · intro w'
                  go_simp
                  with_reducible rfl
                rotate_left
                · simp only [Act.put, List.setIfInBounds_toArray, List.set_cons_zero, List.set_cons_succ, i64_w, i32_w]
                  rfl
                refine pure_ (i := 2) (N := some 28) (v := ?_) (a' := ?_) #[true, true, true, false, false, false, false, false, false, false, false, false, false] rfl rfl (any_of HT_.out (by kernel_rfl)) (fun _ _ _ h => h) (Or.inl ⟨by rfl, ?_⟩) ?_ ?_
                rotate_left
                · intro w'
                  go_simp
                  with_reducible rfl
                rotate_left
                · simp only [Act.put, List.setIfInBounds_toArray, List.set_cons_zero, List.set_cons_succ, i64_w, i32_w]
                  rfl
                refine pure_ (i := 3) (N := some 29) (v := ?_) (a' := ?_) #[true, true, true, true, false, false, false, false, false, false, false, false, false] rfl rfl (any_of HT_.out (by kernel_rfl)) (fun _ _ _ h => h) (Or.inl ⟨by rfl, ?_⟩) ?_ ?_
                rotate_left
                · intro w'
                  go_simp
                  with_reducible rfl
                rotate_left
                · simp only [Act.put, List.setIfInBounds_toArray, List.set_cons_zero, List.set_cons_succ, i64_w, i32_w]
                  rfl
                refine pure_ (i := 7) (N := some 33) (v := ?_) (a' := ?_) #[true, true, true, true, false, false, false, true, false, false, false, false, false] rfl rfl (any_of HT_.out (by kernel_rfl)) (fun _ _ _ h => h) (Or.inl ⟨by rfl, ?_⟩) ?_ ?_
                rotate_left
                · intro w'
                  go_simp
                  with_reducible rfl
                rotate_left
                · simp only [Act.put, List.setIfInBounds_toArray, List.set_cons_zero, List.set_cons_succ, i64_w, i32_w]
                  rfl
                refine join_ (σ := Value) 4 #[true, true, true, true, true, true, true, true, true, false, false, false, false] (fun s_ => [(30, s_), (31, .string (strOfNums y107)), (34, .agg #[.int .i64 t110, .int .i64 t111, .int .i64 t112, .int .i64 t113]), (32, .string ((⟨#[120]⟩ : ByteArray) ++ (strOfNums y107)))]) (fun s_ w' => (Kd.R (Kd.int .u8) 5 w' w.heap.size (fun _ => True) s_ y107) ∧ (Kd.R k58 58 w' w.heap.size (fun _ => True) (.slice Ao18 x7_1.length co18) x7_1) ∧ (Below w.heap.size w w')) ?_ ?_
                rotate_left
                · intro hCont
                  refine two_ (i := 4) (j := 8) (Ni := some 30) (Nj := some 34) #[true, true, true, true, true, false, false, true, false, false, false, false, false] #[true, true, true, true, false, false, false, true, true, false, false, false, false] rfl rfl rfl rfl (two_of HT_.out (by kernel_rfl)) (by decide) (by decide) (fun K hK => ?_) (fun K hK => ?_)
                  · skip
                    refine Kd.R_lit_step (Kd.int .u8) _ 5 ?hg (N := 30) ?hd (xs := ([(wrap64 (97 + x8_1)) % 256] : List Int)) (inner := [.int .u8 ((wrap64 (97 + x8_1)) % 256)]) (ok := fun _ => True) (okp := fun _ => True) ?hr ?hp (fun _ hk => hk) trivial (Below.refl _ _) (Nat.le_refl _) (by simp) ?_; (case hd => rfl); (case hg => rfl); (case hr => first | (go_simp; done) | (go_simp; rfl)); (case hp => exact (Reps.one (show Kd.M (Kd.int .u8) _ _ _ ((wrap64 (97 + x8_1)) % 256) [.int .u8 ((wrap64 (97 + x8_1)) % 256)] from rfl) (Reps.none _ _)))
                    intro v108 w20 ho21 hb hg_ hnew_
                    clear hg_ hnew_
                    (first | rw [← Ny107.out] at ho21 | (simp only [Int.reduceToNat] at ho21; rw [← Ny107.out] at ho21))
                    have n0_ := Aside0.mk (Kd.R_below (by (with_reducible repeat (first | apply Kd.R_alloc | apply Kd.R_drewN | apply Kd.R_drew)); exact HO_7.out) hb)
                    have n1_ := Aside0.mk (Kd.R_lower ho21 (below_size (by repeat (first | (with_reducible first | exact HB.out | apply below_alloc | apply pw_below_drewN | apply below_drew1) | exact HB.out))))
                    have n2_ := Aside0.mk (below_step (by repeat (first | (with_reducible first | exact HB.out | apply below_alloc | apply pw_below_drewN | apply below_drew1) | exact HB.out)) hb)
                    clear HO_7
                    clear HB
                    have HO_7 := n0_
                    have HO109 := n1_
                    have HB := n2_
                    clear n0_ n1_ n2_
                    clear hb ho21
                    refine hK.out _ _ trivial (fun hHeld => ?_)
                    clear hK K
                    refine norm_ (a' := ?_) ?_ ?_
                    rotate_left
                    · show Act.put _ (some 30) _ = _
                      simp only [Act.put, List.setIfInBounds_toArray, List.set_cons_zero, List.set_cons_succ, i64_w, i32_w]
                      rfl
                    refine two_ (i := 5) (j := 8) (Ni := some 31) (Nj := some 34) #[true, true, true, true, true, true, false, true, false, false, false, false, false] #[true, true, true, true, true, false, false, true, true, false, false, false, false] rfl rfl rfl rfl (two_of HT_.out (by kernel_rfl)) (by decide) (by decide) (fun K hK => ?_) (fun K hK => ?_)
                    · skip
                      have hcv22 := own_string (P := Try.prog) Try.underlying23 Try.underlying5 Try.underlying9 (Kd.own_of_R HO109.out)
                      refine value_ (w1 := ?_) (v := ?_) (by rfl) rfl ?_ ?_
                      rotate_left 2
                      · go_simp
                        constructor
                        · rfl
                        · rfl
                      clear hcv22
                      refine hK.out _ _ trivial (fun hHeld => ?_)
                      clear hK K
                      refine norm_ (a' := ?_) ?_ ?_
                      rotate_left
                      · show Act.put _ (some 31) _ = _
                        simp only [Act.put, List.setIfInBounds_toArray, List.set_cons_zero, List.set_cons_succ, i64_w, i32_w]
                        rfl
                      refine pure_ (i := 6) (N := some 32) (v := ?_) (a' := ?_) #[true, true, true, true, true, true, true, true, false, false, false, false, false] rfl rfl (any_of HT_.out (by kernel_rfl)) (fun _ _ _ h => h) (Or.inl ⟨by rfl, ?_⟩) ?_ ?_
                      rotate_left
                      · intro w'
                        go_simp
                        with_reducible rfl
                      rotate_left
                      · simp only [Act.put, List.setIfInBounds_toArray, List.set_cons_zero, List.set_cons_succ, i64_w, i32_w]
                        rfl
                      refine one_ (i := 8) (N := some 34) #[true, true, true, true, true, true, true, true, true, false, false, false, false] rfl rfl (one_of HT_.out (by kernel_rfl)) (by decide) (fun K hK => ?_)
                      refine goes_ Try.func33 (by kernel_rfl) rfl #[.agg #[.int .i64 0, .int .i64 0, .int .i64 0, .int .i64 0]] (by rfl) rfl rfl (by (try simp only [List.map_toArray, List.map_cons, List.map_nil]); first | done | rfl | (simp only [List.length_drop, List.length_take]; rfl)) ?_
                      with_reducible refine (donjonlaw4_Good.calls 0 0 0 0 t110 t111 t112 t113 _ A16.out).mono ?_
                      rintro e w23 ⟨rfl, hb⟩
                      refine ⟨_, rfl, ?_⟩
                      have n0_ := Aside0.mk (Kd.R_below (by (with_reducible repeat (first | apply Kd.R_alloc | apply Kd.R_drewN | apply Kd.R_drew)); exact HO_7.out) hb)
                      have n1_ := Aside0.mk (Kd.R_below (by (with_reducible repeat (first | apply Kd.R_alloc | apply Kd.R_drewN | apply Kd.R_drew)); exact HO109.out) hb)
                      have n2_ := Aside0.mk (below_step (by repeat (first | (with_reducible first | exact HB.out | apply below_alloc | apply pw_below_drewN | apply below_drew1) | exact HB.out)) hb)
                      clear HO_7
                      clear HO109
                      clear HB
                      have HO_7 := n0_
                      have HO109 := n1_
                      have HB := n2_
                      clear n0_ n1_ n2_
                      (try clear hb)
                      (try clear hb2)
                      (try clear hk)
                      (try clear hi)
                      refine hK.out _ _ trivial (fun hHeld => ?_)
                      clear hK K
                      refine norm_ (a' := ?_) ?_ ?_
                      rotate_left
                      · show Act.put _ (some 34) _ = _
                        simp only [Act.put, List.setIfInBounds_toArray, List.set_cons_zero, List.set_cons_succ, i64_w, i32_w]
                        rfl
                      exact norm_ (by simp only [putAll, Act.put, List.setIfInBounds_toArray, List.set_cons_zero, List.set_cons_succ]) (hCont (v108) _ ⟨(by (with_reducible repeat (first | apply Kd.R_alloc | apply Kd.R_drewN | apply Kd.R_drew)); exact HO109.out), (by (with_reducible repeat (first | apply Kd.R_alloc | apply Kd.R_drewN | apply Kd.R_drew)); exact HO_7.out), (by repeat (first | (with_reducible first | exact HB.out | apply below_alloc | apply pw_below_drewN | apply below_drew1) | exact HB.out))⟩)
                    · skip
                      refine goes_ Try.func33 (by kernel_rfl) rfl #[.agg #[.int .i64 0, .int .i64 0, .int .i64 0, .int .i64 0]] (by rfl) rfl rfl (by (try simp only [List.map_toArray, List.map_cons, List.map_nil]); first | done | rfl | (simp only [List.length_drop, List.length_take]; rfl)) ?_
                      with_reducible refine (donjonlaw4_Good.calls 0 0 0 0 t110 t111 t112 t113 _ A16.out).mono ?_
                      rintro e w22 ⟨rfl, hb⟩
                      refine ⟨_, rfl, ?_⟩
                      have n0_ := Aside0.mk (Kd.R_below (by (with_reducible repeat (first | apply Kd.R_alloc | apply Kd.R_drewN | apply Kd.R_drew)); exact HO_7.out) hb)
                      have n1_ := Aside0.mk (Kd.R_below (by (with_reducible repeat (first | apply Kd.R_alloc | apply Kd.R_drewN | apply Kd.R_drew)); exact HO109.out) hb)
                      have n2_ := Aside0.mk (below_step (by repeat (first | (with_reducible first | exact HB.out | apply below_alloc | apply pw_below_drewN | apply below_drew1) | exact HB.out)) hb)
                      clear HO_7
                      clear HO109
                      clear HB
                      have HO_7 := n0_
                      have HO109 := n1_
                      have HB := n2_
                      clear n0_ n1_ n2_
                      (try clear hb)
                      (try clear hb2)
                      (try clear hk)
                      (try clear hi)
                      refine hK.out _ _ trivial (fun hHeld => ?_)
                      clear hK K
                      refine norm_ (a' := ?_) ?_ ?_
                      rotate_left
                      · show Act.put _ (some 34) _ = _
                        simp only [Act.put, List.setIfInBounds_toArray, List.set_cons_zero, List.set_cons_succ, i64_w, i32_w]
                        rfl
                      refine one_ (i := 5) (N := some 31) #[true, true, true, true, true, true, false, true, true, false, false, false, false] rfl rfl (one_of HT_.out (by kernel_rfl)) (by decide) (fun K hK => ?_)
                      have hcv23 := own_string (P := Try.prog) Try.underlying23 Try.underlying5 Try.underlying9 (Kd.own_of_R HO109.out)
                      refine value_ (w1 := ?_) (v := ?_) (by rfl) rfl ?_ ?_
                      rotate_left 2
                      · go_simp
                        constructor
                        · rfl
                        · rfl
                      clear hcv23
                      refine hK.out _ _ trivial (fun hHeld => ?_)
                      clear hK K
                      refine norm_ (a' := ?_) ?_ ?_
                      rotate_left
                      · show Act.put _ (some 31) _ = _
                        simp only [Act.put, List.setIfInBounds_toArray, List.set_cons_zero, List.set_cons_succ, i64_w, i32_w]
                        rfl
                      refine pure_ (i := 6) (N := some 32) (v := ?_) (a' := ?_) #[true, true, true, true, true, true, true, true, true, false, false, false, false] rfl rfl (any_of HT_.out (by kernel_rfl)) (fun _ _ _ h => h) (Or.inl ⟨by rfl, ?_⟩) ?_ ?_
                      rotate_left
                      · intro w'
                        go_simp
                        with_reducible rfl
                      rotate_left
                      · simp only [Act.put, List.setIfInBounds_toArray, List.set_cons_zero, List.set_cons_succ, i64_w, i32_w]
                        rfl
                      exact norm_ (by simp only [putAll, Act.put, List.setIfInBounds_toArray, List.set_cons_zero, List.set_cons_succ]) (hCont (v108) _ ⟨(by (with_reducible repeat (first | apply Kd.R_alloc | apply Kd.R_drewN | apply Kd.R_drew)); exact HO109.out), (by (with_reducible repeat (first | apply Kd.R_alloc | apply Kd.R_drewN | apply Kd.R_drew)); exact HO_7.out), (by repeat (first | (with_reducible first | exact HB.out | apply below_alloc | apply pw_below_drewN | apply below_drew1) | exact HB.out))⟩)
                  · skip
                    refine goes_ Try.func33 (by kernel_rfl) rfl #[.agg #[.int .i64 0, .int .i64 0, .int .i64 0, .int .i64 0]] (by rfl) rfl rfl (by (try simp only [List.map_toArray, List.map_cons, List.map_nil]); first | done | rfl | (simp only [List.length_drop, List.length_take]; rfl)) ?_
                    with_reducible refine (donjonlaw4_Good.calls 0 0 0 0 t110 t111 t112 t113 _ A16.out).mono ?_
                    rintro e w20 ⟨rfl, hb⟩
                    refine ⟨_, rfl, ?_⟩
                    have n0_ := Aside0.mk (Kd.R_below (by (with_reducible repeat (first | apply Kd.R_alloc | apply Kd.R_drewN | apply Kd.R_drew)); exact HO_7.out) hb)
                    have n1_ := Aside0.mk (below_step (by repeat (first | (with_reducible first | exact HB.out | apply below_alloc | apply pw_below_drewN | apply below_drew1) | exact HB.out)) hb)
                    clear HO_7
                    clear HB
                    have HO_7 := n0_
                    have HB := n1_
                    clear n0_ n1_
                    (try clear hb)
                    (try clear hb2)
                    (try clear hk)
                    (try clear hi)
                    refine hK.out _ _ trivial (fun hHeld => ?_)
                    clear hK K
                    refine norm_ (a' := ?_) ?_ ?_
                    rotate_left
                    · show Act.put _ (some 34) _ = _
                      simp only [Act.put, List.setIfInBounds_toArray, List.set_cons_zero, List.set_cons_succ, i64_w, i32_w]
                      rfl
                    refine one_ (i := 4) (N := some 30) #[true, true, true, true, true, false, false, true, true, false, false, false, false] rfl rfl (one_of HT_.out (by kernel_rfl)) (by decide) (fun K hK => ?_)
                    refine Kd.R_lit_step (Kd.int .u8) _ 5 ?hg (N := 30) ?hd (xs := ([(wrap64 (97 + x8_1)) % 256] : List Int)) (inner := [.int .u8 ((wrap64 (97 + x8_1)) % 256)]) (ok := fun _ => True) (okp := fun _ => True) ?hr ?hp (fun _ hk => hk) trivial (Below.refl _ _) (Nat.le_refl _) (by simp) ?_; (case hd => rfl); (case hg => rfl); (case hr => first | (go_simp; done) | (go_simp; rfl)); (case hp => exact (Reps.one (show Kd.M (Kd.int .u8) _ _ _ ((wrap64 (97 + x8_1)) % 256) [.int .u8 ((wrap64 (97 + x8_1)) % 256)] from rfl) (Reps.none _ _)))
                    intro v108 w21 ho22 hb hg_ hnew_
                    clear hg_ hnew_
                    (first | rw [← Ny107.out] at ho22 | (simp only [Int.reduceToNat] at ho22; rw [← Ny107.out] at ho22))
                    have n0_ := Aside0.mk (Kd.R_below (by (with_reducible repeat (first | apply Kd.R_alloc | apply Kd.R_drewN | apply Kd.R_drew)); exact HO_7.out) hb)
                    have n1_ := Aside0.mk (Kd.R_lower ho22 (below_size (by repeat (first | (with_reducible first | exact HB.out | apply below_alloc | apply pw_below_drewN | apply below_drew1) | exact HB.out))))
                    have n2_ := Aside0.mk (below_step (by repeat (first | (with_reducible first | exact HB.out | apply below_alloc | apply pw_below_drewN | apply below_drew1) | exact HB.out)) hb)
                    clear HO_7
                    clear HB
                    have HO_7 := n0_
                    have HO109 := n1_
                    have HB := n2_
                    clear n0_ n1_ n2_
                    clear hb ho22
                    refine hK.out _ _ trivial (fun hHeld => ?_)
                    clear hK K
                    refine norm_ (a' := ?_) ?_ ?_
                    rotate_left
                    · show Act.put _ (some 30) _ = _
                      simp only [Act.put, List.setIfInBounds_toArray, List.set_cons_zero, List.set_cons_succ, i64_w, i32_w]
                      rfl
                    refine one_ (i := 5) (N := some 31) #[true, true, true, true, true, true, false, true, true, false, false, false, false] rfl rfl (one_of HT_.out (by kernel_rfl)) (by decide) (fun K hK => ?_)
                    have hcv23 := own_string (P := Try.prog) Try.underlying23 Try.underlying5 Try.underlying9 (Kd.own_of_R HO109.out)
                    refine value_ (w1 := ?_) (v := ?_) (by rfl) rfl ?_ ?_
                    rotate_left 2
                    · go_simp
                      constructor
                      · rfl
                      · rfl
                    clear hcv23
                    refine hK.out _ _ trivial (fun hHeld => ?_)
                    clear hK K
                    refine norm_ (a' := ?_) ?_ ?_
                    rotate_left
                    · show Act.put _ (some 31) _ = _
                      simp only [Act.put, List.setIfInBounds_toArray, List.set_cons_zero, List.set_cons_succ, i64_w, i32_w]
                      rfl
                    refine pure_ (i := 6) (N := some 32) (v := ?_) (a' := ?_) #[true, true, true, true, true, true, true, true, true, false, false, false, false] rfl rfl (any_of HT_.out (by kernel_rfl)) (fun _ _ _ h => h) (Or.inl ⟨by rfl, ?_⟩) ?_ ?_
                    rotate_left
                    · intro w'
                      go_simp
                      with_reducible rfl
                    rotate_left
                    · simp only [Act.put, List.setIfInBounds_toArray, List.set_cons_zero, List.set_cons_succ, i64_w, i32_w]
                      rfl
                    exact norm_ (by simp only [putAll, Act.put, List.setIfInBounds_toArray, List.set_cons_zero, List.set_cons_succ]) (hCont (v108) _ ⟨(by (with_reducible repeat (first | apply Kd.R_alloc | apply Kd.R_drewN | apply Kd.R_drew)); exact HO109.out), (by (with_reducible repeat (first | apply Kd.R_alloc | apply Kd.R_drewN | apply Kd.R_drew)); exact HO_7.out), (by repeat (first | (with_reducible first | exact HB.out | apply below_alloc | apply pw_below_drewN | apply below_drew1) | exact HB.out))⟩)
                rintro v108 w24 ⟨h0_, h1_, h2_⟩
                have n0_ : Aside0 (Kd.R (Kd.int .u8) 5 w24 w.heap.size (fun _ => True) v108 y107) := ⟨h0_⟩
                have n1_ : Aside0 (Kd.R k58 58 w24 w.heap.size (fun _ => True) (.slice Ao18 x7_1.length co18) x7_1) := ⟨h1_⟩
                have n2_ : Aside0 (Below w.heap.size w w24) := ⟨h2_⟩
                clear HO_7
                clear HB
                clear h0_ h1_ h2_
                have HO109 := n0_
                have HO_7 := n1_
                have HB := n2_
                clear n0_ n1_ n2_
                have hHeld := trivial
                refine norm_ (a' := ?_) ?_ ?_
                rotate_left
                · simp only [putAll, Act.put, List.setIfInBounds_toArray, List.set_cons_zero, List.set_cons_succ]
                  rfl
                refine pure_ (i := 9) (N := some 35) (v := ?_) (a' := ?_) #[true, true, true, true, true, true, true, true, true, true, false, false, false] rfl rfl (any_of HT_.out (by kernel_rfl)) (fun _ _ _ h => h) (Or.inl ⟨by rfl, ?_⟩) ?_ ?_
                rotate_left
                · intro w'
                  go_simp
                  with_reducible rfl
                rotate_left
                · simp only [Act.put, List.setIfInBounds_toArray, List.set_cons_zero, List.set_cons_succ, i64_w, i32_w]
                  rfl
                refine one_ (i := 10) (N := some 36) #[true, true, true, true, true, true, true, true, true, true, true, false, false] rfl rfl (one_of HT_.out (by kernel_rfl)) (by decide) (fun K hK => ?_)
                refine value_ (w1 := ?_) (v := ?_) (by rfl) rfl ?_ ?_
                rotate_left 2
                · go_simp
                  constructor
                  · rfl
                  · rfl
                refine hK.out _ _ trivial (fun hHeld => ?_)
                clear hK K
                refine norm_ (a' := ?_) ?_ ?_
                rotate_left
                · show Act.put _ (some 36) _ = _
                  simp only [Act.put, List.setIfInBounds_toArray, List.set_cons_zero, List.set_cons_succ, i64_w, i32_w]
                  rfl
                refine one_ (i := 11) (N := some 37) #[true, true, true, true, true, true, true, true, true, true, true, true, false] rfl rfl (one_of HT_.out (by kernel_rfl)) (by decide) (fun K hK => ?_)
                refine Kd.R_append_step k58 (w0 := w) w.heap.size (by rfl) (.tmp 26) (.tmp 36) 55 58 (.agg #[(.string ⟨#[]⟩), (.int .i64 0), (.int .u64 0), (.int .i64 0), (.int .i64 0), (.int .i64 0), (.int .i64 0), (.bool false)]) 72 rfl Try.underlying55 info58 rfl (by decide) (by omega) (.slice Ao18 x7_1.length co18) x7_1 (⟨(⟨#[120]⟩ : ByteArray) ++ (strOfNums y107), 0, 0, (⟨t110, t111, t112, t113⟩ : S54), false⟩ : S58) [.string ((⟨#[120]⟩ : ByteArray) ++ (strOfNums y107)), .int .i64 0, .int .u64 0, .int .i64 t110, .int .i64 t111, .int .i64 t112, .int .i64 t113, .bool false] (fun _ => True) (fun _ => False) rfl rfl ?aP (fun _ hk => hk.elim) ?aF ?aO ?aB ?aS ?aL ?_
                (case aP => exact k58_mkM _ _ _ (⟨(⟨#[120]⟩ : ByteArray) ++ (strOfNums y107), 0, 0, (⟨t110, t111, t112, t113⟩ : S54), false⟩ : S58))
                (case aB => exact (by repeat (first | (with_reducible first | exact HB.out | apply below_alloc | apply pw_below_drewN | apply below_drew1) | exact HB.out)))
                (case aF => exact (fun _ _ => trivial))
                (case aO => exact (by (with_reducible repeat (first | apply Kd.R_alloc | apply Kd.R_drewN | apply Kd.R_drew)); exact HO_7.out))
                (case aS => exact (below_size (by repeat (first | (with_reducible first | exact HB.out | apply below_alloc | apply pw_below_drewN | apply below_drew1) | exact HB.out))))
                (case aL => have := LMc17.out; omega)
                intro v115 w25 ho hb hg hat
                rw [← Ny114.out] at ho
                have n0_ := Aside0.mk (Kd.R_over' (by (with_reducible repeat (first | apply Kd.R_alloc | apply Kd.R_drewN | apply Kd.R_drew)); exact HO109.out) (Kd.R_typed (by (with_reducible repeat (first | apply Kd.R_alloc | apply Kd.R_drewN | apply Kd.R_drew)); exact HO_7.out)) (by decide) hg)
                have n1_ := Aside0.mk (hb)
                have n2_ := Aside0.mk (ho)
                clear HO109
                clear HB
                clear HO_7
                have HO109 := n0_
                have HB := n1_
                have HO116 := n2_
                clear n0_ n1_ n2_
                clear ho hb hg hat
                refine hK.out _ _ trivial (fun hHeld => ?_)
                clear hK K
                refine norm_ (a' := ?_) ?_ ?_
                rotate_left
                · show Act.put _ (some 37) _ = _
                  simp only [Act.put, List.setIfInBounds_toArray, List.set_cons_zero, List.set_cons_succ, i64_w, i32_w]
                  rfl
                refine pure_ (i := 12) (N := some 7) (v := ?_) (a' := ?_) #[true, true, true, true, true, true, true, true, true, true, true, true, true] rfl rfl (any_of HT_.out (by kernel_rfl)) (fun _ _ _ h => h) (Or.inl ⟨by rfl, ?_⟩) ?_ ?_
                rotate_left
                · intro w'
                  go_simp
                  with_reducible rfl
                rotate_left
                · simp only [Act.put, List.setIfInBounds_toArray, List.set_cons_zero, List.set_cons_succ, i64_w, i32_w]
                  rfl
                refine done_ (done_of HT_.out (by kernel_rfl)) ?_
                try go_wp2
                go_roundg k1
                case measure => have := HK1.out; omega
                case rel => exact ⟨(y114), (wrap64 (x8_1 + 1)), (by first | rfl | (simp; done) | (simp [*]; done)), H', ⟨by have := HK1.out; omega⟩, ⟨by (with_reducible repeat (first | apply Kd.R_alloc | apply Kd.R_drewN | apply Kd.R_drew)); exact HO116.out⟩, ⟨by repeat (first | (with_reducible first | exact HB.out | apply below_alloc | apply pw_below_drewN | apply below_drew1) | exact HB.out)⟩⟩
              · rw [if_neg c17] at H
                exact absurd H (by simp)
            · rw [if_neg c15] at H
              exact absurd H (by simp)
          · rw [if_neg c14] at H
            have c14b0 : decide (x8_1 < t106) = false := decide_eq_false c14
            clear c14
            replace H := Option.bind_eq_some_iff.mp H
            obtain ⟨t117, A260, H⟩ := H
            replace H : (if ((t117 == 0) != (decide ((x7_1.length : Int) ≤ 16))) = true then (some false) else (if (x7_1.length : Int) < 2 then (donjonlaw9_UserOrder.j1 k1 a1 x7_1 true) else (donjonlaw9_UserOrder.j1 k1 a1 x7_1 (decide ((x7_1.length : Int) > 16))))) = some r := H
            have A26 := Aside0.mk A260
            clear A260
            by_cases c27 : ((t117 == 0) != (decide ((x7_1.length : Int) ≤ 16))) = true
            · rw [if_pos c27] at H
              have c27b0 : ((t117 == 0) != (decide ((x7_1.length : Int) ≤ 16))) = true := c27
              (try (have c27b1 : decide ((t117 == 0) = (decide ((x7_1.length : Int) ≤ 16))) = false := by simpa using c27))
              (try (have c27b2 : ((t117 == 0) == (decide ((x7_1.length : Int) ≤ 16))) = false := by simpa using c27))
              (try (have c27b3 : ¬ ((t117 == 0) = (decide ((x7_1.length : Int) ≤ 16))) := by simpa using c27))
              clear c27
              obtain rfl := Option.some.inj H
              exact absurd HRT.out (by decide)
            · rw [if_neg c27] at H
              have c27b0 : ((t117 == 0) != (decide ((x7_1.length : Int) ≤ 16))) = false := by simpa using c27
              (try (have c27b1 : decide ((t117 == 0) = (decide ((x7_1.length : Int) ≤ 16))) = true := by simpa using c27))
              (try (have c27b2 : ((t117 == 0) == (decide ((x7_1.length : Int) ≤ 16))) = true := by simpa using c27))
              clear c27
              have HC28 := Aside0.mk H
              clear H
              obtain ⟨Ao29, co29, eo29⟩ := Kd.R_slice HO_7.out
              subst eo29
              go_upto_region 13 with (first | ((with_reducible refine gate_callee (f := 38) rfl ?_); refine goesL_ (some 39) rfl rfl Try.func38 (by kernel_rfl) rfl #[.slice Ao29 x7_1.length co29] rfl (by (try simp only [List.map_toArray, List.map_cons, List.map_nil]); first | done | rfl | (simp only [List.length_drop, List.length_take]; rfl)) ?_; (with_reducible refine (user_Check.calls k1 _ _ x7_1 t117 _ ?side1 ?side2 A26.out).mono ?_); (case side1 => repeat (first | exact (Kd.R_reads' HO_7.out).2.2 | (with_reducible refine Kd.C_alloc ?_ _) | (with_reducible refine Kd.C_drewN ?_ _) | (with_reducible refine Kd.C_drew ?_))); (case side2 => exact (Kd.R_reads' HO_7.out).2.1); rintro e w30 ⟨rfl, hb⟩; refine ⟨_, rfl, ?_⟩; have n0_ := Aside0.mk (Kd.R_below (by (with_reducible repeat (first | apply Kd.R_alloc | apply Kd.R_drewN | apply Kd.R_drew)); exact HO_7.out) hb); have n1_ := Aside0.mk (below_step (by repeat (first | (with_reducible first | exact HB.out | apply below_alloc | apply pw_below_drewN | apply below_drew1) | exact HB.out)) hb); clear HO_7; clear HB; have HO_7 := n0_; have HB := n1_; clear n0_ n1_; (try clear hb); (try clear hb2); (try clear hk); (try clear hi)))
              (try simp only [Act.put, List.setIfInBounds_toArray, List.set_cons_zero, List.set_cons_succ])
              go_cut [52] (fun v52 wc => ∃ (kq : Nat) (x52_27 : Bool), v52 = .bool x52_27 ∧ Aside0 (donjonlaw9_UserOrder.j1 kq a1 x7_1 x52_27 = some r) ∧ Aside0 (kq ≤ k1) ∧ Aside0 (Kd.R k58 58 wc w.heap.size (fun _ => True) (.slice Ao29 x7_1.length co29) x7_1) ∧ Aside0 (Below w.heap.size w wc))
              case first =>
                have H := HC28.out
                clear HC28
                by_cases c31 : (x7_1.length : Int) < 2
                · rw [if_pos c31] at H
                  have c31b0 : decide ((x7_1.length : Int) < 2) = true := decide_eq_true c31
                  have c31b1 : decide (x7_1.length < 2) = true := decide_eq_true (by omega)
                  clear c31
                  (first | rw [c31b0] | (simp only [i64_w, i32_w]; rw [c31b0]) | skip)
                  have H' := Aside0.mk H
                  clear H
                  go_wp2
                  go_meet
                  case rel => exact ⟨_, (true), (by first | rfl | (simp; done) | (simp [*]; done)), H', ⟨by have := HK1.out; first | omega | exact Nat.le_refl _⟩, ⟨by (with_reducible repeat (first | apply Kd.R_alloc | apply Kd.R_drewN | apply Kd.R_drew)); exact HO_7.out⟩, ⟨by repeat (first | (with_reducible first | exact HB.out | apply below_alloc | apply pw_below_drewN | apply below_drew1) | exact HB.out)⟩⟩
                · rw [if_neg c31] at H
                  have c31b0 : decide ((x7_1.length : Int) < 2) = false := decide_eq_false c31
                  have c31b1 : decide (x7_1.length < 2) = false := decide_eq_false (by omega)
                  clear c31
                  (first | rw [c31b0] | (simp only [i64_w, i32_w]; rw [c31b0]) | skip)
                  have H' := Aside0.mk H
                  clear H
                  go_wp2
                  go_meet
                  case rel => exact ⟨_, (decide ((x7_1.length : Int) > 16)), (by first | rfl | (simp; done) | (simp [*]; done)), H', ⟨by have := HK1.out; first | omega | exact Nat.le_refl _⟩, ⟨by (with_reducible repeat (first | apply Kd.R_alloc | apply Kd.R_drewN | apply Kd.R_drew)); exact HO_7.out⟩, ⟨by repeat (first | (with_reducible first | exact HB.out | apply below_alloc | apply pw_below_drewN | apply below_drew1) | exact HB.out)⟩⟩
              case rest =>
                clear HC28
                try clear c1
                try clear c2
                try clear p2
                try clear hcv2
                try clear c3
                try clear c4
                try clear c5
                try clear p6
                try clear c8
                try clear c8b0
                try clear c8b1
                try clear c12
                try clear c14
                try clear c14b0
                try clear c15
                try clear c15b0
                try clear c15b1
                try clear c15b2
                try clear c17
                try clear hcv22
                try clear hcv23
                try clear c27
                try clear c27b0
                try clear c27b1
                try clear c27b2
                try clear c31
                try clear c31b0
                try clear c31b1
                try clear p2
                obtain ⟨kq, x52_27, rfl, HA, HJ27, HO_7, HB⟩ := hcut
                cases kq with
                | zero => exact absurd HA.out (by simp [donjonlaw9_UserOrder.j1])
                | succ kj27 =>
                  have H := HA.out
                  clear HA
                  simp only [donjonlaw9_UserOrder.j1] at H
                  by_cases c32 : x52_27 = true
                  · subst c32
                    have H1 : (some true) = some r := by rw [if_pos rfl] at H; exact H
                    clear H
                    have H := H1
                    clear H1
                    obtain rfl := Option.some.inj H
                    go_wp2
                    go_ret
                    exact ⟨by first | rfl | (simp [errW_none, errW_some] <;> rfl) | (simp [*, errW_none, errW_some] <;> rfl), by repeat (first | (with_reducible first | exact HB.out | apply below_alloc | apply pw_below_drewN | apply below_drew1) | exact HB.out)⟩
                  · replace c32 := Bool.eq_false_iff.mpr c32
                    subst c32
                    have H1 : ((donjonlaw9_within.f a1 (wrap64 ((x7_1.length : Int) - 1))).bind fun t118 => ((some (([] : List (S58)) : List (S58))).bind fun y119 => (if y119.length + x7_1.length < 1954687338268 then ((some (y119 ++ x7_1 : List (S58))).bind fun y122 => (if 0 ≤ (wrap64 (t118 + 1)) then (if (wrap64 (t118 + 1)) < (y122.length : Int) then (if 0 ≤ t118 then (if t118 < (y122.length : Int) then ((some (([] : List (S58)) : List (S58))).bind fun y129 => (if y129.length + x7_1.length < 1954687338268 then ((some (y129 ++ x7_1 : List (S58))).bind fun y132 => (if t118 < (y132.length : Int) then (if (wrap64 (t118 + 1)) < (y132.length : Int) then ((user_Check.f kj27 ((y122.set (t118 : Int).toNat (⟨(rd_T58 y122 (wrap64 (t118 + 1))).f0, (rd_T58 y122 (wrap64 (t118 + 1))).f1, (rd_T58 y122 (wrap64 (t118 + 1))).f2, (⟨(rd_T58 y122 (wrap64 (t118 + 1))).f3.f0, (rd_T58 y122 (wrap64 (t118 + 1))).f3.f1, (rd_T58 y122 (wrap64 (t118 + 1))).f3.f2, (rd_T58 y122 (wrap64 (t118 + 1))).f3.f3⟩ : S54), (rd_T58 y122 (wrap64 (t118 + 1))).f4⟩ : S58)).set ((wrap64 (t118 + 1)) : Int).toNat (⟨(rd_T58 y122 t118).f0, (rd_T58 y122 t118).f1, (rd_T58 y122 t118).f2, (⟨(rd_T58 y122 t118).f3.f0, (rd_T58 y122 t118).f3.f1, (rd_T58 y122 t118).f3.f2, (rd_T58 y122 t118).f3.f3⟩ : S54), (rd_T58 y122 t118).f4⟩ : S58))).bind fun t137 => (if t137 = 1 then ((user_Check.f kj27 (y132.set ((wrap64 (t118 + 1)) : Int).toNat (⟨(rd_T58 y132 t118).f0, (rd_T58 y132 (wrap64 (t118 + 1))).f1, (rd_T58 y132 (wrap64 (t118 + 1))).f2, (⟨(rd_T58 y132 (wrap64 (t118 + 1))).f3.f0, (rd_T58 y132 (wrap64 (t118 + 1))).f3.f1, (rd_T58 y132 (wrap64 (t118 + 1))).f3.f2, (rd_T58 y132 (wrap64 (t118 + 1))).f3.f3⟩ : S54), (rd_T58 y132 (wrap64 (t118 + 1))).f4⟩ : S58))).bind fun t138 => (some (t138 == 1))) else (some false))) else (none)) else (none))) else (none))) else (none)) else (none)) else (none)) else (none))) else (none)))) = some r := by rw [if_neg (show ¬ (false = true) by decide)] at H; exact H
                    clear H
                    have H := H1
                    clear H1
                    replace H := Option.bind_eq_some_iff.mp H
                    obtain ⟨t118, A330, H⟩ := H
                    replace H : ((some (([] : List (S58)) : List (S58))).bind fun y119 => (if y119.length + x7_1.length < 1954687338268 then ((some (y119 ++ x7_1 : List (S58))).bind fun y122 => (if 0 ≤ (wrap64 (t118 + 1)) then (if (wrap64 (t118 + 1)) < (y122.length : Int) then (if 0 ≤ t118 then (if t118 < (y122.length : Int) then ((some (([] : List (S58)) : List (S58))).bind fun y129 => (if y129.length + x7_1.length < 1954687338268 then ((some (y129 ++ x7_1 : List (S58))).bind fun y132 => (if t118 < (y132.length : Int) then (if (wrap64 (t118 + 1)) < (y132.length : Int) then ((user_Check.f kj27 ((y122.set (t118 : Int).toNat (⟨(rd_T58 y122 (wrap64 (t118 + 1))).f0, (rd_T58 y122 (wrap64 (t118 + 1))).f1, (rd_T58 y122 (wrap64 (t118 + 1))).f2, (⟨(rd_T58 y122 (wrap64 (t118 + 1))).f3.f0, (rd_T58 y122 (wrap64 (t118 + 1))).f3.f1, (rd_T58 y122 (wrap64 (t118 + 1))).f3.f2, (rd_T58 y122 (wrap64 (t118 + 1))).f3.f3⟩ : S54), (rd_T58 y122 (wrap64 (t118 + 1))).f4⟩ : S58)).set ((wrap64 (t118 + 1)) : Int).toNat (⟨(rd_T58 y122 t118).f0, (rd_T58 y122 t118).f1, (rd_T58 y122 t118).f2, (⟨(rd_T58 y122 t118).f3.f0, (rd_T58 y122 t118).f3.f1, (rd_T58 y122 t118).f3.f2, (rd_T58 y122 t118).f3.f3⟩ : S54), (rd_T58 y122 t118).f4⟩ : S58))).bind fun t137 => (if t137 = 1 then ((user_Check.f kj27 (y132.set ((wrap64 (t118 + 1)) : Int).toNat (⟨(rd_T58 y132 t118).f0, (rd_T58 y132 (wrap64 (t118 + 1))).f1, (rd_T58 y132 (wrap64 (t118 + 1))).f2, (⟨(rd_T58 y132 (wrap64 (t118 + 1))).f3.f0, (rd_T58 y132 (wrap64 (t118 + 1))).f3.f1, (rd_T58 y132 (wrap64 (t118 + 1))).f3.f2, (rd_T58 y132 (wrap64 (t118 + 1))).f3.f3⟩ : S54), (rd_T58 y132 (wrap64 (t118 + 1))).f4⟩ : S58))).bind fun t138 => (some (t138 == 1))) else (some false))) else (none)) else (none))) else (none))) else (none)) else (none)) else (none)) else (none))) else (none))) = some r := H
                    have A33 := Aside0.mk A330
                    clear A330
                    obtain ⟨y119, hy119⟩ : ∃ y_ : List (S58), y_ = (([] : List (S58))) := ⟨_, rfl⟩
                    replace H : (if y119.length + x7_1.length < 1954687338268 then ((some (y119 ++ x7_1 : List (S58))).bind fun y122 => (if 0 ≤ (wrap64 (t118 + 1)) then (if (wrap64 (t118 + 1)) < (y122.length : Int) then (if 0 ≤ t118 then (if t118 < (y122.length : Int) then ((some (([] : List (S58)) : List (S58))).bind fun y129 => (if y129.length + x7_1.length < 1954687338268 then ((some (y129 ++ x7_1 : List (S58))).bind fun y132 => (if t118 < (y132.length : Int) then (if (wrap64 (t118 + 1)) < (y132.length : Int) then ((user_Check.f kj27 ((y122.set (t118 : Int).toNat (⟨(rd_T58 y122 (wrap64 (t118 + 1))).f0, (rd_T58 y122 (wrap64 (t118 + 1))).f1, (rd_T58 y122 (wrap64 (t118 + 1))).f2, (⟨(rd_T58 y122 (wrap64 (t118 + 1))).f3.f0, (rd_T58 y122 (wrap64 (t118 + 1))).f3.f1, (rd_T58 y122 (wrap64 (t118 + 1))).f3.f2, (rd_T58 y122 (wrap64 (t118 + 1))).f3.f3⟩ : S54), (rd_T58 y122 (wrap64 (t118 + 1))).f4⟩ : S58)).set ((wrap64 (t118 + 1)) : Int).toNat (⟨(rd_T58 y122 t118).f0, (rd_T58 y122 t118).f1, (rd_T58 y122 t118).f2, (⟨(rd_T58 y122 t118).f3.f0, (rd_T58 y122 t118).f3.f1, (rd_T58 y122 t118).f3.f2, (rd_T58 y122 t118).f3.f3⟩ : S54), (rd_T58 y122 t118).f4⟩ : S58))).bind fun t137 => (if t137 = 1 then ((user_Check.f kj27 (y132.set ((wrap64 (t118 + 1)) : Int).toNat (⟨(rd_T58 y132 t118).f0, (rd_T58 y132 (wrap64 (t118 + 1))).f1, (rd_T58 y132 (wrap64 (t118 + 1))).f2, (⟨(rd_T58 y132 (wrap64 (t118 + 1))).f3.f0, (rd_T58 y132 (wrap64 (t118 + 1))).f3.f1, (rd_T58 y132 (wrap64 (t118 + 1))).f3.f2, (rd_T58 y132 (wrap64 (t118 + 1))).f3.f3⟩ : S54), (rd_T58 y132 (wrap64 (t118 + 1))).f4⟩ : S58))).bind fun t138 => (some (t138 == 1))) else (some false))) else (none)) else (none))) else (none))) else (none)) else (none)) else (none)) else (none))) else (none)) = some r := by first | (rw [hy119]; with_reducible exact H) | (have H2_ := (Option.bind_some _ _).symm.trans H; rw [hy119]; with_reducible exact H2_) | (have H2_ := (Option.bind_some _ _).symm.trans H; with_reducible exact H2_) | with_reducible exact H | (rw [hy119]; exact H) | exact H
                    have Ny119 := Aside0.mk hy119
                    clear hy119
                    by_cases c34 : y119.length + x7_1.length < 1954687338268
                    · rw [if_pos c34] at H
                      have LMc34 := Aside0.mk c34
                      clear c34
                      obtain ⟨y122, hy122⟩ : ∃ y_ : List (S58), y_ = (y119 ++ x7_1) := ⟨_, rfl⟩
                      replace H : (if 0 ≤ (wrap64 (t118 + 1)) then (if (wrap64 (t118 + 1)) < (y122.length : Int) then (if 0 ≤ t118 then (if t118 < (y122.length : Int) then ((some (([] : List (S58)) : List (S58))).bind fun y129 => (if y129.length + x7_1.length < 1954687338268 then ((some (y129 ++ x7_1 : List (S58))).bind fun y132 => (if t118 < (y132.length : Int) then (if (wrap64 (t118 + 1)) < (y132.length : Int) then ((user_Check.f kj27 ((y122.set (t118 : Int).toNat (⟨(rd_T58 y122 (wrap64 (t118 + 1))).f0, (rd_T58 y122 (wrap64 (t118 + 1))).f1, (rd_T58 y122 (wrap64 (t118 + 1))).f2, (⟨(rd_T58 y122 (wrap64 (t118 + 1))).f3.f0, (rd_T58 y122 (wrap64 (t118 + 1))).f3.f1, (rd_T58 y122 (wrap64 (t118 + 1))).f3.f2, (rd_T58 y122 (wrap64 (t118 + 1))).f3.f3⟩ : S54), (rd_T58 y122 (wrap64 (t118 + 1))).f4⟩ : S58)).set ((wrap64 (t118 + 1)) : Int).toNat (⟨(rd_T58 y122 t118).f0, (rd_T58 y122 t118).f1, (rd_T58 y122 t118).f2, (⟨(rd_T58 y122 t118).f3.f0, (rd_T58 y122 t118).f3.f1, (rd_T58 y122 t118).f3.f2, (rd_T58 y122 t118).f3.f3⟩ : S54), (rd_T58 y122 t118).f4⟩ : S58))).bind fun t137 => (if t137 = 1 then ((user_Check.f kj27 (y132.set ((wrap64 (t118 + 1)) : Int).toNat (⟨(rd_T58 y132 t118).f0, (rd_T58 y132 (wrap64 (t118 + 1))).f1, (rd_T58 y132 (wrap64 (t118 + 1))).f2, (⟨(rd_T58 y132 (wrap64 (t118 + 1))).f3.f0, (rd_T58 y132 (wrap64 (t118 + 1))).f3.f1, (rd_T58 y132 (wrap64 (t118 + 1))).f3.f2, (rd_T58 y132 (wrap64 (t118 + 1))).f3.f3⟩ : S54), (rd_T58 y132 (wrap64 (t118 + 1))).f4⟩ : S58))).bind fun t138 => (some (t138 == 1))) else (some false))) else (none)) else (none))) else (none))) else (none)) else (none)) else (none)) else (none)) = some r := by first | (rw [hy122]; with_reducible exact H) | (have H2_ := (Option.bind_some _ _).symm.trans H; rw [hy122]; with_reducible exact H2_) | (have H2_ := (Option.bind_some _ _).symm.trans H; with_reducible exact H2_) | with_reducible exact H | (rw [hy122]; exact H) | exact H
                      have Ny122 := Aside0.mk hy122
                      clear hy122
                      obtain ⟨ji35, hji35⟩ : ∃ j_ : Int, (wrap64 (t118 + 1)) = j_ := ⟨_, rfl⟩
                      replace H : (if 0 ≤ (ji35) then (if (ji35) < (y122.length : Int) then (if 0 ≤ t118 then (if t118 < (y122.length : Int) then ((some (([] : List (S58)) : List (S58))).bind fun y129 => (if y129.length + x7_1.length < 1954687338268 then ((some (y129 ++ x7_1 : List (S58))).bind fun y132 => (if t118 < (y132.length : Int) then (if (ji35) < (y132.length : Int) then ((user_Check.f kj27 ((y122.set (t118 : Int).toNat (⟨(rd_T58 y122 (ji35)).f0, (rd_T58 y122 (ji35)).f1, (rd_T58 y122 (ji35)).f2, (⟨(rd_T58 y122 (ji35)).f3.f0, (rd_T58 y122 (ji35)).f3.f1, (rd_T58 y122 (ji35)).f3.f2, (rd_T58 y122 (ji35)).f3.f3⟩ : S54), (rd_T58 y122 (ji35)).f4⟩ : S58)).set ((ji35) : Int).toNat (⟨(rd_T58 y122 t118).f0, (rd_T58 y122 t118).f1, (rd_T58 y122 t118).f2, (⟨(rd_T58 y122 t118).f3.f0, (rd_T58 y122 t118).f3.f1, (rd_T58 y122 t118).f3.f2, (rd_T58 y122 t118).f3.f3⟩ : S54), (rd_T58 y122 t118).f4⟩ : S58))).bind fun t137 => (if t137 = 1 then ((user_Check.f kj27 (y132.set ((ji35) : Int).toNat (⟨(rd_T58 y132 t118).f0, (rd_T58 y132 (ji35)).f1, (rd_T58 y132 (ji35)).f2, (⟨(rd_T58 y132 (ji35)).f3.f0, (rd_T58 y132 (ji35)).f3.f1, (rd_T58 y132 (ji35)).f3.f2, (rd_T58 y132 (ji35)).f3.f3⟩ : S54), (rd_T58 y132 (ji35)).f4⟩ : S58))).bind fun t138 => (some (t138 == 1))) else (some false))) else (none)) else (none))) else (none))) else (none)) else (none)) else (none)) else (none)) = some r := by first | (rw [hji35] at H; exact H) | (simp only [hji35] at H ⊢; exact H)
                      (try rw [hji35] at A33)
                      have hji35w : (IntKind.i64.wrap (t118 + 1)) = ji35 := (i64_w _).trans hji35
                      by_cases c36 : 0 ≤ (ji35)
                      · rw [if_pos c36] at H
                        have c36b0 : decide (0 ≤ (ji35)) = true := decide_eq_true c36
                        clear c36
                        by_cases c37 : (ji35) < (y122.length : Int)
                        · rw [if_pos c37] at H
                          have c37b0 : decide ((ji35) < (y122.length : Int)) = true := decide_eq_true c37
                          clear c37
                          by_cases c38 : 0 ≤ t118
                          · rw [if_pos c38] at H
                            have c38b0 : decide (0 ≤ t118) = true := decide_eq_true c38
                            clear c38
                            by_cases c39 : t118 < (y122.length : Int)
                            · rw [if_pos c39] at H
                              have c39b0 : decide (t118 < (y122.length : Int)) = true := decide_eq_true c39
                              clear c39
                              obtain ⟨y127, hy127⟩ : ∃ y_ : List (S58), y_ = (y122.set (t118 : Int).toNat (⟨(rd_T58 y122 (ji35)).f0, (rd_T58 y122 (ji35)).f1, (rd_T58 y122 (ji35)).f2, (⟨(rd_T58 y122 (ji35)).f3.f0, (rd_T58 y122 (ji35)).f3.f1, (rd_T58 y122 (ji35)).f3.f2, (rd_T58 y122 (ji35)).f3.f3⟩ : S54), (rd_T58 y122 (ji35)).f4⟩ : S58)) := ⟨_, rfl⟩
                              replace H : ((some (([] : List (S58)) : List (S58))).bind fun y129 => (if y129.length + x7_1.length < 1954687338268 then ((some (y129 ++ x7_1 : List (S58))).bind fun y132 => (if t118 < (y132.length : Int) then (if (ji35) < (y132.length : Int) then ((user_Check.f kj27 (y127.set ((ji35) : Int).toNat (⟨(rd_T58 y122 t118).f0, (rd_T58 y122 t118).f1, (rd_T58 y122 t118).f2, (⟨(rd_T58 y122 t118).f3.f0, (rd_T58 y122 t118).f3.f1, (rd_T58 y122 t118).f3.f2, (rd_T58 y122 t118).f3.f3⟩ : S54), (rd_T58 y122 t118).f4⟩ : S58))).bind fun t137 => (if t137 = 1 then ((user_Check.f kj27 (y132.set ((ji35) : Int).toNat (⟨(rd_T58 y132 t118).f0, (rd_T58 y132 (ji35)).f1, (rd_T58 y132 (ji35)).f2, (⟨(rd_T58 y132 (ji35)).f3.f0, (rd_T58 y132 (ji35)).f3.f1, (rd_T58 y132 (ji35)).f3.f2, (rd_T58 y132 (ji35)).f3.f3⟩ : S54), (rd_T58 y132 (ji35)).f4⟩ : S58))).bind fun t138 => (some (t138 == 1))) else (some false))) else (none)) else (none))) else (none))) = some r := by first | (rw [hy127]; with_reducible exact H) | (have H2_ := (Option.bind_some _ _).symm.trans H; rw [hy127]; with_reducible exact H2_) | (have H2_ := (Option.bind_some _ _).symm.trans H; with_reducible exact H2_) | with_reducible exact H | (rw [hy127]; exact H) | exact H
                              have Ny127 := Aside0.mk hy127
                              clear hy127
                              obtain ⟨y128, hy128⟩ : ∃ y_ : List (S58), y_ = (y127.set ((ji35) : Int).toNat (⟨(rd_T58 y122 t118).f0, (rd_T58 y122 t118).f1, (rd_T58 y122 t118).f2, (⟨(rd_T58 y122 t118).f3.f0, (rd_T58 y122 t118).f3.f1, (rd_T58 y122 t118).f3.f2, (rd_T58 y122 t118).f3.f3⟩ : S54), (rd_T58 y122 t118).f4⟩ : S58)) := ⟨_, rfl⟩
                              replace H : ((some (([] : List (S58)) : List (S58))).bind fun y129 => (if y129.length + x7_1.length < 1954687338268 then ((some (y129 ++ x7_1 : List (S58))).bind fun y132 => (if t118 < (y132.length : Int) then (if (ji35) < (y132.length : Int) then ((user_Check.f kj27 y128).bind fun t137 => (if t137 = 1 then ((user_Check.f kj27 (y132.set ((ji35) : Int).toNat (⟨(rd_T58 y132 t118).f0, (rd_T58 y132 (ji35)).f1, (rd_T58 y132 (ji35)).f2, (⟨(rd_T58 y132 (ji35)).f3.f0, (rd_T58 y132 (ji35)).f3.f1, (rd_T58 y132 (ji35)).f3.f2, (rd_T58 y132 (ji35)).f3.f3⟩ : S54), (rd_T58 y132 (ji35)).f4⟩ : S58))).bind fun t138 => (some (t138 == 1))) else (some false))) else (none)) else (none))) else (none))) = some r := by first | (rw [hy128]; with_reducible exact H) | (have H2_ := (Option.bind_some _ _).symm.trans H; rw [hy128]; with_reducible exact H2_) | (have H2_ := (Option.bind_some _ _).symm.trans H; with_reducible exact H2_) | with_reducible exact H | (rw [hy128]; exact H) | exact H
                              have Ny128 := Aside0.mk hy128
                              clear hy128
                              obtain ⟨y129, hy129⟩ : ∃ y_ : List (S58), y_ = (([] : List (S58))) := ⟨_, rfl⟩
                              replace H : (if y129.length + x7_1.length < 1954687338268 then ((some (y129 ++ x7_1 : List (S58))).bind fun y132 => (if t118 < (y132.length : Int) then (if (ji35) < (y132.length : Int) then ((user_Check.f kj27 y128).bind fun t137 => (if t137 = 1 then ((user_Check.f kj27 (y132.set ((ji35) : Int).toNat (⟨(rd_T58 y132 t118).f0, (rd_T58 y132 (ji35)).f1, (rd_T58 y132 (ji35)).f2, (⟨(rd_T58 y132 (ji35)).f3.f0, (rd_T58 y132 (ji35)).f3.f1, (rd_T58 y132 (ji35)).f3.f2, (rd_T58 y132 (ji35)).f3.f3⟩ : S54), (rd_T58 y132 (ji35)).f4⟩ : S58))).bind fun t138 => (some (t138 == 1))) else (some false))) else (none)) else (none))) else (none)) = some r := by first | (rw [hy129]; with_reducible exact H) | (have H2_ := (Option.bind_some _ _).symm.trans H; rw [hy129]; with_reducible exact H2_) | (have H2_ := (Option.bind_some _ _).symm.trans H; with_reducible exact H2_) | with_reducible exact H | (rw [hy129]; exact H) | exact H
                              have Ny129 := Aside0.mk hy129
                              clear hy129
                              by_cases c42 : y129.length + x7_1.length < 1954687338268
                              · rw [if_pos c42] at H
                                have LMc42 := Aside0.mk c42
                                clear c42
                                obtain ⟨y132, hy132⟩ : ∃ y_ : List (S58), y_ = (y129 ++ x7_1) := ⟨_, rfl⟩
                                replace H : (if t118 < (y132.length : Int) then (if (ji35) < (y132.length : Int) then ((user_Check.f kj27 y128).bind fun t137 => (if t137 = 1 then ((user_Check.f kj27 (y132.set ((ji35) : Int).toNat (⟨(rd_T58 y132 t118).f0, (rd_T58 y132 (ji35)).f1, (rd_T58 y132 (ji35)).f2, (⟨(rd_T58 y132 (ji35)).f3.f0, (rd_T58 y132 (ji35)).f3.f1, (rd_T58 y132 (ji35)).f3.f2, (rd_T58 y132 (ji35)).f3.f3⟩ : S54), (rd_T58 y132 (ji35)).f4⟩ : S58))).bind fun t138 => (some (t138 == 1))) else (some false))) else (none)) else (none)) = some r := by first | (rw [hy132]; with_reducible exact H) | (have H2_ := (Option.bind_some _ _).symm.trans H; rw [hy132]; with_reducible exact H2_) | (have H2_ := (Option.bind_some _ _).symm.trans H; with_reducible exact H2_) | with_reducible exact H | (rw [hy132]; exact H) | exact H
                                have Ny132 := Aside0.mk hy132
                                clear hy132
                                by_cases c43 : t118 < (y132.length : Int)
                                · rw [if_pos c43] at H
                                  have c43b0 : decide (t118 < (y132.length : Int)) = true := decide_eq_true c43
                                  clear c43
                                  by_cases c44 : (ji35) < (y132.length : Int)
                                  · rw [if_pos c44] at H
                                    have c44b0 : decide ((ji35) < (y132.length : Int)) = true := decide_eq_true c44
                                    clear c44
                                    obtain ⟨y136, hy136⟩ : ∃ y_ : List (S58), y_ = (y132.set ((ji35) : Int).toNat (⟨(rd_T58 y132 t118).f0, (rd_T58 y132 (ji35)).f1, (rd_T58 y132 (ji35)).f2, (⟨(rd_T58 y132 (ji35)).f3.f0, (rd_T58 y132 (ji35)).f3.f1, (rd_T58 y132 (ji35)).f3.f2, (rd_T58 y132 (ji35)).f3.f3⟩ : S54), (rd_T58 y132 (ji35)).f4⟩ : S58)) := ⟨_, rfl⟩
                                    replace H : ((user_Check.f kj27 y128).bind fun t137 => (if t137 = 1 then ((user_Check.f kj27 y136).bind fun t138 => (some (t138 == 1))) else (some false))) = some r := by first | (rw [hy136]; with_reducible exact H) | (have H2_ := (Option.bind_some _ _).symm.trans H; rw [hy136]; with_reducible exact H2_) | (have H2_ := (Option.bind_some _ _).symm.trans H; with_reducible exact H2_) | with_reducible exact H | (rw [hy136]; exact H) | exact H
                                    have Ny136 := Aside0.mk hy136
                                    clear hy136
                                    replace H := Option.bind_eq_some_iff.mp H
                                    obtain ⟨t137, A460, H⟩ := H
                                    replace H : (if t137 = 1 then ((user_Check.f kj27 y136).bind fun t138 => (some (t138 == 1))) else (some false)) = some r := H
                                    have A46 := Aside0.mk A460
                                    clear A460
                                    by_cases c47 : t137 = 1
                                    · rw [if_pos c47] at H
                                      have c47b0 : (t137 == 1) = true := beq_iff_eq.mpr c47
                                      have c47b1 : (t137 != 1) = false := bne_eq_false_iff_eq.mpr c47
                                      clear c47
                                      replace H := Option.bind_eq_some_iff.mp H
                                      obtain ⟨t138, A480, H⟩ := H
                                      replace H : (some (t138 == 1)) = some r := H
                                      have A48 := Aside0.mk A480
                                      clear A480
                                      obtain rfl := Option.some.inj H
                                      try go_wp2_with (first | ((with_reducible refine gate_callee (f := 41) rfl ?_); refine goesL_ (some 57) rfl rfl Try.func41 (by kernel_rfl) rfl #[.int .i64 a1, .int .i64 (wrap64 ((x7_1.length : Int) - 1))] rfl (by (try simp only [List.map_toArray, List.map_cons, List.map_nil]); first | done | rfl | (simp only [List.length_drop, List.length_take]; rfl)) ?_; (with_reducible refine (donjonlaw9_within.calls a1 (wrap64 ((x7_1.length : Int) - 1)) t118 _ A33.out).mono ?_); rintro e w' ⟨rfl, ⟨nd, rfl⟩⟩; refine ⟨_, rfl, ?_⟩; (try (rw [drewN_self wc]; generalize hq_ : World.drewN wc _ = wc; have n0_ : Aside0 (Kd.R k58 58 wc w.heap.size (fun _ => True) (.slice Ao29 x7_1.length co29) x7_1) := ⟨by rw [← hq_]; exact (by (with_reducible repeat (first | apply Kd.R_alloc | apply Kd.R_drewN | apply Kd.R_drew)); exact HO_7.out)⟩; have n1_ : Aside0 (Below w.heap.size w wc) := ⟨by rw [← hq_]; exact (by repeat (first | (with_reducible first | exact HB.out | apply below_alloc | apply pw_below_drewN | apply below_drew1) | exact HB.out))⟩; clear HO_7 HB hq_; have HO_7 := n0_; have HB := n1_; clear n0_ n1_))) | ((with_reducible refine gate_dst (N := 58) rfl ?_); (try (refine gate_guard (by rfl) ?_; dsimp only)); refine Kd.R_lit k58 _ 58 ?hg (N := 58) ?hd (xs := ([] : List (S58))) (inner := []) (ok := fun _ => True) (okp := fun _ => True) ?hr ?hp (fun _ hk => hk) trivial (Below.refl _ _) (Nat.le_refl _) (by simp) ?_; (case hd => rfl); (case hg => rfl); (case hr => first | (go_simp; done) | (go_simp; rfl)); (case hp => exact (Reps.none _ _)); intro v120 w49 ho50 hb hg_ hnew_; clear hg_ hnew_; (first | rw [← Ny119.out] at ho50 | (simp only [Int.reduceToNat] at ho50; rw [← Ny119.out] at ho50)); have n0_ := Aside0.mk (Kd.R_elder' (by (with_reducible repeat (first | apply Kd.R_alloc | apply Kd.R_drewN | apply Kd.R_drew)); exact HO_7.out) (Kd.R_base ho50) hb); have n1_ := Aside0.mk (Kd.R_lower (Kd.R_new' ho50 (Kd.R_lt (by (with_reducible repeat (first | apply Kd.R_alloc | apply Kd.R_drewN | apply Kd.R_drew)); exact HO_7.out))) (below_size (by repeat (first | (with_reducible first | exact HB.out | apply below_alloc | apply pw_below_drewN | apply below_drew1) | exact HB.out)))); have n2_ := Aside0.mk (below_step (by repeat (first | (with_reducible first | exact HB.out | apply below_alloc | apply pw_below_drewN | apply below_drew1) | exact HB.out)) hb); clear HO_7; clear HB; have HO_7 := n0_; have HO121 := n1_; have HB := n2_; clear n0_ n1_ n2_; clear hb ho50) | ((with_reducible refine gate_builtin (b := .append) (xs := #[.tmp 58, .tmp 59]) rfl ?_); (try (refine gate_guard (by rfl) ?_; dsimp only)); at_builtin; refine Kd.R_append_rows k58 (w0 := w) w.heap.size rfl (.tmp 58) (.tmp 59) 55 58 (.agg #[(.string ⟨#[]⟩), (.int .i64 0), (.int .u64 0), (.int .i64 0), (.int .i64 0), (.int .i64 0), (.int .i64 0), (.bool false)]) 72 rfl Try.underlying55 info58 rfl (by decide) (by omega) v120 y119 x7_1 _ _ _ (fun k_ => some k_ ≠ (.slice Ao29 x7_1.length co29 : Value).ownBlock) (fun _ => False) rfl rfl ?aO ?aR (fun _ _ h => h) (fun _ h => h.elim) ?aF ?aB ?aS ?aL ?_; (case aR => repeat (first | exact (Kd.R_reads' HO_7.out).2.2 | (with_reducible refine Kd.C_alloc ?_ _) | (with_reducible refine Kd.C_drewN ?_ _) | (with_reducible refine Kd.C_drew ?_))); (case aB => exact (by repeat (first | (with_reducible first | exact HB.out | apply below_alloc | apply pw_below_drewN | apply below_drew1) | exact HB.out))); (case aF => exact (fun k_ hk => Kd.fresh' (Kd.R_lt (by (with_reducible repeat (first | apply Kd.R_alloc | apply Kd.R_drewN | apply Kd.R_drew)); exact HO_7.out)) k_ hk)); (case aO => exact (by (with_reducible repeat (first | apply Kd.R_alloc | apply Kd.R_drewN | apply Kd.R_drew)); exact Kd.R_mono HO121.out (fun _ hk => hk.2))); (case aS => exact (below_size (by repeat (first | (with_reducible first | exact HB.out | apply below_alloc | apply pw_below_drewN | apply below_drew1) | exact HB.out)))); (case aL => have := LMc34.out; omega); intro v123 w51 ho hb hg hat; rw [← Ny122.out] at ho; have n0_ := Aside0.mk (Kd.R_after (ok := (fun _ => True)) (by (with_reducible repeat (first | apply Kd.R_alloc | apply Kd.R_drewN | apply Kd.R_drew)); exact HO_7.out) hg hat); have n1_ := Aside0.mk (hb); have n2_ := Aside0.mk (ho); clear HO_7; clear HB; clear HO121; have HO_7 := n0_; have HB := n1_; have HO124 := n2_; clear n0_ n1_ n2_; clear ho hb hg hat))
                                      have n0_ := Aside0.mk (Kd.R_drew HO_7.out)
                                      have n1_ := Aside0.mk (Kd.R_drew HO124.out)
                                      have n2_ := Aside0.mk (below_drew1 HB.out)
                                      clear HO_7
                                      clear HO124
                                      clear HB
                                      have HO_7 := n0_
                                      have HO124 := n1_
                                      have HB := n2_
                                      clear n0_ n1_ n2_
                                      obtain ⟨Ao53, co53, eo53⟩ := Kd.R_slice HO124.out
                                      (first | subst eo53 | (injection eo53 with f1_ f2_ f3_; have f4_ := f1_.symm; have f5_ := f3_.symm; clear f1_ f2_ f3_; subst f4_; subst f5_))
                                      have p125 : 0 ≤ ((ji35) : Int) := of_decide_eq_true (by first | (with_reducible assumption) | assumption)
                                      have q125 : (ji35) < (y122.length : Int) := of_decide_eq_true (by first | (with_reducible assumption) | assumption)
                                      obtain ⟨ad125, e125, hx125_0, hx125_1, hx125_2, hx125_3, hx125_4, hx125_5, hx125_6, hx125_7⟩ := at_T58 (Kd.R_reads' HO124.out).2.2 (ji35) p125 q125
                                      cases e125
                                      replace p125 := eq_true p125
                                      replace q125 := eq_true q125
                                      have p126 : 0 ≤ (t118 : Int) := of_decide_eq_true (by first | (with_reducible assumption) | assumption)
                                      have q126 : t118 < (y122.length : Int) := of_decide_eq_true (by first | (with_reducible assumption) | assumption)
                                      obtain ⟨ad126, e126, hx126_0, hx126_1, hx126_2, hx126_3, hx126_4, hx126_5, hx126_6, hx126_7⟩ := at_T58 (Kd.R_reads' HO124.out).2.2 t118 p126 q126
                                      obtain rfl : ad125 = ad126 := (by injection e126)
                                      replace p126 := eq_true p126
                                      replace q126 := eq_true q126
                                      have p40 : 0 ≤ (t118 : Int) := of_decide_eq_true (by first | (with_reducible assumption) | assumption)
                                      have q40 : (t118 : Int) < ((y122.length : Int) : Int) := of_decide_eq_true (by first | (with_reducible assumption) | assumption)
                                      obtain ⟨go40, co40, eo40, gb40, gl40, cl40, HG40⟩ := Kd.R_form HO124.out (by omega)
                                      (first | cases eo40 | (injection eo40 with ea_ en_ ec_; (first | subst ea_ | (injection ea_ with ea_; subst ea_)); subst ec_; clear en_))
                                      have GB40 := Aside0.mk gb40
                                      have GG40 := Aside0.mk HG40
                                      clear gb40 gl40 HG40
                                      (first | simp only [add_plain] at hx125_0 | skip)
                                      (first | simp only [add_plain] at hx125_1 | skip)
                                      (first | simp only [add_plain] at hx125_2 | skip)
                                      (first | simp only [add_plain] at hx125_3 | skip)
                                      (first | simp only [add_plain] at hx125_4 | skip)
                                      (first | simp only [add_plain] at hx125_5 | skip)
                                      (first | simp only [add_plain] at hx125_6 | skip)
                                      (first | simp only [add_plain] at hx125_7 | skip)
                                      (first | simp only [add_plain] at hx126_0 | skip)
                                      (first | simp only [add_plain] at hx126_1 | skip)
                                      (first | simp only [add_plain] at hx126_2 | skip)
                                      (first | simp only [add_plain] at hx126_3 | skip)
                                      (first | simp only [add_plain] at hx126_4 | skip)
                                      (first | simp only [add_plain] at hx126_5 | skip)
                                      (first | simp only [add_plain] at hx126_6 | skip)
                                      (first | simp only [add_plain] at hx126_7 | skip)
                                      obtain ⟨ce40, hcl40, hM40, hcc40, hfr40⟩ := Kd.R_elem HO124.out z58 (t118 : Int) p40 q40
                                      obtain rfl := k58_openM hM40
                                      have hx40_0 : World.cell? _ ⟨go40, (t118 : Int).toNat * 8, none⟩ = some (.string ((rd_T58 y122 t118).f0)) := hcc40 0 _ rfl
                                      have hx40_1 : World.cell? _ ⟨go40, (t118 : Int).toNat * 8 + 1, none⟩ = some (.int .i64 ((rd_T58 y122 t118).f1)) := hcc40 1 _ rfl
                                      have hx40_2 : World.cell? _ ⟨go40, (t118 : Int).toNat * 8 + 2, none⟩ = some (.int .u64 ((rd_T58 y122 t118).f2)) := hcc40 2 _ rfl
                                      have hx40_3 : World.cell? _ ⟨go40, (t118 : Int).toNat * 8 + 3, none⟩ = some (.int .i64 ((rd_T58 y122 t118).f3.f0)) := hcc40 3 _ rfl
                                      have hx40_4 : World.cell? _ ⟨go40, (t118 : Int).toNat * 8 + 4, none⟩ = some (.int .i64 ((rd_T58 y122 t118).f3.f1)) := hcc40 4 _ rfl
                                      have hx40_5 : World.cell? _ ⟨go40, (t118 : Int).toNat * 8 + 5, none⟩ = some (.int .i64 ((rd_T58 y122 t118).f3.f2)) := hcc40 5 _ rfl
                                      have hx40_6 : World.cell? _ ⟨go40, (t118 : Int).toNat * 8 + 6, none⟩ = some (.int .i64 ((rd_T58 y122 t118).f3.f3)) := hcc40 6 _ rfl
                                      have hx40_7 : World.cell? _ ⟨go40, (t118 : Int).toNat * 8 + 7, none⟩ = some (.bool ((rd_T58 y122 t118).f4)) := hcc40 7 _ rfl
                                      have hf40_0 : World.frozen? _ ⟨go40, (t118 : Int).toNat * 8, none⟩ = false := hfr40 0
                                      (try rw [World.frozen?_setCells] at hf40_0)
                                      have hf40_1 : World.frozen? _ ⟨go40, (t118 : Int).toNat * 8 + 1, none⟩ = false := hfr40 1
                                      (try rw [World.frozen?_setCells] at hf40_1)
                                      have hf40_2 : World.frozen? _ ⟨go40, (t118 : Int).toNat * 8 + 2, none⟩ = false := hfr40 2
                                      (try rw [World.frozen?_setCells] at hf40_2)
                                      have hf40_3 : World.frozen? _ ⟨go40, (t118 : Int).toNat * 8 + 3, none⟩ = false := hfr40 3
                                      (try rw [World.frozen?_setCells] at hf40_3)
                                      have hf40_4 : World.frozen? _ ⟨go40, (t118 : Int).toNat * 8 + 4, none⟩ = false := hfr40 4
                                      (try rw [World.frozen?_setCells] at hf40_4)
                                      have hf40_5 : World.frozen? _ ⟨go40, (t118 : Int).toNat * 8 + 5, none⟩ = false := hfr40 5
                                      (try rw [World.frozen?_setCells] at hf40_5)
                                      have hf40_6 : World.frozen? _ ⟨go40, (t118 : Int).toNat * 8 + 6, none⟩ = false := hfr40 6
                                      (try rw [World.frozen?_setCells] at hf40_6)
                                      have hf40_7 : World.frozen? _ ⟨go40, (t118 : Int).toNat * 8 + 7, none⟩ = false := hfr40 7
                                      (try rw [World.frozen?_setCells] at hf40_7)
                                      clear hcl40 hcc40 hfr40 hM40
                                      replace p40 := eq_true p40
                                      replace q40 := eq_true q40
                                      obtain ⟨ce54, hcl54, hM54, hcc54, hfr54⟩ := Kd.R_elem HO124.out z58 (t118 : Int) (of_decide_eq_true (by first | (with_reducible assumption) | assumption)) (by have h_ : (t118 : Int) < ((y122.length : Int) : Int) := of_decide_eq_true (by first | (with_reducible assumption) | assumption); first | exact h_ | (have e_ := (Kd.R_reads' HO124.out).1; omega) | simpa using h_)
                                      obtain rfl := k58_openM hM54
                                      have HP54 := (Kd.R_seg HO124.out (t118 : Int) (of_decide_eq_true (by first | (with_reducible assumption) | assumption)) (by have h_ : (t118 : Int) < ((y122.length : Int) : Int) := of_decide_eq_true (by first | (with_reducible assumption) | assumption); first | exact h_ | (have e_ := (Kd.R_reads' HO124.out).1; omega) | simpa using h_) (seg := [.string ((rd_T58 y122 (ji35)).f0), .int .i64 ((rd_T58 y122 (ji35)).f1), .int .u64 ((rd_T58 y122 (ji35)).f2), .int .i64 ((rd_T58 y122 (ji35)).f3.f0), .int .i64 ((rd_T58 y122 (ji35)).f3.f1), .int .i64 ((rd_T58 y122 (ji35)).f3.f2), .int .i64 ((rd_T58 y122 (ji35)).f3.f3), .bool ((rd_T58 y122 (ji35)).f4)]) (j := 0) hcl54 hcc54 (show 8 ≤ 8 from by decide) (x' := (⟨(rd_T58 y122 (ji35)).f0, (rd_T58 y122 (ji35)).f1, (rd_T58 y122 (ji35)).f2, (⟨(rd_T58 y122 (ji35)).f3.f0, (rd_T58 y122 (ji35)).f3.f1, (rd_T58 y122 (ji35)).f3.f2, (rd_T58 y122 (ji35)).f3.f3⟩ : S54), (rd_T58 y122 (ji35)).f4⟩ : S58)) (k58_mkM _ _ _ (⟨(rd_T58 y122 (ji35)).f0, (rd_T58 y122 (ji35)).f1, (rd_T58 y122 (ji35)).f2, (⟨(rd_T58 y122 (ji35)).f3.f0, (rd_T58 y122 (ji35)).f3.f1, (rd_T58 y122 (ji35)).f3.f2, (rd_T58 y122 (ji35)).f3.f3⟩ : S54), (rd_T58 y122 (ji35)).f4⟩ : S58) ) (fun _ hk => hk)).1
                                      rw [← Ny127.out] at HP54
                                      have HQ54 := Aside0.mk HP54
                                      clear hcl54 hcc54 hfr54 hM54 HP54
                                      have p41 : 0 ≤ ((ji35) : Int) := of_decide_eq_true (by first | (with_reducible assumption) | assumption)
                                      have q41 : ((ji35) : Int) < ((y122.length : Int) : Int) := of_decide_eq_true (by first | (with_reducible assumption) | assumption)
                                      obtain ⟨ce41, hcl41, hM41, hcc41, hfr41⟩ := Kd.R_elem HQ54.out z58 ((ji35) : Int) p41 q41
                                      obtain rfl := k58_openM hM41
                                      have hx41_0 : World.cell? _ ⟨go40, ((ji35) : Int).toNat * 8, none⟩ = some (.string ((rd_T58 y127 (ji35)).f0)) := hcc41 0 _ rfl
                                      have hx41_1 : World.cell? _ ⟨go40, ((ji35) : Int).toNat * 8 + 1, none⟩ = some (.int .i64 ((rd_T58 y127 (ji35)).f1)) := hcc41 1 _ rfl
                                      have hx41_2 : World.cell? _ ⟨go40, ((ji35) : Int).toNat * 8 + 2, none⟩ = some (.int .u64 ((rd_T58 y127 (ji35)).f2)) := hcc41 2 _ rfl
                                      have hx41_3 : World.cell? _ ⟨go40, ((ji35) : Int).toNat * 8 + 3, none⟩ = some (.int .i64 ((rd_T58 y127 (ji35)).f3.f0)) := hcc41 3 _ rfl
                                      have hx41_4 : World.cell? _ ⟨go40, ((ji35) : Int).toNat * 8 + 4, none⟩ = some (.int .i64 ((rd_T58 y127 (ji35)).f3.f1)) := hcc41 4 _ rfl
                                      have hx41_5 : World.cell? _ ⟨go40, ((ji35) : Int).toNat * 8 + 5, none⟩ = some (.int .i64 ((rd_T58 y127 (ji35)).f3.f2)) := hcc41 5 _ rfl
                                      have hx41_6 : World.cell? _ ⟨go40, ((ji35) : Int).toNat * 8 + 6, none⟩ = some (.int .i64 ((rd_T58 y127 (ji35)).f3.f3)) := hcc41 6 _ rfl
                                      have hx41_7 : World.cell? _ ⟨go40, ((ji35) : Int).toNat * 8 + 7, none⟩ = some (.bool ((rd_T58 y127 (ji35)).f4)) := hcc41 7 _ rfl
                                      have hf41_0 : World.frozen? _ ⟨go40, ((ji35) : Int).toNat * 8, none⟩ = false := hfr41 0
                                      (try rw [World.frozen?_setCells] at hf41_0)
                                      have hf41_1 : World.frozen? _ ⟨go40, ((ji35) : Int).toNat * 8 + 1, none⟩ = false := hfr41 1
                                      (try rw [World.frozen?_setCells] at hf41_1)
                                      have hf41_2 : World.frozen? _ ⟨go40, ((ji35) : Int).toNat * 8 + 2, none⟩ = false := hfr41 2
                                      (try rw [World.frozen?_setCells] at hf41_2)
                                      have hf41_3 : World.frozen? _ ⟨go40, ((ji35) : Int).toNat * 8 + 3, none⟩ = false := hfr41 3
                                      (try rw [World.frozen?_setCells] at hf41_3)
                                      have hf41_4 : World.frozen? _ ⟨go40, ((ji35) : Int).toNat * 8 + 4, none⟩ = false := hfr41 4
                                      (try rw [World.frozen?_setCells] at hf41_4)
                                      have hf41_5 : World.frozen? _ ⟨go40, ((ji35) : Int).toNat * 8 + 5, none⟩ = false := hfr41 5
                                      (try rw [World.frozen?_setCells] at hf41_5)
                                      have hf41_6 : World.frozen? _ ⟨go40, ((ji35) : Int).toNat * 8 + 6, none⟩ = false := hfr41 6
                                      (try rw [World.frozen?_setCells] at hf41_6)
                                      have hf41_7 : World.frozen? _ ⟨go40, ((ji35) : Int).toNat * 8 + 7, none⟩ = false := hfr41 7
                                      (try rw [World.frozen?_setCells] at hf41_7)
                                      clear hcl41 hcc41 hfr41 hM41
                                      replace p41 := eq_true p41
                                      replace q41 := eq_true q41
                                      obtain ⟨ce55, hcl55, hM55, hcc55, hfr55⟩ := Kd.R_elem HQ54.out z58 ((ji35) : Int) (of_decide_eq_true (by first | (with_reducible assumption) | assumption)) (by have h_ : ((ji35) : Int) < ((y122.length : Int) : Int) := of_decide_eq_true (by first | (with_reducible assumption) | assumption); first | exact h_ | (have e_ := (Kd.R_reads' HO124.out).1; omega) | simpa using h_)
                                      obtain rfl := k58_openM hM55
                                      have HP55 := (Kd.R_seg HQ54.out ((ji35) : Int) (of_decide_eq_true (by first | (with_reducible assumption) | assumption)) (by have h_ : ((ji35) : Int) < ((y122.length : Int) : Int) := of_decide_eq_true (by first | (with_reducible assumption) | assumption); first | exact h_ | (have e_ := (Kd.R_reads' HO124.out).1; omega) | simpa using h_) (seg := [.string ((rd_T58 y122 t118).f0), .int .i64 ((rd_T58 y122 t118).f1), .int .u64 ((rd_T58 y122 t118).f2), .int .i64 ((rd_T58 y122 t118).f3.f0), .int .i64 ((rd_T58 y122 t118).f3.f1), .int .i64 ((rd_T58 y122 t118).f3.f2), .int .i64 ((rd_T58 y122 t118).f3.f3), .bool ((rd_T58 y122 t118).f4)]) (j := 0) hcl55 hcc55 (show 8 ≤ 8 from by decide) (x' := (⟨(rd_T58 y122 t118).f0, (rd_T58 y122 t118).f1, (rd_T58 y122 t118).f2, (⟨(rd_T58 y122 t118).f3.f0, (rd_T58 y122 t118).f3.f1, (rd_T58 y122 t118).f3.f2, (rd_T58 y122 t118).f3.f3⟩ : S54), (rd_T58 y122 t118).f4⟩ : S58)) (k58_mkM _ _ _ (⟨(rd_T58 y122 t118).f0, (rd_T58 y122 t118).f1, (rd_T58 y122 t118).f2, (⟨(rd_T58 y122 t118).f3.f0, (rd_T58 y122 t118).f3.f1, (rd_T58 y122 t118).f3.f2, (rd_T58 y122 t118).f3.f3⟩ : S54), (rd_T58 y122 t118).f4⟩ : S58) ) (fun _ hk => hk)).1
                                      rw [← Ny128.out] at HP55
                                      have HQ55 := Aside0.mk HP55
                                      clear hcl55 hcc55 hfr55 hM55 HP55
                                      refine start_ (n := 18) (S := fun w' => w'.cell? ⟨go40, (((ji35)).toNat * 8), none⟩ = some (.string ((rd_T58 y122 (ji35)).f0)) ∧ w'.cell? ⟨go40, (((ji35)).toNat * 8) + 1, none⟩ = some (.int .i64 ((rd_T58 y122 (ji35)).f1)) ∧ w'.cell? ⟨go40, (((ji35)).toNat * 8) + 2, none⟩ = some (.int .u64 ((rd_T58 y122 (ji35)).f2)) ∧ w'.cell? ⟨go40, (((ji35)).toNat * 8) + 3, none⟩ = some (.int .i64 ((rd_T58 y122 (ji35)).f3.f0)) ∧ w'.cell? ⟨go40, (((ji35)).toNat * 8) + 4, none⟩ = some (.int .i64 ((rd_T58 y122 (ji35)).f3.f1)) ∧ w'.cell? ⟨go40, (((ji35)).toNat * 8) + 5, none⟩ = some (.int .i64 ((rd_T58 y122 (ji35)).f3.f2)) ∧ w'.cell? ⟨go40, (((ji35)).toNat * 8) + 6, none⟩ = some (.int .i64 ((rd_T58 y122 (ji35)).f3.f3)) ∧ w'.cell? ⟨go40, (((ji35)).toNat * 8) + 7, none⟩ = some (.bool ((rd_T58 y122 (ji35)).f4)) ∧ w'.cell? ⟨go40, ((t118).toNat * 8), none⟩ = some (.string ((rd_T58 y122 t118).f0)) ∧ w'.cell? ⟨go40, ((t118).toNat * 8) + 1, none⟩ = some (.int .i64 ((rd_T58 y122 t118).f1)) ∧ w'.cell? ⟨go40, ((t118).toNat * 8) + 2, none⟩ = some (.int .u64 ((rd_T58 y122 t118).f2)) ∧ w'.cell? ⟨go40, ((t118).toNat * 8) + 3, none⟩ = some (.int .i64 ((rd_T58 y122 t118).f3.f0)) ∧ w'.cell? ⟨go40, ((t118).toNat * 8) + 4, none⟩ = some (.int .i64 ((rd_T58 y122 t118).f3.f1)) ∧ w'.cell? ⟨go40, ((t118).toNat * 8) + 5, none⟩ = some (.int .i64 ((rd_T58 y122 t118).f3.f2)) ∧ w'.cell? ⟨go40, ((t118).toNat * 8) + 6, none⟩ = some (.int .i64 ((rd_T58 y122 t118).f3.f3)) ∧ w'.cell? ⟨go40, ((t118).toNat * 8) + 7, none⟩ = some (.bool ((rd_T58 y122 t118).f4))) (ds := [15, 17]) #[false, false, false, false, false, false, false, false, false, false, false, false, false, false, false, false, false, false] (by kernel_rfl) rfl rfl ⟨hx125_0, hx125_1, hx125_2, hx125_3, hx125_4, hx125_5, hx125_6, hx125_7, hx126_0, hx126_1, hx126_2, hx126_3, hx126_4, hx126_5, hx126_6, hx126_7⟩ (fun hHeld => ?_); refine with_tabW donjonlaw9_UserOrder.tab17 donjonlaw9_UserOrder.bits17 (fun HT_ HW_ => ?_)
                                      generalize w51.drew = w52 at HO_7 HO124 HB GG40 HQ54 HQ55 hf40_0 hf40_1 hf40_2 hf40_3 hf40_4 hf40_5 hf40_6 hf40_7 hf41_0 hf41_1 hf41_2 hf41_3 hf41_4 hf41_5 hf41_6 hf41_7 hx125_0 hx125_1 hx125_2 hx125_3 hx125_4 hx125_5 hx125_6 hx125_7 hx126_0 hx126_1 hx126_2 hx126_3 hx126_4 hx126_5 hx126_6 hx126_7 hx40_0 hx40_1 hx40_2 hx40_3 hx40_4 hx40_5 hx40_6 hx40_7 hx41_0 hx41_1 hx41_2 hx41_3 hx41_4 hx41_5 hx41_6 hx41_7 hHeld ⊢
                                      refine pure_ (i := 0) (N := some 61) (v := ?_) (a' := ?_) #[true, false, false, false, false, false, false, false, false, false, false, false, false, false, false, false, false, false] rfl rfl (any_of HT_.out (by kernel_rfl)) (fun _ _ _ h => h) (Or.inl ⟨by rfl, ?_⟩) ?_ ?_
                                      rotate_left
                                      · intro w'
                                        go_simp
                                        with_reducible rfl
                                      rotate_left
                                      · simp only [Act.put, List.setIfInBounds_toArray, List.set_cons_zero, List.set_cons_succ, i64_w, i32_w]
                                        rfl
                                      refine pure_ (i := 1) (N := some 62) (v := ?_) (a' := ?_) #[true, true, false, false, false, false, false, false, false, false, false, false, false, false, false, false, false, false] rfl rfl (any_of HT_.out (by kernel_rfl)) (fun _ _ _ h => h) (Or.inl ⟨by rfl, ?_⟩) ?_ ?_
                                      rotate_left
                                      · intro w'
                                        go_simp
                                        with_reducible rfl
                                      rotate_left
                                      · simp only [Act.put, List.setIfInBounds_toArray, List.set_cons_zero, List.set_cons_succ, i64_w, i32_w]
                                        rfl
                                      refine pure_ (i := 2) (N := some 63) (v := ?_) (a' := ?_) #[true, true, true, false, false, false, false, false, false, false, false, false, false, false, false, false, false, false] rfl rfl (any_of HT_.out (by kernel_rfl)) (fun _ _ _ h => h) (Or.inl ⟨by rfl, ?_⟩) ?_ ?_
                                      rotate_left
                                      · intro w'
                                        go_simp
                                        with_reducible rfl
                                      rotate_left
                                      · simp only [Act.put, List.setIfInBounds_toArray, List.set_cons_zero, List.set_cons_succ, i64_w, i32_w]
                                        rfl
                                      refine pure_ (i := 3) (N := some 64) (v := ?_) (a' := ?_) #[true, true, true, true, false, false, false, false, false, false, false, false, false, false, false, false, false, false] rfl rfl (any_of HT_.out (by kernel_rfl)) (fun _ _ _ h => h) (Or.inl ⟨by rfl, ?_⟩) ?_ ?_
                                      rotate_left
                                      · intro w'
                                        go_simp
                                        with_reducible rfl
                                      rotate_left
                                      · simp only [Act.put, List.setIfInBounds_toArray, List.set_cons_zero, List.set_cons_succ, i64_w, i32_w]
                                        rfl
                                      refine pure_ (i := 4) (N := some 65) (v := ?_) (a' := ?_) #[true, true, true, true, true, false, false, false, false, false, false, false, false, false, false, false, false, false] rfl rfl (any_of HT_.out (by kernel_rfl)) (fun _ _ _ h => h) (Or.inl ⟨by rfl, ?_⟩) ?_ ?_
                                      rotate_left
                                      · intro w'
                                        go_simp
                                        with_reducible rfl
                                      rotate_left
                                      · simp only [Act.put, List.setIfInBounds_toArray, List.set_cons_zero, List.set_cons_succ, i64_w, i32_w]
                                        rfl
                                      refine pure_ (i := 5) (N := some 66) (v := ?_) (a' := ?_) #[true, true, true, true, true, true, false, false, false, false, false, false, false, false, false, false, false, false] rfl rfl (any_of HT_.out (by kernel_rfl)) (fun _ _ _ h => h) (Or.inl ⟨by rfl, ?_⟩) ?_ ?_
                                      rotate_left
                                      · intro w'
                                        go_simp
                                        with_reducible rfl
                                      rotate_left
                                      · simp only [Act.put, List.setIfInBounds_toArray, List.set_cons_zero, List.set_cons_succ, i64_w, i32_w]
                                        rfl
                                      refine pure_ (i := 6) (N := some 67) (v := ?_) (a' := ?_) #[true, true, true, true, true, true, true, false, false, false, false, false, false, false, false, false, false, false] rfl rfl (any_of HT_.out (by kernel_rfl)) (fun _ _ _ h => h) (Or.inl ⟨by rfl, ?_⟩) ?_ ?_
                                      rotate_left
                                      · intro w'
                                        go_simp
                                        with_reducible rfl
                                      rotate_left
                                      · simp only [Act.put, List.setIfInBounds_toArray, List.set_cons_zero, List.set_cons_succ, i64_w, i32_w]
                                        rfl
                                      refine pure_ (i := 7) (N := some 68) (v := ?_) (a' := ?_) #[true, true, true, true, true, true, true, true, false, false, false, false, false, false, false, false, false, false] rfl rfl (any_of HT_.out (by kernel_rfl)) (fun _ _ _ h => h) (Or.inl ⟨by rfl, ?_⟩) ?_ ?_
                                      rotate_left
                                      · intro w'
                                        go_simp
                                        with_reducible rfl
                                      rotate_left
                                      · simp only [Act.put, List.setIfInBounds_toArray, List.set_cons_zero, List.set_cons_succ, i64_w, i32_w]
                                        rfl
                                      refine pure_ (i := 8) (N := some 69) (v := ?_) (a' := ?_) #[true, true, true, true, true, true, true, true, true, false, false, false, false, false, false, false, false, false] rfl rfl (any_of HT_.out (by kernel_rfl)) (fun _ _ _ h => h) (Or.inl ⟨by rfl, ?_⟩) ?_ ?_
                                      rotate_left
                                      · intro w'
                                        go_simp
                                        with_reducible rfl
                                      rotate_left
                                      · simp only [Act.put, List.setIfInBounds_toArray, List.set_cons_zero, List.set_cons_succ, i64_w, i32_w]
                                        rfl
                                      refine pure_ (i := 10) (N := some 71) (v := ?_) (a' := ?_) #[true, true, true, true, true, true, true, true, true, false, true, false, false, false, false, false, false, false] rfl rfl (any_of HT_.out (by kernel_rfl)) (fun _ _ _ h => h) (Or.inl ⟨by rfl, ?_⟩) ?_ ?_
                                      rotate_left
                                      · intro w'
                                        go_simp
                                        with_reducible rfl
                                      rotate_left
                                      · simp only [Act.put, List.setIfInBounds_toArray, List.set_cons_zero, List.set_cons_succ, i64_w, i32_w]
                                        rfl
                                      refine pure_ (i := 11) (N := some 72) (v := ?_) (a' := ?_) #[true, true, true, true, true, true, true, true, true, false, true, true, false, false, false, false, false, false] rfl rfl (any_of HT_.out (by kernel_rfl)) (fun _ _ _ h => h) (Or.inl ⟨by rfl, ?_⟩) ?_ ?_
                                      rotate_left
                                      · intro w'
                                        go_simp
                                        with_reducible rfl
                                      rotate_left
                                      · simp only [Act.put, List.setIfInBounds_toArray, List.set_cons_zero, List.set_cons_succ, i64_w, i32_w]
                                        rfl
                                      refine pure_ (i := 12) (N := some 73) (v := ?_) (a' := ?_) #[true, true, true, true, true, true, true, true, true, false, true, true, true, false, false, false, false, false] rfl rfl (any_of HT_.out (by kernel_rfl)) (fun _ _ _ h => h) (Or.inl ⟨by rfl, ?_⟩) ?_ ?_
                                      rotate_left
                                      · intro w'
                                        go_simp
                                        with_reducible rfl
                                      rotate_left
                                      · simp only [Act.put, List.setIfInBounds_toArray, List.set_cons_zero, List.set_cons_succ, i64_w, i32_w]
                                        rfl
                                      refine take_ (i := 9) (N := some 70) (v := ?_) (a' := ?_) #[true, true, true, true, true, true, true, true, true, true, true, true, true, false, false, false, false, false] rfl rfl (take_ofW HT_.out HW_.out (by kernel_rfl)) (fun _ _ _ h => h) (Or.inl ⟨by rfl, ?_⟩) hHeld ?_ ?_
                                      rotate_left
                                      · rintro w' ⟨s0, s1, s2, s3, s4, s5, s6, s7, s8, s9, s10, s11, s12, s13, s14, s15⟩
                                        go_simp
                                        with_reducible rfl
                                      rotate_left
                                      · simp only [Act.put, List.setIfInBounds_toArray, List.set_cons_zero, List.set_cons_succ, i64_w, i32_w]
                                        rfl
                                      refine take_ (i := 13) (N := some 74) (v := ?_) (a' := ?_) #[true, true, true, true, true, true, true, true, true, true, true, true, true, true, false, false, false, false] rfl rfl (take_ofW HT_.out HW_.out (by kernel_rfl)) (fun _ _ _ h => h) (Or.inl ⟨by rfl, ?_⟩) hHeld ?_ ?_
                                      rotate_left
                                      · rintro w' ⟨s0, s1, s2, s3, s4, s5, s6, s7, s8, s9, s10, s11, s12, s13, s14, s15⟩
                                        go_simp
                                        with_reducible rfl
                                      rotate_left
                                      · simp only [Act.put, List.setIfInBounds_toArray, List.set_cons_zero, List.set_cons_succ, i64_w, i32_w]
                                        rfl
                                      refine pure_ (i := 14) (N := some 75) (v := ?_) (a' := ?_) #[true, true, true, true, true, true, true, true, true, true, true, true, true, true, true, false, false, false] rfl rfl (any_of HT_.out (by kernel_rfl)) (fun _ _ _ h => h) (Or.inl ⟨by rfl, ?_⟩) ?_ ?_
                                      rotate_left
                                      · intro w'
                                        go_simp
                                        with_reducible rfl
                                      rotate_left
                                      · simp only [Act.put, List.setIfInBounds_toArray, List.set_cons_zero, List.set_cons_succ, i64_w, i32_w]
                                        rfl
                                      refine last_ (i := 15) (N := none) #[true, true, true, true, true, true, true, true, true, true, true, true, true, true, true, true, false, false] rfl rfl (one_of HT_.out (by kernel_rfl)) (by decide) (fun K hK => ?_)
                                      (try (have hjn_ji35 : ¬ (t118 : Int).toNat = (ji35 : Int).toNat := next_ne hji35 (of_decide_eq_true (by first | (with_reducible assumption) | assumption)) (of_decide_eq_true (by first | (with_reducible assumption) | assumption))))
                                      (try (have hjm_ji35 : ¬ (ji35 : Int).toNat = (t118 : Int).toNat := fun e_ => hjn_ji35 e_.symm))
                                      with_reducible refine skip_ (w1 := ?_) ?_ rfl ?_ ?_
                                      rotate_left
                                      · rfl
                                      · go_simp
                                        rfl
                                      refine hK.out _ _ ?_
                                      clear hK K
                                      refine pure_ (i := 16) (N := some 76) (v := ?_) (a' := ?_) #[true, true, true, true, true, true, true, true, true, true, true, true, true, true, true, true, true, false] rfl rfl (any_of HT_.out (by kernel_rfl)) (fun _ _ _ h => h) (Or.inl ⟨by rfl, ?_⟩) ?_ ?_
                                      rotate_left
                                      · intro w'
                                        go_simp
                                        with_reducible rfl
                                      rotate_left
                                      · simp only [Act.put, List.setIfInBounds_toArray, List.set_cons_zero, List.set_cons_succ, i64_w, i32_w]
                                        rfl
                                      refine last_ (i := 17) (N := none) #[true, true, true, true, true, true, true, true, true, true, true, true, true, true, true, true, true, true] rfl rfl (one_of HT_.out (by kernel_rfl)) (by decide) (fun K hK => ?_)
                                      (try (have hjn_ji35 : ¬ (t118 : Int).toNat = (ji35 : Int).toNat := next_ne hji35 (of_decide_eq_true (by first | (with_reducible assumption) | assumption)) (of_decide_eq_true (by first | (with_reducible assumption) | assumption))))
                                      (try (have hjm_ji35 : ¬ (ji35 : Int).toNat = (t118 : Int).toNat := fun e_ => hjn_ji35 e_.symm))
                                      with_reducible refine skip_ (w1 := ?_) ?_ rfl ?_ ?_
                                      rotate_left
                                      · rfl
                                      · go_simp
                                        rfl
                                      refine hK.out _ _ ?_
                                      clear hK K
                                      refine done_ (done_of HT_.out (by kernel_rfl)) ?_
                                      try go_wp2_with (first | ((with_reducible refine gate_dst (N := 77) rfl ?_); (try (refine gate_guard (by rfl) ?_; dsimp only)); refine Kd.R_lit k58 _ 58 ?hg (N := 77) ?hd (xs := ([] : List (S58))) (inner := []) (ok := fun _ => True) (okp := fun _ => True) ?hr ?hp (fun _ hk => hk) trivial (Below.refl _ _) (Nat.le_refl _) (by simp) ?_; (case hd => rfl); (case hg => rfl); (case hr => first | (go_simp; done) | (go_simp; rfl)); (case hp => exact (Reps.none _ _)); intro v130 w56 ho57 hb hg_ hnew_; clear hg_ hnew_; (first | rw [← Ny129.out] at ho57 | (simp only [Int.reduceToNat] at ho57; rw [← Ny129.out] at ho57)); have n0_ := Aside0.mk (Kd.R_elder' (by (with_reducible repeat (first | apply Kd.R_alloc | apply Kd.R_drewN | apply Kd.R_drew)); exact (Kd.R_mono (Kd.R_far (p := ⟨go40, ((ji35) : Int).toNat * 8 + 7, none⟩) (Kd.R_far (p := ⟨go40, ((ji35) : Int).toNat * 8 + 6, none⟩) (Kd.R_far (p := ⟨go40, ((ji35) : Int).toNat * 8 + 5, none⟩) (Kd.R_far (p := ⟨go40, ((ji35) : Int).toNat * 8 + 4, none⟩) (Kd.R_far (p := ⟨go40, ((ji35) : Int).toNat * 8 + 3, none⟩) (Kd.R_far (p := ⟨go40, ((ji35) : Int).toNat * 8 + 2, none⟩) (Kd.R_far (p := ⟨go40, ((ji35) : Int).toNat * 8 + 1, none⟩) (Kd.R_far (p := ⟨go40, ((ji35) : Int).toNat * 8, none⟩) (Kd.R_far (p := ⟨go40, (t118 : Int).toNat * 8 + 7, none⟩) (Kd.R_far (p := ⟨go40, (t118 : Int).toNat * 8 + 6, none⟩) (Kd.R_far (p := ⟨go40, (t118 : Int).toNat * 8 + 5, none⟩) (Kd.R_far (p := ⟨go40, (t118 : Int).toNat * 8 + 4, none⟩) (Kd.R_far (p := ⟨go40, (t118 : Int).toNat * 8 + 3, none⟩) (Kd.R_far (p := ⟨go40, (t118 : Int).toNat * 8 + 2, none⟩) (Kd.R_far (p := ⟨go40, (t118 : Int).toNat * 8 + 1, none⟩) (Kd.R_far (p := ⟨go40, (t118 : Int).toNat * 8, none⟩) (Kd.R_mono HO_7.out (fun k_ hk => (⟨hk, fun e_ => hk.2 (by rw [e_]; rfl)⟩ : _ ∧ k_ ≠ go40))) (fun _ hk => hk.2) (.string ((rd_T58 y122 (ji35)).f0))) (fun _ hk => hk.2) (.int .i64 ((rd_T58 y122 (ji35)).f1))) (fun _ hk => hk.2) (.int .u64 ((rd_T58 y122 (ji35)).f2))) (fun _ hk => hk.2) (.int .i64 ((rd_T58 y122 (ji35)).f3.f0))) (fun _ hk => hk.2) (.int .i64 ((rd_T58 y122 (ji35)).f3.f1))) (fun _ hk => hk.2) (.int .i64 ((rd_T58 y122 (ji35)).f3.f2))) (fun _ hk => hk.2) (.int .i64 ((rd_T58 y122 (ji35)).f3.f3))) (fun _ hk => hk.2) (.bool ((rd_T58 y122 (ji35)).f4))) (fun _ hk => hk.2) (.string ((rd_T58 y122 t118).f0))) (fun _ hk => hk.2) (.int .i64 ((rd_T58 y122 t118).f1))) (fun _ hk => hk.2) (.int .u64 ((rd_T58 y122 t118).f2))) (fun _ hk => hk.2) (.int .i64 ((rd_T58 y122 t118).f3.f0))) (fun _ hk => hk.2) (.int .i64 ((rd_T58 y122 t118).f3.f1))) (fun _ hk => hk.2) (.int .i64 ((rd_T58 y122 t118).f3.f2))) (fun _ hk => hk.2) (.int .i64 ((rd_T58 y122 t118).f3.f3))) (fun _ hk => hk.2) (.bool ((rd_T58 y122 t118).f4))) (fun _ h_ => h_.1))) (Kd.R_base ho57) hb); have n1_ := Aside0.mk (Kd.R_elder' (by (with_reducible repeat (first | apply Kd.R_alloc | apply Kd.R_drewN | apply Kd.R_drew)); exact HQ55.out) (Kd.R_base ho57) hb); have n2_ := Aside0.mk (Kd.R_lower (Kd.R_new' (Kd.R_new' ho57 (Kd.R_lt (by (with_reducible repeat (first | apply Kd.R_alloc | apply Kd.R_drewN | apply Kd.R_drew)); exact (Kd.R_mono (Kd.R_far (p := ⟨go40, ((ji35) : Int).toNat * 8 + 7, none⟩) (Kd.R_far (p := ⟨go40, ((ji35) : Int).toNat * 8 + 6, none⟩) (Kd.R_far (p := ⟨go40, ((ji35) : Int).toNat * 8 + 5, none⟩) (Kd.R_far (p := ⟨go40, ((ji35) : Int).toNat * 8 + 4, none⟩) (Kd.R_far (p := ⟨go40, ((ji35) : Int).toNat * 8 + 3, none⟩) (Kd.R_far (p := ⟨go40, ((ji35) : Int).toNat * 8 + 2, none⟩) (Kd.R_far (p := ⟨go40, ((ji35) : Int).toNat * 8 + 1, none⟩) (Kd.R_far (p := ⟨go40, ((ji35) : Int).toNat * 8, none⟩) (Kd.R_far (p := ⟨go40, (t118 : Int).toNat * 8 + 7, none⟩) (Kd.R_far (p := ⟨go40, (t118 : Int).toNat * 8 + 6, none⟩) (Kd.R_far (p := ⟨go40, (t118 : Int).toNat * 8 + 5, none⟩) (Kd.R_far (p := ⟨go40, (t118 : Int).toNat * 8 + 4, none⟩) (Kd.R_far (p := ⟨go40, (t118 : Int).toNat * 8 + 3, none⟩) (Kd.R_far (p := ⟨go40, (t118 : Int).toNat * 8 + 2, none⟩) (Kd.R_far (p := ⟨go40, (t118 : Int).toNat * 8 + 1, none⟩) (Kd.R_far (p := ⟨go40, (t118 : Int).toNat * 8, none⟩) (Kd.R_mono HO_7.out (fun k_ hk => (⟨hk, fun e_ => hk.2 (by rw [e_]; rfl)⟩ : _ ∧ k_ ≠ go40))) (fun _ hk => hk.2) (.string ((rd_T58 y122 (ji35)).f0))) (fun _ hk => hk.2) (.int .i64 ((rd_T58 y122 (ji35)).f1))) (fun _ hk => hk.2) (.int .u64 ((rd_T58 y122 (ji35)).f2))) (fun _ hk => hk.2) (.int .i64 ((rd_T58 y122 (ji35)).f3.f0))) (fun _ hk => hk.2) (.int .i64 ((rd_T58 y122 (ji35)).f3.f1))) (fun _ hk => hk.2) (.int .i64 ((rd_T58 y122 (ji35)).f3.f2))) (fun _ hk => hk.2) (.int .i64 ((rd_T58 y122 (ji35)).f3.f3))) (fun _ hk => hk.2) (.bool ((rd_T58 y122 (ji35)).f4))) (fun _ hk => hk.2) (.string ((rd_T58 y122 t118).f0))) (fun _ hk => hk.2) (.int .i64 ((rd_T58 y122 t118).f1))) (fun _ hk => hk.2) (.int .u64 ((rd_T58 y122 t118).f2))) (fun _ hk => hk.2) (.int .i64 ((rd_T58 y122 t118).f3.f0))) (fun _ hk => hk.2) (.int .i64 ((rd_T58 y122 t118).f3.f1))) (fun _ hk => hk.2) (.int .i64 ((rd_T58 y122 t118).f3.f2))) (fun _ hk => hk.2) (.int .i64 ((rd_T58 y122 t118).f3.f3))) (fun _ hk => hk.2) (.bool ((rd_T58 y122 t118).f4))) (fun _ h_ => h_.1))))) (Kd.R_lt (by (with_reducible repeat (first | apply Kd.R_alloc | apply Kd.R_drewN | apply Kd.R_drew)); exact HQ55.out))) (below_size (by repeat (first | (with_reducible first | exact HB.out | apply below_alloc | apply pw_below_drewN | apply below_drew1 | refine below_set ?_ GB40.out | refine below_set ?_ GB40.out | refine below_set ?_ GB40.out | refine below_set ?_ GB40.out | refine below_set ?_ GB40.out | refine below_set ?_ GB40.out | refine below_set ?_ GB40.out | refine below_set ?_ GB40.out | refine below_set ?_ GB40.out | refine below_set ?_ GB40.out | refine below_set ?_ GB40.out | refine below_set ?_ GB40.out | refine below_set ?_ GB40.out | refine below_set ?_ GB40.out | refine below_set ?_ GB40.out | refine below_set ?_ GB40.out) | exact HB.out)))); have n3_ := Aside0.mk (below_step (by repeat (first | (with_reducible first | exact HB.out | apply below_alloc | apply pw_below_drewN | apply below_drew1 | refine below_set ?_ GB40.out | refine below_set ?_ GB40.out | refine below_set ?_ GB40.out | refine below_set ?_ GB40.out | refine below_set ?_ GB40.out | refine below_set ?_ GB40.out | refine below_set ?_ GB40.out | refine below_set ?_ GB40.out | refine below_set ?_ GB40.out | refine below_set ?_ GB40.out | refine below_set ?_ GB40.out | refine below_set ?_ GB40.out | refine below_set ?_ GB40.out | refine below_set ?_ GB40.out | refine below_set ?_ GB40.out | refine below_set ?_ GB40.out) | exact HB.out)) hb); clear HO_7; clear HO124; clear HB; have HO_7 := n0_; have HO124 := n1_; have HO131 := n2_; have HB := n3_; clear n0_ n1_ n2_ n3_; clear hb ho57) | ((with_reducible refine gate_builtin (b := .append) (xs := #[.tmp 77, .tmp 78]) rfl ?_); (try (refine gate_guard (by rfl) ?_; dsimp only)); at_builtin; refine Kd.R_append_rows k58 (w0 := w) w.heap.size rfl (.tmp 77) (.tmp 78) 55 58 (.agg #[(.string ⟨#[]⟩), (.int .i64 0), (.int .u64 0), (.int .i64 0), (.int .i64 0), (.int .i64 0), (.int .i64 0), (.bool false)]) 72 rfl Try.underlying55 info58 rfl (by decide) (by omega) v130 y129 x7_1 _ _ _ (fun k_ => some k_ ≠ (.slice Ao29 x7_1.length co29 : Value).ownBlock ∧ some k_ ≠ (.slice (some ⟨go40, 0, none⟩) y122.length co53 : Value).ownBlock) (fun _ => False) rfl rfl ?aO ?aR (fun _ _ h => h) (fun _ h => h.elim) ?aF ?aB ?aS ?aL ?_; (case aR => repeat (first | exact (Kd.R_reads' HO_7.out).2.2 | (with_reducible refine Kd.C_alloc ?_ _) | (with_reducible refine Kd.C_drewN ?_ _) | (with_reducible refine Kd.C_drew ?_))); (case aB => exact (by repeat (first | (with_reducible first | exact HB.out | apply below_alloc | apply pw_below_drewN | apply below_drew1) | exact HB.out))); (case aF => exact (fun k_ hk => ⟨Kd.fresh' (Kd.R_lt (by (with_reducible repeat (first | apply Kd.R_alloc | apply Kd.R_drewN | apply Kd.R_drew)); exact HO_7.out)) k_ hk, Kd.fresh' (Kd.R_lt (by (with_reducible repeat (first | apply Kd.R_alloc | apply Kd.R_drewN | apply Kd.R_drew)); exact HO124.out)) k_ hk⟩)); (case aO => exact (by (with_reducible repeat (first | apply Kd.R_alloc | apply Kd.R_drewN | apply Kd.R_drew)); exact Kd.R_mono HO131.out (fun _ hk => ⟨hk.1.2, hk.2⟩))); (case aS => exact (below_size (by repeat (first | (with_reducible first | exact HB.out | apply below_alloc | apply pw_below_drewN | apply below_drew1) | exact HB.out)))); (case aL => have := LMc42.out; omega); intro v133 w58 ho hb hg hat; rw [← Ny132.out] at ho; have n0_ := Aside0.mk (Kd.R_after (ok := (fun k_ => some k_ ≠ (.slice (some ⟨go40, 0, none⟩) y122.length co53 : Value).ownBlock)) (by (with_reducible repeat (first | apply Kd.R_alloc | apply Kd.R_drewN | apply Kd.R_drew)); exact Kd.R_mono HO_7.out (fun _ hk => ⟨hk.1.2, hk.2⟩)) hg hat); have n1_ := Aside0.mk (Kd.R_after (ok := (fun k_ => some k_ ≠ (.slice Ao29 x7_1.length co29 : Value).ownBlock)) (by (with_reducible repeat (first | apply Kd.R_alloc | apply Kd.R_drewN | apply Kd.R_drew)); exact HO124.out) hg hat); have n2_ := Aside0.mk (hb); have n3_ := Aside0.mk (ho); clear HO_7; clear HO124; clear HB; clear HO131; have HO_7 := n0_; have HO124 := n1_; have HB := n2_; have HO134 := n3_; clear n0_ n1_ n2_ n3_; clear ho hb hg hat; obtain ⟨Ao59, co59, eo59⟩ := Kd.R_slice HO134.out; subst eo59; have p135 : 0 ≤ (t118 : Int) := of_decide_eq_true (by first | (with_reducible assumption) | assumption); have q135 : t118 < (y132.length : Int) := of_decide_eq_true (by first | (with_reducible assumption) | assumption); obtain ⟨ad135, e135, hx135_0, hx135_1, hx135_2, hx135_3, hx135_4, hx135_5, hx135_6, hx135_7⟩ := at_T58 (Kd.R_reads' HO134.out).2.2 t118 p135 q135; cases e135; replace p135 := eq_true p135; replace q135 := eq_true q135; have p45 : 0 ≤ ((ji35) : Int) := of_decide_eq_true (by first | (with_reducible assumption) | assumption); have q45 : ((ji35) : Int) < ((y132.length : Int) : Int) := of_decide_eq_true (by first | (with_reducible assumption) | assumption); obtain ⟨go45, co45, eo45, gb45, gl45, cl45, HG45⟩ := Kd.R_form HO134.out (by omega); (first | cases eo45 | (injection eo45 with ea_ en_ ec_; (first | subst ea_ | (injection ea_ with ea_; subst ea_)); subst ec_; clear en_)); have GB45 := Aside0.mk gb45; have GG45 := Aside0.mk HG45; clear gb45 gl45 HG45; (first | simp only [add_plain] at hx135_0 | skip); (first | simp only [add_plain] at hx135_1 | skip); (first | simp only [add_plain] at hx135_2 | skip); (first | simp only [add_plain] at hx135_3 | skip); (first | simp only [add_plain] at hx135_4 | skip); (first | simp only [add_plain] at hx135_5 | skip); (first | simp only [add_plain] at hx135_6 | skip); (first | simp only [add_plain] at hx135_7 | skip); obtain ⟨ce45, hcl45, hM45, hcc45, hfr45⟩ := Kd.R_elem HO134.out z58 ((ji35) : Int) p45 q45; obtain rfl := k58_openM hM45; have hx45_0 : w58.cell? ⟨go45, ((ji35) : Int).toNat * 8, none⟩ = some (.string ((rd_T58 y132 (ji35)).f0)) := hcc45 0 _ rfl; have hx45_1 : w58.cell? ⟨go45, ((ji35) : Int).toNat * 8 + 1, none⟩ = some (.int .i64 ((rd_T58 y132 (ji35)).f1)) := hcc45 1 _ rfl; have hx45_2 : w58.cell? ⟨go45, ((ji35) : Int).toNat * 8 + 2, none⟩ = some (.int .u64 ((rd_T58 y132 (ji35)).f2)) := hcc45 2 _ rfl; have hx45_3 : w58.cell? ⟨go45, ((ji35) : Int).toNat * 8 + 3, none⟩ = some (.int .i64 ((rd_T58 y132 (ji35)).f3.f0)) := hcc45 3 _ rfl; have hx45_4 : w58.cell? ⟨go45, ((ji35) : Int).toNat * 8 + 4, none⟩ = some (.int .i64 ((rd_T58 y132 (ji35)).f3.f1)) := hcc45 4 _ rfl; have hx45_5 : w58.cell? ⟨go45, ((ji35) : Int).toNat * 8 + 5, none⟩ = some (.int .i64 ((rd_T58 y132 (ji35)).f3.f2)) := hcc45 5 _ rfl; have hx45_6 : w58.cell? ⟨go45, ((ji35) : Int).toNat * 8 + 6, none⟩ = some (.int .i64 ((rd_T58 y132 (ji35)).f3.f3)) := hcc45 6 _ rfl; have hx45_7 : w58.cell? ⟨go45, ((ji35) : Int).toNat * 8 + 7, none⟩ = some (.bool ((rd_T58 y132 (ji35)).f4)) := hcc45 7 _ rfl; have hf45_0 : w58.frozen? ⟨go45, ((ji35) : Int).toNat * 8, none⟩ = false := hfr45 0; have hf45_1 : w58.frozen? ⟨go45, ((ji35) : Int).toNat * 8 + 1, none⟩ = false := hfr45 1; have hf45_2 : w58.frozen? ⟨go45, ((ji35) : Int).toNat * 8 + 2, none⟩ = false := hfr45 2; have hf45_3 : w58.frozen? ⟨go45, ((ji35) : Int).toNat * 8 + 3, none⟩ = false := hfr45 3; have hf45_4 : w58.frozen? ⟨go45, ((ji35) : Int).toNat * 8 + 4, none⟩ = false := hfr45 4; have hf45_5 : w58.frozen? ⟨go45, ((ji35) : Int).toNat * 8 + 5, none⟩ = false := hfr45 5; have hf45_6 : w58.frozen? ⟨go45, ((ji35) : Int).toNat * 8 + 6, none⟩ = false := hfr45 6; have hf45_7 : w58.frozen? ⟨go45, ((ji35) : Int).toNat * 8 + 7, none⟩ = false := hfr45 7; clear hcl45 hcc45 hfr45 hM45; replace p45 := eq_true p45; replace q45 := eq_true q45; have HX60 := Aside0.mk (show Kd.R k58 58 w58 w.heap.size (fun k_ => some k_ ≠ (.slice Ao29 x7_1.length co29 : Value).ownBlock ∧ some k_ ≠ (.slice (some ⟨go40, 0, none⟩) y122.length co53 : Value).ownBlock) (.slice (some ⟨go45, 0, none⟩) y132.length co59) y132 from (by (with_reducible repeat (first | apply Kd.R_alloc | apply Kd.R_drewN | apply Kd.R_drew)); exact HO134.out)); obtain ⟨ce60, hcl60, hM60, hcc60, hfr60⟩ := Kd.R_elem HX60.out z58 ((ji35) : Int) (of_decide_eq_true (by first | (with_reducible assumption) | assumption)) (by have h_ : ((ji35) : Int) < ((y132.length : Int) : Int) := of_decide_eq_true (by first | (with_reducible assumption) | assumption); first | exact h_ | (have e_ := (Kd.R_reads' HO134.out).1; omega) | simpa using h_); obtain rfl := k58_openM hM60; have HP60 := Kd.R_seg HX60.out ((ji35) : Int) (of_decide_eq_true (by first | (with_reducible assumption) | assumption)) (by have h_ : ((ji35) : Int) < ((y132.length : Int) : Int) := of_decide_eq_true (by first | (with_reducible assumption) | assumption); first | exact h_ | (have e_ := (Kd.R_reads' HO134.out).1; omega) | simpa using h_) (seg := [.string ((rd_T58 y132 t118).f0)]) (j := 0) hcl60 hcc60 (show 1 ≤ 8 from by decide) (x' := (⟨(rd_T58 y132 t118).f0, (rd_T58 y132 (ji35)).f1, (rd_T58 y132 (ji35)).f2, (⟨(rd_T58 y132 (ji35)).f3.f0, (rd_T58 y132 (ji35)).f3.f1, (rd_T58 y132 (ji35)).f3.f2, (rd_T58 y132 (ji35)).f3.f3⟩ : S54), (rd_T58 y132 (ji35)).f4⟩ : S58)) (k58_mkM _ _ _ (⟨(rd_T58 y132 t118).f0, (rd_T58 y132 (ji35)).f1, (rd_T58 y132 (ji35)).f2, (⟨(rd_T58 y132 (ji35)).f3.f0, (rd_T58 y132 (ji35)).f3.f1, (rd_T58 y132 (ji35)).f3.f2, (rd_T58 y132 (ji35)).f3.f3⟩ : S54), (rd_T58 y132 (ji35)).f4⟩ : S58) ) (fun _ hk => hk); have hx60_0 := hcc60 0 _ rfl; (try simp only [show (k58).sz = 8 from rfl, Nat.mul_one, Nat.add_zero] at hx60_0); have hf60_0 := hfr60 0; (try simp only [show (k58).sz = 8 from rfl, Nat.mul_one, Nat.add_zero] at hf60_0); clear hcl60 hcc60 hfr60 hM60) | ((with_reducible refine gate_store (t := 9) (p := 89) rfl ?_); refine store_event (t := 9) (p := 89) (v := ?vo_w61) (w1 := (w58.setCell ⟨go45, ((ji35) : Int).toNat * 8, none⟩ (.string ((rd_T58 y132 t118).f0)))) ?hg ?ho ?hn ?hr ?_; (case ho => rfl); (case hg => rfl); (case hn => rfl); (case hr => first | (go_simp; done) | (go_simp; rfl)); intro w61 hw; have hg : w58.grownBy w61 (some go45) := (by rw [hw]; exact HP60.2); have hp_ : Kd.R k58 58 w61 w.heap.size (fun k_ => some k_ ≠ (.slice Ao29 x7_1.length co29 : Value).ownBlock ∧ some k_ ≠ (.slice (some ⟨go40, 0, none⟩) y122.length co53 : Value).ownBlock) (.slice (some ⟨go45, 0, none⟩) y132.length co59) y136 := (by rw [hw, Ny136.out]; exact HP60.1); clear HP60; have n0_ := Aside0.mk (Kd.R_after (v := (.slice (some ⟨go45, 0, none⟩) y132.length co59)) (v1 := (.slice (some ⟨go45, 0, none⟩) y132.length co59)) (ok := (fun k_ => some k_ ≠ (.slice (some ⟨go40, 0, none⟩) y122.length co53 : Value).ownBlock)) (by (with_reducible repeat (first | apply Kd.R_alloc | apply Kd.R_drewN | apply Kd.R_drew)); exact HO_7.out) hg (.inl rfl)); have n1_ := Aside0.mk (Kd.R_after (v := (.slice (some ⟨go45, 0, none⟩) y132.length co59)) (v1 := (.slice (some ⟨go45, 0, none⟩) y132.length co59)) (ok := (fun k_ => some k_ ≠ (.slice Ao29 x7_1.length co29 : Value).ownBlock)) (by (with_reducible repeat (first | apply Kd.R_alloc | apply Kd.R_drewN | apply Kd.R_drew)); exact HO124.out) hg (.inl rfl)); have n2_ := Aside0.mk (hp_); have n3_ := Aside0.mk ((by rw [hw]; exact below_set (HB.out) GB45.out : Below w.heap.size w w61)); clear HO_7; clear HO124; clear HO134; clear HB; have HO_7 := n0_; have HO124 := n1_; have HO134 := n2_; have HB := n3_; clear n0_ n1_ n2_ n3_; clear hg hw hp_) | ((with_reducible refine gate_callee (f := 38) rfl ?_); refine goesL_ (some 91) rfl rfl Try.func38 (by kernel_rfl) rfl #[.slice (some ⟨go40, 0, none⟩) y128.length co53] rfl (by (try simp only [List.map_toArray, List.map_cons, List.map_nil]); first | done | (rw [show y128.length = y122.length from (Kd.R_reads' HO124.out).1.symm] <;> rfl) | rfl | (simp only [List.length_drop, List.length_take]; rfl)) ?_; (with_reducible refine (user_Check.calls kj27 _ _ y128 t137 _ ?side1 ?side2 A46.out).mono ?_); (case side1 => repeat (first | exact (Kd.R_reads' HO124.out).2.2 | (with_reducible refine Kd.C_alloc ?_ _) | (with_reducible refine Kd.C_drewN ?_ _) | (with_reducible refine Kd.C_drew ?_))); (case side2 => rw [show y128.length = y122.length from (Kd.R_reads' HO124.out).1.symm]; exact (Kd.R_reads' HO124.out).2.1); rintro e w62 ⟨rfl, hb⟩; refine ⟨_, rfl, ?_⟩; have n0_ := Aside0.mk (Kd.R_below (by (with_reducible repeat (first | apply Kd.R_alloc | apply Kd.R_drewN | apply Kd.R_drew)); exact HO_7.out) hb); have n1_ := Aside0.mk (Kd.R_below (by (with_reducible repeat (first | apply Kd.R_alloc | apply Kd.R_drewN | apply Kd.R_drew)); exact HO124.out) hb); have n2_ := Aside0.mk (Kd.R_below (by (with_reducible repeat (first | apply Kd.R_alloc | apply Kd.R_drewN | apply Kd.R_drew)); exact HO134.out) hb); have n3_ := Aside0.mk (below_step (by repeat (first | (with_reducible first | exact HB.out | apply below_alloc | apply pw_below_drewN | apply below_drew1) | exact HB.out)) hb); clear HO_7; clear HO124; clear HO134; clear HB; have HO_7 := n0_; have HO124 := n1_; have HO134 := n2_; have HB := n3_; clear n0_ n1_ n2_ n3_; (try clear hb); (try clear hb2); (try clear hk); (try clear hi)) | (go_at_call 38; refine calls_of_args (args' := #[.slice (some ⟨go45, 0, none⟩) y136.length co59]) (by first | (rw [show y136.length = y132.length from (Kd.R_reads' HO134.out).1.symm] <;> rfl) | rfl) ?_; (with_reducible refine (user_Check.calls kj27 _ _ y136 t138 _ ?side1 ?side2 A48.out).mono ?_); (case side1 => repeat (first | exact (Kd.R_reads' HO134.out).2.2 | (with_reducible refine Kd.C_alloc ?_ _) | (with_reducible refine Kd.C_drewN ?_ _) | (with_reducible refine Kd.C_drew ?_))); (case side2 => rw [show y136.length = y132.length from (Kd.R_reads' HO134.out).1.symm]; exact (Kd.R_reads' HO134.out).2.1); rintro e w63 ⟨rfl, hb⟩; have n0_ := Aside0.mk (Kd.R_below (by (with_reducible repeat (first | apply Kd.R_alloc | apply Kd.R_drewN | apply Kd.R_drew)); exact HO_7.out) hb); have n1_ := Aside0.mk (Kd.R_below (by (with_reducible repeat (first | apply Kd.R_alloc | apply Kd.R_drewN | apply Kd.R_drew)); exact HO124.out) hb); have n2_ := Aside0.mk (Kd.R_below (by (with_reducible repeat (first | apply Kd.R_alloc | apply Kd.R_drewN | apply Kd.R_drew)); exact HO134.out) hb); have n3_ := Aside0.mk (below_step (by repeat (first | (with_reducible first | exact HB.out | apply below_alloc | apply pw_below_drewN | apply below_drew1) | exact HB.out)) hb); clear HO_7; clear HO124; clear HO134; clear HB; have HO_7 := n0_; have HO124 := n1_; have HO134 := n2_; have HB := n3_; clear n0_ n1_ n2_ n3_; (try clear hb); (try clear hb2); (try clear hk); (try clear hi)))
                                      go_ret
                                      exact ⟨by first | rfl | (simp [errW_none, errW_some] <;> rfl) | (simp only [← hji35]; first | rfl | (simp [errW_none, errW_some] <;> rfl)) | (simp [*, errW_none, errW_some] <;> rfl), by repeat (first | (with_reducible first | exact HB.out | apply below_alloc | apply pw_below_drewN | apply below_drew1) | exact HB.out)⟩
                                    · rw [if_neg c47] at H
                                      have c47b0 : (t137 == 1) = false := beq_eq_false_iff_ne.mpr c47
                                      have c47b1 : (t137 != 1) = true := bne_iff_ne.mpr c47
                                      obtain rfl := Option.some.inj H
                                      exact absurd HRT.out (by decide)
                                  · rw [if_neg c44] at H
                                    exact absurd H (by simp)
                                · rw [if_neg c43] at H
                                  exact absurd H (by simp)
                              · rw [if_neg c42] at H
                                exact absurd H (by simp)
                            · rw [if_neg c39] at H
                              exact absurd H (by simp)
                          · rw [if_neg c38] at H
                            exact absurd H (by simp)
                        · rw [if_neg c37] at H
                          exact absurd H (by simp)
                      · rw [if_neg c36] at H
                        exact absurd H (by simp)
                    · rw [if_neg c34] at H
                      exact absurd H (by simp)
    · rw [if_neg c8] at H
      have c8b0 : (t105 == 0) = false := beq_eq_false_iff_ne.mpr c8
      have c8b1 : (t105 != 0) = true := bne_iff_ne.mpr c8
      obtain rfl := Option.some.inj H
      exact absurd HRT.out (by decide)
  · replace c5 := Bool.eq_false_iff.mpr c5
    subst c5
    have H1 : (some false) = some r := by rw [if_neg (show ¬ (false = true) by decide)] at H; exact H
    clear H
    have H := H1
    clear H1
    obtain rfl := Option.some.inj H
    exact absurd HRT.out (by decide)

end Go.Proofs.Ytcjkekdmmjfgeaa.X
