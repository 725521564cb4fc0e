/- Written by a program of this session over the kit's print: YtinbhijeonghaaaF4. -/
import Derived.Test.YtinbhijeonghaaaH
import Derived.Test.YtinbhijeonghaaaF8
import Derived.Test.YtinbhijeonghaaaF9
import Derived.Test.YtinbhijeonghaaaF10
import Derived.Test.YtinbhijeonghaaaF11
namespace Go.Proofs.Ytinbhijeonghaaa.X
open Go.RowKit Go.Proofs.YtinbhijeonghaaaW.PrintWords Go.Proofs.YtinbhijeonghaaaW.PrintLast Go.Proofs.YtinbhijeonghaaaW.PrintMore Go.Proofs.Ytinbhijeonghaaa.More
attribute [local go_sem] max2_int min2_int max_two min_two max_three min_three max_four min_four binOp_string_leq binOp_string_gtr   -- for this text's walks alone
set_option linter.unusedVariables false
set_option linter.unusedSimpArgs false

/-! ### donjonlaw5_AclFull: function 4 -/
mutual
def donjonlaw5_AclFull.l0 : Nat → Int → Int → List (S31) → Int → Option (Bool)
  | 0, _, _, _, _ => none
  | k + 1, x0, x1, x5, x6 => if x6 < x0 then ((acl_Set.f k x5 (strOfNums (([(wrap64 (97 + x6)) % 256] : List Int))) x1).bind fun bt107 => (if ((bt107.2 == 0) != (decide (x6 < 4))) = true then (donjonlaw5_AclFull.j1 k x0 x1 x5 x6 bt107.1 bt107.2 true) else (if bt107.2 = 0 then (donjonlaw5_AclFull.j1 k x0 x1 x5 x6 bt107.1 bt107.2 false) else (if bt107.2 = 4 then (donjonlaw5_AclFull.j1 k x0 x1 x5 x6 bt107.1 bt107.2 ((bt107.1.length : Int) != 0)) else (donjonlaw5_AclFull.j1 k x0 x1 x5 x6 bt107.1 bt107.2 true))))) else (if x0 < 4 then (some ((x5.length : Int) == x0)) else ((acl_Set.f k x5 (⟨#[98]⟩ : ByteArray) (wrap64 (8 - x1))).bind fun bt111 => ((acl_Set.f k bt111.1 (⟨#[97]⟩ : ByteArray) 0).bind fun bt115 => ((acl_Set.f k bt115.1 (⟨#[42]⟩ : ByteArray) x1).bind fun bt119 => ((acl_Set.f k bt119.1 (⟨#[97]⟩ : ByteArray) 0).bind fun bt123 => (if bt111.2 = 0 then (if (bt111.1.length : Int) = 4 then ((acl_Modes.f bt111.1 (⟨#[98]⟩ : ByteArray)).bind fun t127 => (if t127 = (wrap64 (8 - x1)) then (if bt115.2 = 0 then (if (bt115.1.length : Int) = 3 then (if bt119.2 = 0 then (if 0 < (bt119.1.length : Int) then (if ((rd_T31 bt119.1 0).f0).toList = ([42] : List UInt8) then ((acl_Modes.f bt119.1 (⟨#[97]⟩ : ByteArray)).bind fun t129 => (if t129 = x1 then (some (bt123.2 == 2)) else (some false))) else (some false)) else (none)) else (some false)) else (some false)) else (some false)) else (some false))) else (some false)) else (some false)))))))
def donjonlaw5_AclFull.j1 : Nat → Int → Int → List (S31) → Int → List (S31) → Int → Bool → Option (Bool)
  | 0, _, _, _, _, _, _, _ => none
  | k + 1, x0, x1, x5, x6, x7, x8, x57 => if x57 = true then (some false) else (if x8 = 0 then (donjonlaw5_AclFull.l0 k x0 x1 x7 (wrap64 (x6 + 1))) else (donjonlaw5_AclFull.l0 k x0 x1 x5 (wrap64 (x6 + 1))))
end
def donjonlaw5_AclFull.f (k : Nat) (a0 : Int) (a1 : Int) : Option (Bool) := (donjonlaw5_known.f).bind fun t101 => (if t101 = true then ((donjonlaw5_within.f a0 7).bind fun t102 => ((donjonlaw5_within.f a1 7).bind fun t103 => (donjonlaw5_AclFull.l0 k t102 (wrap64 (1 + t103)) ([] : List (S31)) 0))) else (some false))
theorem donjonlaw5_AclFull.mono_l : ∀ k, (∀ y0 y1 y2 y3, LeO (donjonlaw5_AclFull.l0 k y0 y1 y2 y3) (donjonlaw5_AclFull.l0 (k + 1) y0 y1 y2 y3)) ∧ (∀ y0 y1 y2 y3 y4 y5 y6, LeO (donjonlaw5_AclFull.j1 k y0 y1 y2 y3 y4 y5 y6) (donjonlaw5_AclFull.j1 (k + 1) y0 y1 y2 y3 y4 y5 y6))
  | 0 => ⟨fun _ _ _ _ r h => by simp [donjonlaw5_AclFull.l0] at h, fun _ _ _ _ _ _ _ r h => by simp [donjonlaw5_AclFull.j1] at h⟩
  | k + 1 => by
    obtain ⟨ih0, ih1⟩ := donjonlaw5_AclFull.mono_l k
    refine ⟨?_, ?_⟩
    · intro y0 y1 y2 y3
      unfold donjonlaw5_AclFull.l0
      repeat' first
      | (with_reducible exact ih0 _ _ _ _)
      | (with_reducible exact ih1 _ _ _ _ _ _ _)
      | (with_reducible exact acl_Set.mono _ _ _ _)
      | (with_reducible exact LeO.refl _)
      | (with_reducible exact LeO.none _)
      | (with_reducible refine LeO.ite ?_ ?_)
      | (with_reducible refine LeO.bind ?_ (fun _ => ?_))
      | exact ih0 _ _ _ _
      | exact ih1 _ _ _ _ _ _ _
      | exact acl_Set.mono _ _ _ _
      | exact LeO.none _
      | refine LeO.ite ?_ ?_
      | refine LeO.bind ?_ (fun _ => ?_)
    · intro y0 y1 y2 y3 y4 y5 y6
      unfold donjonlaw5_AclFull.j1
      repeat' first
      | (with_reducible exact ih0 _ _ _ _)
      | (with_reducible exact ih1 _ _ _ _ _ _ _)
      | (with_reducible exact acl_Set.mono _ _ _ _)
      | (with_reducible exact LeO.refl _)
      | (with_reducible exact LeO.none _)
      | (with_reducible refine LeO.ite ?_ ?_)
      | (with_reducible refine LeO.bind ?_ (fun _ => ?_))
      | exact ih0 _ _ _ _
      | exact ih1 _ _ _ _ _ _ _
      | exact acl_Set.mono _ _ _ _
      | exact LeO.none _
      | refine LeO.ite ?_ ?_
      | refine LeO.bind ?_ (fun _ => ?_)
theorem donjonlaw5_AclFull.mono : ∀ a0 a1 k, LeO (donjonlaw5_AclFull.f k a0 a1) (donjonlaw5_AclFull.f (k + 1) a0 a1) := by
  intro a0 a1 k
  obtain ⟨ih0, ih1⟩ := donjonlaw5_AclFull.mono_l k
  unfold donjonlaw5_AclFull.f
  repeat' first
      | (with_reducible exact ih0 _ _ _ _)
      | (with_reducible exact ih1 _ _ _ _ _ _ _)
      | (with_reducible exact acl_Set.mono _ _ _ _)
      | (with_reducible exact LeO.refl _)
      | (with_reducible exact LeO.none _)
      | (with_reducible refine LeO.ite ?_ ?_)
      | (with_reducible refine LeO.bind ?_ (fun _ => ?_))
      | exact ih0 _ _ _ _
      | exact ih1 _ _ _ _ _ _ _
      | exact acl_Set.mono _ _ _ _
      | exact LeO.none _
      | refine LeO.ite ?_ ?_
      | refine LeO.bind ?_ (fun _ => ?_)
set_option maxHeartbeats 8000000 in
set_option maxRecDepth 100000 in
theorem donjonlaw5_AclFull.calls (k : Nat) (a0 : Int) (a1 : Int) (r : Bool) (w : World) (hrt0 : r = true) (h : donjonlaw5_AclFull.f k a0 a1 = some r) :
    Calls Try.prog 4 #[.int .i64 a0, .int .i64 a1] w fun e w' => e = .returned (.bool r) ∧ Below w.heap.size w w' := by
  have HRT := Aside0.mk hrt0
  clear hrt0
  have HB := Aside0.mk (Below.refl w.heap.size w)
  have H : ((donjonlaw5_known.f).bind fun t101 => (if t101 = true then ((donjonlaw5_within.f a0 7).bind fun t102 => ((donjonlaw5_within.f a1 7).bind fun t103 => (donjonlaw5_AclFull.l0 k t102 (wrap64 (1 + t103)) ([] : List (S31)) 0))) else (some false))) = some r := h
  clear h
  replace H := Option.bind_eq_some_iff.mp H
  obtain ⟨t101, A30, H⟩ := H
  replace H : (if t101 = true then ((donjonlaw5_within.f a0 7).bind fun t102 => ((donjonlaw5_within.f a1 7).bind fun t103 => (donjonlaw5_AclFull.l0 k t102 (wrap64 (1 + t103)) ([] : List (S31)) 0))) else (some false)) = some r := H
  have A3 := Aside0.mk A30
  clear A30
  by_cases c4 : t101 = true
  · subst c4
    have H1 : ((donjonlaw5_within.f a0 7).bind fun t102 => ((donjonlaw5_within.f a1 7).bind fun t103 => (donjonlaw5_AclFull.l0 k t102 (wrap64 (1 + t103)) ([] : List (S31)) 0))) = some r := by rw [if_pos rfl] at H; exact H
    clear H
    have H := H1
    clear H1
    replace H := Option.bind_eq_some_iff.mp H
    obtain ⟨t102, A50, H⟩ := H
    replace H : ((donjonlaw5_within.f a1 7).bind fun t103 => (donjonlaw5_AclFull.l0 k t102 (wrap64 (1 + t103)) ([] : List (S31)) 0)) = some r := H
    have A5 := Aside0.mk A50
    clear A50
    replace H := Option.bind_eq_some_iff.mp H
    obtain ⟨t103, A60, H⟩ := H
    replace H : (donjonlaw5_AclFull.l0 k t102 (wrap64 (1 + t103)) ([] : List (S31)) 0) = some r := H
    have A6 := Aside0.mk A60
    clear A60
    have H' := Aside0.mk H
    clear H
    go_enter Try.func4, Try.ntmps4
    go_wp2_with (first | ((with_reducible refine gate_callee (f := 8) rfl ?_); refine goesL_ (some 17) rfl rfl Try.func8 (by kernel_rfl) rfl #[] rfl (by (try simp only [List.map_toArray, List.map_cons, List.map_nil]); first | done | rfl | (simp only [List.length_drop, List.length_take]; rfl)) ?_; (with_reducible refine (donjonlaw5_known.calls  true _ A3.out).mono ?_); rintro e w7 ⟨rfl, hb⟩; refine ⟨_, rfl, ?_⟩; have n0_ := Aside0.mk (below_step (by repeat (first | (with_reducible first | exact HB.out | apply below_alloc | apply pw_below_drewN | apply below_drew1) | exact HB.out)) hb); clear HB; have HB := n0_; clear n0_; (try clear hb); (try clear hb2); (try clear hk); (try clear hi)) | ((with_reducible refine gate_callee (f := 10) rfl ?_); refine goesL_ (some 20) rfl rfl Try.func10 (by kernel_rfl) rfl #[.int .i64 a0, .int .i64 7] rfl (by (try simp only [List.map_toArray, List.map_cons, List.map_nil]); first | done | rfl | (simp only [List.length_drop, List.length_take]; rfl)) ?_; (with_reducible refine (donjonlaw5_within.calls a0 7 t102 _ A5.out).mono ?_); rintro e w' ⟨rfl, ⟨nd, rfl⟩⟩; refine ⟨_, rfl, ?_⟩) | ((with_reducible refine gate_callee (f := 10) rfl ?_); refine goesL_ (some 22) rfl rfl Try.func10 (by kernel_rfl) rfl #[.int .i64 a1, .int .i64 7] rfl (by (try simp only [List.map_toArray, List.map_cons, List.map_nil]); first | done | rfl | (simp only [List.length_drop, List.length_take]; rfl)) ?_; (with_reducible refine (donjonlaw5_within.calls a1 7 t103 _ A6.out).mono ?_); rintro e w' ⟨rfl, ⟨nd, rfl⟩⟩; refine ⟨_, rfl, ?_⟩))
    go_loopg [5, 6] k (fun kq v5 v6 w' => ∃ (x5_1 : List (S31)) (x6_1 : Int), v6 = .int .i64 x6_1 ∧ Aside0 (donjonlaw5_AclFull.l0 kq t102 (wrap64 (1 + t103)) x5_1 x6_1 = some r) ∧ Aside0 (kq ≤ k) ∧ Aside0 (Kd.R k31 31 w' w.heap.size (fun _ => True) v5 x5_1) ∧ Aside0 (Below w.heap.size w w'))
    case atStart => exact ⟨(([] : List (S31))), (0), (by first | rfl | (simp; done) | (simp [*]; done)), H', ⟨Nat.le_refl _⟩, ⟨by first | exact Kd.R_nil _ _ _ _ _ | exact Kd.N_nil _ _ _ _ _ | exact Kd.V_nil _ _ _ _ _ | exact Kd.Q_nil _ _ _ _ _ | exact Kd.S_nil _ _ _ _ _⟩, ⟨by repeat (first | (with_reducible first | exact HB.out | apply below_alloc | apply pw_below_drewN | apply below_drew1) | exact HB.out)⟩⟩
    case round =>
      clear H'
      try clear c1
      try clear p2
      try clear c4
      try clear p6
      obtain ⟨x5_1, x6_1, rfl, HA, HK1, HO_5, HB⟩ := hrel
      cases gk with
      | zero => exact absurd HA.out (by simp [donjonlaw5_AclFull.l0])
      | succ k1 =>
        have H := HA.out
        clear HA
        simp only [donjonlaw5_AclFull.l0] at H
        by_cases c8 : x6_1 < t102
        · rw [if_pos c8] at H
          have c8b0 : decide (x6_1 < t102) = true := decide_eq_true c8
          clear c8
          obtain ⟨y104, hy104⟩ : ∃ y_ : List Int, y_ = (([(wrap64 (97 + x6_1)) % 256] : List Int)) := ⟨_, rfl⟩
          replace H : ((acl_Set.f k1 x5_1 (strOfNums y104) (wrap64 (1 + t103))).bind fun bt107 => (if ((bt107.2 == 0) != (decide (x6_1 < 4))) = true then (donjonlaw5_AclFull.j1 k1 t102 (wrap64 (1 + t103)) x5_1 x6_1 bt107.1 bt107.2 true) else (if bt107.2 = 0 then (donjonlaw5_AclFull.j1 k1 t102 (wrap64 (1 + t103)) x5_1 x6_1 bt107.1 bt107.2 false) else (if bt107.2 = 4 then (donjonlaw5_AclFull.j1 k1 t102 (wrap64 (1 + t103)) x5_1 x6_1 bt107.1 bt107.2 ((bt107.1.length : Int) != 0)) else (donjonlaw5_AclFull.j1 k1 t102 (wrap64 (1 + t103)) x5_1 x6_1 bt107.1 bt107.2 true))))) = some r := by first | (rw [hy104]; with_reducible exact H) | (have H2_ := (Option.bind_some _ _).symm.trans H; rw [hy104]; with_reducible exact H2_) | (have H2_ := (Option.bind_some _ _).symm.trans H; with_reducible exact H2_) | with_reducible exact H | (rw [hy104]; exact H) | exact H
          have Ny104 := Aside0.mk hy104
          clear hy104
          replace H := Option.bind_eq_some_iff.mp H
          obtain ⟨⟨t107, t108⟩, A90, H⟩ := H
          replace H : (if ((t108 == 0) != (decide (x6_1 < 4))) = true then (donjonlaw5_AclFull.j1 k1 t102 (wrap64 (1 + t103)) x5_1 x6_1 t107 t108 true) else (if t108 = 0 then (donjonlaw5_AclFull.j1 k1 t102 (wrap64 (1 + t103)) x5_1 x6_1 t107 t108 false) else (if t108 = 4 then (donjonlaw5_AclFull.j1 k1 t102 (wrap64 (1 + t103)) x5_1 x6_1 t107 t108 ((t107.length : Int) != 0)) else (donjonlaw5_AclFull.j1 k1 t102 (wrap64 (1 + t103)) x5_1 x6_1 t107 t108 true)))) = some r := H
          have A9 := Aside0.mk A90
          clear A90
          have HC10 := Aside0.mk H
          clear H
          go_upto_region 9 with (first | ((with_reducible refine gate_dst (N := 34) rfl ?_); (try (refine gate_guard (by rfl) ?_; dsimp only)); refine Kd.R_lit (Kd.int .u8) _ 5 ?hg (N := 34) ?hd (xs := ([(wrap64 (97 + x6_1)) % 256] : List Int)) (inner := [.int .u8 ((wrap64 (97 + x6_1)) % 256)]) (ok := fun _ => True) (okp := fun _ => True) ?hr ?hp (fun _ hk => hk) trivial (Below.refl _ _) (Nat.le_refl _) (by simp) ?_; (case hd => rfl); (case hg => rfl); (case hr => first | (go_simp; done) | (go_simp; rfl)); (case hp => exact (Reps.one (show Kd.M (Kd.int .u8) _ _ _ ((wrap64 (97 + x6_1)) % 256) [.int .u8 ((wrap64 (97 + x6_1)) % 256)] from rfl) (Reps.none _ _))); intro v105 w11 ho12 hb hg_ hnew_; clear hg_ hnew_; (first | rw [← Ny104.out] at ho12 | (simp only [Int.reduceToNat] at ho12; rw [← Ny104.out] at ho12)); have n0_ := Aside0.mk (Kd.R_below (by (with_reducible repeat (first | apply Kd.R_alloc | apply Kd.R_drewN | apply Kd.R_drew)); exact HO_5.out) hb); have n1_ := Aside0.mk (Kd.R_lower ho12 (below_size (by repeat (first | (with_reducible first | exact HB.out | apply below_alloc | apply pw_below_drewN | apply below_drew1) | exact HB.out)))); have n2_ := Aside0.mk (below_step (by repeat (first | (with_reducible first | exact HB.out | apply below_alloc | apply pw_below_drewN | apply below_drew1) | exact HB.out)) hb); clear HO_5; clear HB; have HO_5 := n0_; have HO106 := n1_; have HB := n2_; clear n0_ n1_ n2_; clear hb ho12; have hcv13 := own_string (P := Try.prog) Try.underlying34 Try.underlying5 Try.underlying9 (Kd.own_of_R HO106.out); obtain ⟨Ao14, co14, eo14⟩ := Kd.R_slice HO_5.out; subst eo14) | ((with_reducible refine gate_callee (f := 9) rfl ?_); refine goesL_ (some 37) rfl rfl Try.func9 (by kernel_rfl) rfl #[.slice Ao14 x5_1.length co14, .string (strOfNums y104), .int .i64 (wrap64 (1 + t103))] rfl (by (try simp only [List.map_toArray, List.map_cons, List.map_nil]); first | done | rfl | (simp only [List.length_drop, List.length_take]; rfl)) ?_; (with_reducible refine (acl_Set.calls k1 _ _ x5_1 (strOfNums y104) (wrap64 (1 + t103)) t107 t108 _ ?side1 ?side2 A9.out).mono ?_); (case side1 => repeat (first | exact (Kd.R_reads' HO_5.out).2.2 | (with_reducible refine Kd.C_alloc ?_ _) | (with_reducible refine Kd.C_drewN ?_ _) | (with_reducible refine Kd.C_drew ?_))); (case side2 => exact (Kd.R_reads' HO_5.out).2.1); rintro e w15 ⟨v109, rfl, ho0, hb⟩; refine ⟨_, rfl, ?_⟩; have n0_ := Aside0.mk (Kd.R_elder' (by (with_reducible repeat (first | apply Kd.R_alloc | apply Kd.R_drewN | apply Kd.R_drew)); exact HO_5.out) (Kd.R_base ho0) hb); have n1_ := Aside0.mk (Kd.R_below (by (with_reducible repeat (first | apply Kd.R_alloc | apply Kd.R_drewN | apply Kd.R_drew)); exact HO106.out) hb); have n2_ := Aside0.mk (Kd.R_lower (Kd.R_new' ho0 (Kd.R_lt (by (with_reducible repeat (first | apply Kd.R_alloc | apply Kd.R_drewN | apply Kd.R_drew)); exact HO_5.out))) (below_size (by repeat (first | (with_reducible first | exact HB.out | apply below_alloc | apply pw_below_drewN | apply below_drew1) | exact HB.out)))); have n3_ := Aside0.mk (below_step (by repeat (first | (with_reducible first | exact HB.out | apply below_alloc | apply pw_below_drewN | apply below_drew1) | exact HB.out)) hb); clear HO_5; clear HO106; clear HB; have HO_5 := n0_; have HO106 := n1_; have HO110 := n2_; have HB := n3_; clear n0_ n1_ n2_ n3_; (try clear hb); (try clear hb2); (try clear hk); (try clear hi); (try clear ho0)))
          (try simp only [Act.put, List.setIfInBounds_toArray, List.set_cons_zero, List.set_cons_succ])
          go_cut [57] (fun v57 wc => ∃ (kq : Nat) (x57_9 : Bool), v57 = .bool x57_9 ∧ Aside0 (donjonlaw5_AclFull.j1 kq t102 (wrap64 (1 + t103)) x5_1 x6_1 t107 t108 x57_9 = some r) ∧ Aside0 (kq ≤ k1) ∧ Aside0 (Kd.R k31 31 wc w.heap.size (fun k_ => some k_ ≠ (v109 : Value).ownBlock) (.slice Ao14 x5_1.length co14) x5_1) ∧ Aside0 (Kd.R k31 31 wc w.heap.size (fun k_ => some k_ ≠ ((.slice Ao14 x5_1.length co14) : Value).ownBlock) v109 t107) ∧ Aside0 (Below w.heap.size w wc))
          case first =>
            have H := HC10.out
            clear HC10
            by_cases c16 : ((t108 == 0) != (decide (x6_1 < 4))) = true
            · rw [if_pos c16] at H
              have c16b0 : ((t108 == 0) != (decide (x6_1 < 4))) = true := c16
              (try (have c16b1 : decide ((t108 == 0) = (decide (x6_1 < 4))) = false := by simpa using c16))
              (try (have c16b2 : ((t108 == 0) == (decide (x6_1 < 4))) = false := by simpa using c16))
              (try (have c16b3 : ¬ ((t108 == 0) = (decide (x6_1 < 4))) := by simpa using c16))
              clear c16
              (first | rw [c16b0] | (simp only [i64_w, i32_w]; rw [c16b0]) | skip)
              exact absurd HRT.out (by intro hr_; subst hr_; cases k1 with | zero => exact absurd H (by simp [donjonlaw5_AclFull.j1]) | succ k_ => (revert H; rw [donjonlaw5_AclFull.j1, if_pos rfl]; decide))
            · rw [if_neg c16] at H
              have c16b0 : ((t108 == 0) != (decide (x6_1 < 4))) = false := by simpa using c16
              (try (have c16b1 : decide ((t108 == 0) = (decide (x6_1 < 4))) = true := by simpa using c16))
              (try (have c16b2 : ((t108 == 0) == (decide (x6_1 < 4))) = true := by simpa using c16))
              clear c16
              (first | rw [c16b0] | (simp only [i64_w, i32_w]; rw [c16b0]) | skip)
              by_cases c17 : t108 = 0
              · rw [if_pos c17] at H
                have c17b0 : (t108 == 0) = true := beq_iff_eq.mpr c17
                (try (have c17x0 : decide (x6_1 < 4) = true := by have h_ := c16b0; rw [c17b0] at h_; simpa using h_))
                (try (have c17x1 : decide (x6_1 < 4) = false := by have h_ := c16b0; rw [c17b0] at h_; simpa using h_))
                have c17b1 : (t108 != 0) = false := bne_eq_false_iff_eq.mpr c17
                clear c17
                have H' := Aside0.mk H
                clear H
                go_wp2
                go_meet
                case rel => exact ⟨_, (false), (by first | rfl | (simp; done) | (simp [*]; done)), H', ⟨by have := HK1.out; first | omega | exact Nat.le_refl _⟩, ⟨by (with_reducible repeat (first | apply Kd.R_alloc | apply Kd.R_drewN | apply Kd.R_drew)); exact Kd.R_mono HO_5.out (fun _ hk => hk.2)⟩, ⟨by (with_reducible repeat (first | apply Kd.R_alloc | apply Kd.R_drewN | apply Kd.R_drew)); exact Kd.R_mono HO110.out (fun _ hk => hk.2)⟩, ⟨by repeat (first | (with_reducible first | exact HB.out | apply below_alloc | apply pw_below_drewN | apply below_drew1) | exact HB.out)⟩⟩
              · rw [if_neg c17] at H
                have c17b0 : (t108 == 0) = false := beq_eq_false_iff_ne.mpr c17
                (try (have c17x0 : decide (x6_1 < 4) = true := by have h_ := c16b0; rw [c17b0] at h_; simpa using h_))
                (try (have c17x1 : decide (x6_1 < 4) = false := by have h_ := c16b0; rw [c17b0] at h_; simpa using h_))
                have c17b1 : (t108 != 0) = true := bne_iff_ne.mpr c17
                by_cases c18 : t108 = 4
                · rw [if_pos c18] at H
                  have c18b0 : (t108 == 4) = true := beq_iff_eq.mpr c18
                  have c18b1 : (t108 != 4) = false := bne_eq_false_iff_eq.mpr c18
                  clear c18
                  have H' := Aside0.mk H
                  clear H
                  obtain ⟨Ao19, co19, eo19⟩ := Kd.R_slice HO110.out
                  subst eo19
                  go_wp2
                  go_meet
                  case rel => exact ⟨_, (((t107.length : Int) != 0)), (by first | rfl | (simp; done) | (simp [*]; done)), H', ⟨by have := HK1.out; first | omega | exact Nat.le_refl _⟩, ⟨by (with_reducible repeat (first | apply Kd.R_alloc | apply Kd.R_drewN | apply Kd.R_drew)); exact Kd.R_mono HO_5.out (fun _ hk => hk.2)⟩, ⟨by (with_reducible repeat (first | apply Kd.R_alloc | apply Kd.R_drewN | apply Kd.R_drew)); exact Kd.R_mono HO110.out (fun _ hk => hk.2)⟩, ⟨by repeat (first | (with_reducible first | exact HB.out | apply below_alloc | apply pw_below_drewN | apply below_drew1) | exact HB.out)⟩⟩
                · rw [if_neg c18] at H
                  have c18b0 : (t108 == 4) = false := beq_eq_false_iff_ne.mpr c18
                  have c18b1 : (t108 != 4) = true := bne_iff_ne.mpr c18
                  exact absurd HRT.out (by intro hr_; subst hr_; cases k1 with | zero => exact absurd H (by simp [donjonlaw5_AclFull.j1]) | succ k_ => (revert H; rw [donjonlaw5_AclFull.j1, if_pos rfl]; decide))
          case rest =>
            clear HC10
            try clear c1
            try clear hcv1
            try clear p2
            try clear c4
            try clear p6
            try clear c8
            try clear c8b0
            try clear c9
            try clear c10
            try clear hcv13
            try clear c16
            try clear c16b0
            try clear c16b1
            try clear c16b2
            try clear c17
            try clear c17b0
            try clear c17b1
            try clear c18
            try clear c18b0
            try clear c18b1
            try clear p2
            try clear p6
            obtain ⟨kq, x57_9, rfl, HA, HJ9, HO_5, HO_7, HB⟩ := hcut
            cases kq with
            | zero => exact absurd HA.out (by simp [donjonlaw5_AclFull.j1])
            | succ kj9 =>
              have H := HA.out
              clear HA
              simp only [donjonlaw5_AclFull.j1] at H
              by_cases c20 : x57_9 = true
              · subst c20
                have H1 : (some false) = some r := by rw [if_pos rfl] at H; exact H
                clear H
                have H := H1
                clear H1
                obtain rfl := Option.some.inj H
                exact absurd HRT.out (by decide)
              · replace c20 := Bool.eq_false_iff.mpr c20
                subst c20
                have H1 : (if t108 = 0 then (donjonlaw5_AclFull.l0 kj9 t102 (wrap64 (1 + t103)) t107 (wrap64 (x6_1 + 1))) else (donjonlaw5_AclFull.l0 kj9 t102 (wrap64 (1 + t103)) x5_1 (wrap64 (x6_1 + 1)))) = some r := by rw [if_neg (show ¬ (false = true) by decide)] at H; exact H
                clear H
                have H := H1
                clear H1
                by_cases c21 : t108 = 0
                · rw [if_pos c21] at H
                  have c21b0 : (t108 == 0) = true := beq_iff_eq.mpr c21
                  have c21b1 : (t108 != 0) = false := bne_eq_false_iff_eq.mpr c21
                  clear c21
                  have H' := Aside0.mk H
                  clear H
                  go_wp2
                  go_roundg kj9
                  case measure => have := HK1.out; have := HJ9.out; omega
                  case rel => exact ⟨(t107), (wrap64 (x6_1 + 1)), (by first | rfl | (simp; done) | (simp [*]; done)), H', ⟨by have := HK1.out; have := HJ9.out; omega⟩, ⟨by (with_reducible repeat (first | apply Kd.R_alloc | apply Kd.R_drewN | apply Kd.R_drew)); exact Kd.R_mono HO_7.out (fun _ hk => trivial)⟩, ⟨by repeat (first | (with_reducible first | exact HB.out | apply below_alloc | apply pw_below_drewN | apply below_drew1) | exact HB.out)⟩⟩
                · rw [if_neg c21] at H
                  have c21b0 : (t108 == 0) = false := beq_eq_false_iff_ne.mpr c21
                  have c21b1 : (t108 != 0) = true := bne_iff_ne.mpr c21
                  have H' := Aside0.mk H
                  clear H
                  go_wp2
                  go_roundg kj9
                  case measure => have := HK1.out; have := HJ9.out; omega
                  case rel => exact ⟨(x5_1), (wrap64 (x6_1 + 1)), (by first | rfl | (simp; done) | (simp [*]; done)), H', ⟨by have := HK1.out; have := HJ9.out; omega⟩, ⟨by (with_reducible repeat (first | apply Kd.R_alloc | apply Kd.R_drewN | apply Kd.R_drew)); exact Kd.R_mono HO_5.out (fun _ hk => trivial)⟩, ⟨by repeat (first | (with_reducible first | exact HB.out | apply below_alloc | apply pw_below_drewN | apply below_drew1) | exact HB.out)⟩⟩
        · rw [if_neg c8] at H
          have c8b0 : decide (x6_1 < t102) = false := decide_eq_false c8
          clear c8
          by_cases c22 : t102 < 4
          · rw [if_pos c22] at H
            have c22b0 : decide (t102 < 4) = true := decide_eq_true c22
            clear c22
            obtain rfl := Option.some.inj H
            obtain ⟨Ao23, co23, eo23⟩ := Kd.R_slice HO_5.out
            subst eo23
            go_wp2
            go_ret
            exact ⟨by first | rfl | (simp [errW_none, errW_some] <;> rfl) | (simp [*, errW_none, errW_some] <;> rfl), by repeat (first | (with_reducible first | exact HB.out | apply below_alloc | apply pw_below_drewN | apply below_drew1) | exact HB.out)⟩
          · rw [if_neg c22] at H
            have c22b0 : decide (t102 < 4) = false := decide_eq_false c22
            clear c22
            replace H := Option.bind_eq_some_iff.mp H
            obtain ⟨⟨t111, t112⟩, A240, H⟩ := H
            replace H : ((acl_Set.f k1 t111 (⟨#[97]⟩ : ByteArray) 0).bind fun bt115 => ((acl_Set.f k1 bt115.1 (⟨#[42]⟩ : ByteArray) (wrap64 (1 + t103))).bind fun bt119 => ((acl_Set.f k1 bt119.1 (⟨#[97]⟩ : ByteArray) 0).bind fun bt123 => (if t112 = 0 then (if (t111.length : Int) = 4 then ((acl_Modes.f t111 (⟨#[98]⟩ : ByteArray)).bind fun t127 => (if t127 = (wrap64 (8 - (wrap64 (1 + t103)))) then (if bt115.2 = 0 then (if (bt115.1.length : Int) = 3 then (if bt119.2 = 0 then (if 0 < (bt119.1.length : Int) then (if ((rd_T31 bt119.1 0).f0).toList = ([42] : List UInt8) then ((acl_Modes.f bt119.1 (⟨#[97]⟩ : ByteArray)).bind fun t129 => (if t129 = (wrap64 (1 + t103)) then (some (bt123.2 == 2)) else (some false))) else (some false)) else (none)) else (some false)) else (some false)) else (some false)) else (some false))) else (some false)) else (some false))))) = some r := H
            have A24 := Aside0.mk A240
            clear A240
            replace H := Option.bind_eq_some_iff.mp H
            obtain ⟨⟨t115, t116⟩, A250, H⟩ := H
            replace H : ((acl_Set.f k1 t115 (⟨#[42]⟩ : ByteArray) (wrap64 (1 + t103))).bind fun bt119 => ((acl_Set.f k1 bt119.1 (⟨#[97]⟩ : ByteArray) 0).bind fun bt123 => (if t112 = 0 then (if (t111.length : Int) = 4 then ((acl_Modes.f t111 (⟨#[98]⟩ : ByteArray)).bind fun t127 => (if t127 = (wrap64 (8 - (wrap64 (1 + t103)))) then (if t116 = 0 then (if (t115.length : Int) = 3 then (if bt119.2 = 0 then (if 0 < (bt119.1.length : Int) then (if ((rd_T31 bt119.1 0).f0).toList = ([42] : List UInt8) then ((acl_Modes.f bt119.1 (⟨#[97]⟩ : ByteArray)).bind fun t129 => (if t129 = (wrap64 (1 + t103)) then (some (bt123.2 == 2)) else (some false))) else (some false)) else (none)) else (some false)) else (some false)) else (some false)) else (some false))) else (some false)) else (some false)))) = some r := H
            have A25 := Aside0.mk A250
            clear A250
            replace H := Option.bind_eq_some_iff.mp H
            obtain ⟨⟨t119, t120⟩, A260, H⟩ := H
            replace H : ((acl_Set.f k1 t119 (⟨#[97]⟩ : ByteArray) 0).bind fun bt123 => (if t112 = 0 then (if (t111.length : Int) = 4 then ((acl_Modes.f t111 (⟨#[98]⟩ : ByteArray)).bind fun t127 => (if t127 = (wrap64 (8 - (wrap64 (1 + t103)))) then (if t116 = 0 then (if (t115.length : Int) = 3 then (if t120 = 0 then (if 0 < (t119.length : Int) then (if ((rd_T31 t119 0).f0).toList = ([42] : List UInt8) then ((acl_Modes.f t119 (⟨#[97]⟩ : ByteArray)).bind fun t129 => (if t129 = (wrap64 (1 + t103)) then (some (bt123.2 == 2)) else (some false))) else (some false)) else (none)) else (some false)) else (some false)) else (some false)) else (some false))) else (some false)) else (some false))) = some r := H
            have A26 := Aside0.mk A260
            clear A260
            replace H := Option.bind_eq_some_iff.mp H
            obtain ⟨⟨t123, t124⟩, A270, H⟩ := H
            replace H : (if t112 = 0 then (if (t111.length : Int) = 4 then ((acl_Modes.f t111 (⟨#[98]⟩ : ByteArray)).bind fun t127 => (if t127 = (wrap64 (8 - (wrap64 (1 + t103)))) then (if t116 = 0 then (if (t115.length : Int) = 3 then (if t120 = 0 then (if 0 < (t119.length : Int) then (if ((rd_T31 t119 0).f0).toList = ([42] : List UInt8) then ((acl_Modes.f t119 (⟨#[97]⟩ : ByteArray)).bind fun t129 => (if t129 = (wrap64 (1 + t103)) then (some (t124 == 2)) else (some false))) else (some false)) else (none)) else (some false)) else (some false)) else (some false)) else (some false))) else (some false)) else (some false)) = some r := H
            have A27 := Aside0.mk A270
            clear A270
            by_cases c28 : t112 = 0
            · rw [if_pos c28] at H
              have c28b0 : (t112 == 0) = true := beq_iff_eq.mpr c28
              have c28b1 : (t112 != 0) = false := bne_eq_false_iff_eq.mpr c28
              clear c28
              by_cases c29 : (t111.length : Int) = 4
              · rw [if_pos c29] at H
                have c29b0 : ((t111.length : Int) == 4) = true := beq_iff_eq.mpr c29
                have c29b1 : ((t111.length : Int) != 4) = false := bne_eq_false_iff_eq.mpr c29
                clear c29
                replace H := Option.bind_eq_some_iff.mp H
                obtain ⟨t127, A300, H⟩ := H
                replace H : (if t127 = (wrap64 (8 - (wrap64 (1 + t103)))) then (if t116 = 0 then (if (t115.length : Int) = 3 then (if t120 = 0 then (if 0 < (t119.length : Int) then (if ((rd_T31 t119 0).f0).toList = ([42] : List UInt8) then ((acl_Modes.f t119 (⟨#[97]⟩ : ByteArray)).bind fun t129 => (if t129 = (wrap64 (1 + t103)) then (some (t124 == 2)) else (some false))) else (some false)) else (none)) else (some false)) else (some false)) else (some false)) else (some false)) = some r := H
                have A30 := Aside0.mk A300
                clear A300
                by_cases c31 : t127 = (wrap64 (8 - (wrap64 (1 + t103))))
                · rw [if_pos c31] at H
                  have c31b0 : (t127 == (wrap64 (8 - (wrap64 (1 + t103))))) = true := beq_iff_eq.mpr c31
                  have c31b1 : (t127 != (wrap64 (8 - (wrap64 (1 + t103))))) = false := bne_eq_false_iff_eq.mpr c31
                  clear c31
                  by_cases c32 : t116 = 0
                  · rw [if_pos c32] at H
                    have c32b0 : (t116 == 0) = true := beq_iff_eq.mpr c32
                    have c32b1 : (t116 != 0) = false := bne_eq_false_iff_eq.mpr c32
                    clear c32
                    by_cases c33 : (t115.length : Int) = 3
                    · rw [if_pos c33] at H
                      have c33b0 : ((t115.length : Int) == 3) = true := beq_iff_eq.mpr c33
                      have c33b1 : ((t115.length : Int) != 3) = false := bne_eq_false_iff_eq.mpr c33
                      clear c33
                      by_cases c34 : t120 = 0
                      · rw [if_pos c34] at H
                        have c34b0 : (t120 == 0) = true := beq_iff_eq.mpr c34
                        have c34b1 : (t120 != 0) = false := bne_eq_false_iff_eq.mpr c34
                        clear c34
                        by_cases c35 : 0 < (t119.length : Int)
                        · rw [if_pos c35] at H
                          have c35b0 : decide (0 < (t119.length : Int)) = true := decide_eq_true c35
                          have c35b1 : decide (0 < t119.length) = true := decide_eq_true (by omega)
                          clear c35
                          by_cases c36 : ((rd_T31 t119 0).f0).toList = ([42] : List UInt8)
                          · rw [if_pos c36] at H
                            have c36b0 : (((rd_T31 t119 0).f0).toList == ([42] : List UInt8)) = true := beq_iff_eq.mpr c36
                            have c36b1 : (((rd_T31 t119 0).f0).toList != ([42] : List UInt8)) = false := bne_eq_false_iff_eq.mpr c36
                            clear c36
                            replace H := Option.bind_eq_some_iff.mp H
                            obtain ⟨t129, A370, H⟩ := H
                            replace H : (if t129 = (wrap64 (1 + t103)) then (some (t124 == 2)) else (some false)) = some r := H
                            have A37 := Aside0.mk A370
                            clear A370
                            by_cases c38 : t129 = (wrap64 (1 + t103))
                            · rw [if_pos c38] at H
                              have c38b0 : (t129 == (wrap64 (1 + t103))) = true := beq_iff_eq.mpr c38
                              have c38b1 : (t129 != (wrap64 (1 + t103))) = false := bne_eq_false_iff_eq.mpr c38
                              clear c38
                              obtain rfl := Option.some.inj H
                              obtain ⟨Ao39, co39, eo39⟩ := Kd.R_slice HO_5.out
                              subst eo39
                              go_wp2_with (first | ((with_reducible refine gate_callee (f := 9) rfl ?_); refine goesL_ (some 71) rfl rfl Try.func9 (by kernel_rfl) rfl #[.slice Ao39 x5_1.length co39, .string (⟨#[98]⟩ : ByteArray), .int .i64 (wrap64 (8 - (wrap64 (1 + t103))))] rfl (by (try simp only [List.map_toArray, List.map_cons, List.map_nil]); first | done | rfl | (simp only [List.length_drop, List.length_take]; rfl)) ?_; (with_reducible refine (acl_Set.calls k1 _ _ x5_1 (⟨#[98]⟩ : ByteArray) (wrap64 (8 - (wrap64 (1 + t103)))) t111 t112 _ ?side1 ?side2 A24.out).mono ?_); (case side1 => repeat (first | exact (Kd.R_reads' HO_5.out).2.2 | (with_reducible refine Kd.C_alloc ?_ _) | (with_reducible refine Kd.C_drewN ?_ _) | (with_reducible refine Kd.C_drew ?_))); (case side2 => exact (Kd.R_reads' HO_5.out).2.1); rintro e w40 ⟨v113, rfl, ho0, hb⟩; refine ⟨_, rfl, ?_⟩; have n0_ := Aside0.mk (Kd.R_elder' (by (with_reducible repeat (first | apply Kd.R_alloc | apply Kd.R_drewN | apply Kd.R_drew)); exact HO_5.out) (Kd.R_base ho0) hb); have n1_ := Aside0.mk (Kd.R_lower (Kd.R_new' ho0 (Kd.R_lt (by (with_reducible repeat (first | apply Kd.R_alloc | apply Kd.R_drewN | apply Kd.R_drew)); exact HO_5.out))) (below_size (by repeat (first | (with_reducible first | exact HB.out | apply below_alloc | apply pw_below_drewN | apply below_drew1) | exact HB.out)))); have n2_ := Aside0.mk (below_step (by repeat (first | (with_reducible first | exact HB.out | apply below_alloc | apply pw_below_drewN | apply below_drew1) | exact HB.out)) hb); clear HO_5; clear HB; have HO_5 := n0_; have HO114 := n1_; have HB := n2_; clear n0_ n1_ n2_; (try clear hb); (try clear hb2); (try clear hk); (try clear hi); (try clear ho0); obtain ⟨Ao41, co41, eo41⟩ := Kd.R_slice HO114.out; subst eo41) | ((with_reducible refine gate_callee (f := 9) rfl ?_); refine goesL_ (some 76) rfl rfl Try.func9 (by kernel_rfl) rfl #[.slice Ao41 t111.length co41, .string (⟨#[97]⟩ : ByteArray), .int .i64 0] rfl (by (try simp only [List.map_toArray, List.map_cons, List.map_nil]); first | done | rfl | (simp only [List.length_drop, List.length_take]; rfl)) ?_; (with_reducible refine (acl_Set.calls k1 _ _ t111 (⟨#[97]⟩ : ByteArray) 0 t115 t116 _ ?side1 ?side2 A25.out).mono ?_); (case side1 => repeat (first | exact (Kd.R_reads' HO114.out).2.2 | (with_reducible refine Kd.C_alloc ?_ _) | (with_reducible refine Kd.C_drewN ?_ _) | (with_reducible refine Kd.C_drew ?_))); (case side2 => exact (Kd.R_reads' HO114.out).2.1); rintro e w42 ⟨v117, rfl, ho0, hb⟩; refine ⟨_, rfl, ?_⟩; have n0_ := Aside0.mk (Kd.R_elder' (by (with_reducible repeat (first | apply Kd.R_alloc | apply Kd.R_drewN | apply Kd.R_drew)); exact HO_5.out) (Kd.R_base ho0) hb); have n1_ := Aside0.mk (Kd.R_elder' (by (with_reducible repeat (first | apply Kd.R_alloc | apply Kd.R_drewN | apply Kd.R_drew)); exact HO114.out) (Kd.R_base ho0) hb); have n2_ := Aside0.mk (Kd.R_lower (Kd.R_new' (Kd.R_new' ho0 (Kd.R_lt (by (with_reducible repeat (first | apply Kd.R_alloc | apply Kd.R_drewN | apply Kd.R_drew)); exact HO_5.out))) (Kd.R_lt (by (with_reducible repeat (first | apply Kd.R_alloc | apply Kd.R_drewN | apply Kd.R_drew)); exact HO114.out))) (below_size (by repeat (first | (with_reducible first | exact HB.out | apply below_alloc | apply pw_below_drewN | apply below_drew1) | exact HB.out)))); have n3_ := Aside0.mk (below_step (by repeat (first | (with_reducible first | exact HB.out | apply below_alloc | apply pw_below_drewN | apply below_drew1) | exact HB.out)) hb); clear HO_5; clear HO114; clear HB; have HO_5 := n0_; have HO114 := n1_; have HO118 := n2_; have HB := n3_; clear n0_ n1_ n2_ n3_; (try clear hb); (try clear hb2); (try clear hk); (try clear hi); (try clear ho0); obtain ⟨Ao43, co43, eo43⟩ := Kd.R_slice HO118.out; subst eo43) | ((with_reducible refine gate_callee (f := 9) rfl ?_); refine goesL_ (some 82) rfl rfl Try.func9 (by kernel_rfl) rfl #[.slice Ao43 t115.length co43, .string (⟨#[42]⟩ : ByteArray), .int .i64 (wrap64 (1 + t103))] rfl (by (try simp only [List.map_toArray, List.map_cons, List.map_nil]); first | done | rfl | (simp only [List.length_drop, List.length_take]; rfl)) ?_; (with_reducible refine (acl_Set.calls k1 _ _ t115 (⟨#[42]⟩ : ByteArray) (wrap64 (1 + t103)) t119 t120 _ ?side1 ?side2 A26.out).mono ?_); (case side1 => repeat (first | exact (Kd.R_reads' HO118.out).2.2 | (with_reducible refine Kd.C_alloc ?_ _) | (with_reducible refine Kd.C_drewN ?_ _) | (with_reducible refine Kd.C_drew ?_))); (case side2 => exact (Kd.R_reads' HO118.out).2.1); rintro e w44 ⟨v121, rfl, ho0, hb⟩; refine ⟨_, rfl, ?_⟩; have n0_ := Aside0.mk (Kd.R_elder' (by (with_reducible repeat (first | apply Kd.R_alloc | apply Kd.R_drewN | apply Kd.R_drew)); exact HO_5.out) (Kd.R_base ho0) hb); have n1_ := Aside0.mk (Kd.R_elder' (by (with_reducible repeat (first | apply Kd.R_alloc | apply Kd.R_drewN | apply Kd.R_drew)); exact HO114.out) (Kd.R_base ho0) hb); have n2_ := Aside0.mk (Kd.R_elder' (by (with_reducible repeat (first | apply Kd.R_alloc | apply Kd.R_drewN | apply Kd.R_drew)); exact HO118.out) (Kd.R_base ho0) hb); have n3_ := Aside0.mk (Kd.R_lower (Kd.R_new' (Kd.R_new' (Kd.R_new' ho0 (Kd.R_lt (by (with_reducible repeat (first | apply Kd.R_alloc | apply Kd.R_drewN | apply Kd.R_drew)); exact HO_5.out))) (Kd.R_lt (by (with_reducible repeat (first | apply Kd.R_alloc | apply Kd.R_drewN | apply Kd.R_drew)); exact HO114.out))) (Kd.R_lt (by (with_reducible repeat (first | apply Kd.R_alloc | apply Kd.R_drewN | apply Kd.R_drew)); exact HO118.out))) (below_size (by repeat (first | (with_reducible first | exact HB.out | apply below_alloc | apply pw_below_drewN | apply below_drew1) | exact HB.out)))); have n4_ := Aside0.mk (below_step (by repeat (first | (with_reducible first | exact HB.out | apply below_alloc | apply pw_below_drewN | apply below_drew1) | exact HB.out)) hb); clear HO_5; clear HO114; clear HO118; clear HB; have HO_5 := n0_; have HO114 := n1_; have HO118 := n2_; have HO122 := n3_; have HB := n4_; clear n0_ n1_ n2_ n3_ n4_; (try clear hb); (try clear hb2); (try clear hk); (try clear hi); (try clear ho0); obtain ⟨Ao45, co45, eo45⟩ := Kd.R_slice HO122.out; subst eo45) | ((with_reducible refine gate_callee (f := 9) rfl ?_); refine goesL_ (some 87) rfl rfl Try.func9 (by kernel_rfl) rfl #[.slice Ao45 t119.length co45, .string (⟨#[97]⟩ : ByteArray), .int .i64 0] rfl (by (try simp only [List.map_toArray, List.map_cons, List.map_nil]); first | done | rfl | (simp only [List.length_drop, List.length_take]; rfl)) ?_; (with_reducible refine (acl_Set.calls k1 _ _ t119 (⟨#[97]⟩ : ByteArray) 0 t123 t124 _ ?side1 ?side2 A27.out).mono ?_); (case side1 => repeat (first | exact (Kd.R_reads' HO122.out).2.2 | (with_reducible refine Kd.C_alloc ?_ _) | (with_reducible refine Kd.C_drewN ?_ _) | (with_reducible refine Kd.C_drew ?_))); (case side2 => exact (Kd.R_reads' HO122.out).2.1); rintro e w46 ⟨v125, rfl, ho0, hb⟩; refine ⟨_, rfl, ?_⟩; have n0_ := Aside0.mk (Kd.R_elder' (by (with_reducible repeat (first | apply Kd.R_alloc | apply Kd.R_drewN | apply Kd.R_drew)); exact HO_5.out) (Kd.R_base ho0) hb); have n1_ := Aside0.mk (Kd.R_elder' (by (with_reducible repeat (first | apply Kd.R_alloc | apply Kd.R_drewN | apply Kd.R_drew)); exact HO114.out) (Kd.R_base ho0) hb); have n2_ := Aside0.mk (Kd.R_elder' (by (with_reducible repeat (first | apply Kd.R_alloc | apply Kd.R_drewN | apply Kd.R_drew)); exact HO118.out) (Kd.R_base ho0) hb); have n3_ := Aside0.mk (Kd.R_elder' (by (with_reducible repeat (first | apply Kd.R_alloc | apply Kd.R_drewN | apply Kd.R_drew)); exact HO122.out) (Kd.R_base ho0) hb); have n4_ := Aside0.mk (Kd.R_lower (Kd.R_new' (Kd.R_new' (Kd.R_new' (Kd.R_new' ho0 (Kd.R_lt (by (with_reducible repeat (first | apply Kd.R_alloc | apply Kd.R_drewN | apply Kd.R_drew)); exact HO_5.out))) (Kd.R_lt (by (with_reducible repeat (first | apply Kd.R_alloc | apply Kd.R_drewN | apply Kd.R_drew)); exact HO114.out))) (Kd.R_lt (by (with_reducible repeat (first | apply Kd.R_alloc | apply Kd.R_drewN | apply Kd.R_drew)); exact HO118.out))) (Kd.R_lt (by (with_reducible repeat (first | apply Kd.R_alloc | apply Kd.R_drewN | apply Kd.R_drew)); exact HO122.out))) (below_size (by repeat (first | (with_reducible first | exact HB.out | apply below_alloc | apply pw_below_drewN | apply below_drew1) | exact HB.out)))); have n5_ := Aside0.mk (below_step (by repeat (first | (with_reducible first | exact HB.out | apply below_alloc | apply pw_below_drewN | apply below_drew1) | exact HB.out)) hb); clear HO_5; clear HO114; clear HO118; clear HO122; clear HB; have HO_5 := n0_; have HO114 := n1_; have HO118 := n2_; have HO122 := n3_; have HO126 := n4_; have HB := n5_; clear n0_ n1_ n2_ n3_ n4_ n5_; (try clear hb); (try clear hb2); (try clear hk); (try clear hi); (try clear ho0)) | (go_at_call 11; (with_reducible refine (acl_Modes.calls _ _ t111 (⟨#[98]⟩ : ByteArray) t127 _ ?side1 ?side2 A30.out).mono ?_); (case side1 => repeat (first | exact (Kd.R_reads' HO114.out).2.2 | (with_reducible refine Kd.C_alloc ?_ _) | (with_reducible refine Kd.C_drewN ?_ _) | (with_reducible refine Kd.C_drew ?_))); (case side2 => exact (Kd.R_reads' HO114.out).2.1); rintro e w47 ⟨rfl, hb⟩; have n0_ := Aside0.mk (Kd.R_below (by (with_reducible repeat (first | apply Kd.R_alloc | apply Kd.R_drewN | apply Kd.R_drew)); exact HO_5.out) hb); have n1_ := Aside0.mk (Kd.R_below (by (with_reducible repeat (first | apply Kd.R_alloc | apply Kd.R_drewN | apply Kd.R_drew)); exact HO114.out) hb); have n2_ := Aside0.mk (Kd.R_below (by (with_reducible repeat (first | apply Kd.R_alloc | apply Kd.R_drewN | apply Kd.R_drew)); exact HO118.out) hb); have n3_ := Aside0.mk (Kd.R_below (by (with_reducible repeat (first | apply Kd.R_alloc | apply Kd.R_drewN | apply Kd.R_drew)); exact HO122.out) hb); have n4_ := Aside0.mk (Kd.R_below (by (with_reducible repeat (first | apply Kd.R_alloc | apply Kd.R_drewN | apply Kd.R_drew)); exact HO126.out) hb); have n5_ := Aside0.mk (below_step (by repeat (first | (with_reducible first | exact HB.out | apply below_alloc | apply pw_below_drewN | apply below_drew1) | exact HB.out)) hb); clear HO_5; clear HO114; clear HO118; clear HO122; clear HO126; clear HB; have HO_5 := n0_; have HO114 := n1_; have HO118 := n2_; have HO122 := n3_; have HO126 := n4_; have HB := n5_; clear n0_ n1_ n2_ n3_ n4_ n5_; (try clear hb); (try clear hb2); (try clear hk); (try clear hi); have p128 : 0 ≤ (0 : Int) := (by omega); have q128 : 0 < (t119.length : Int) := of_decide_eq_true (by first | (with_reducible assumption) | assumption); obtain ⟨ad128, e128, hx128_0, hx128_1⟩ := at_T31 (Kd.R_reads' HO122.out).2.2 0 p128 q128; cases e128; have qi128 : (0 < t119.length) = True := eq_true (by omega); (try rw [show ((0 : Int)).toNat = 0 from rfl] at hx128_0); (try rw [show 0 * 2 = 0 from rfl] at hx128_0); (try rw [Addr.add_zero'] at hx128_0); (try rw [show ((0 : Int)).toNat = 0 from rfl] at hx128_1); (try rw [show 0 * 2 = 0 from rfl] at hx128_1); (try rw [Addr.add_zero'] at hx128_1); replace p128 := eq_true p128; replace q128 := eq_true q128) | (go_at_call 11; (with_reducible refine (acl_Modes.calls _ _ t119 (⟨#[97]⟩ : ByteArray) t129 _ ?side1 ?side2 A37.out).mono ?_); (case side1 => repeat (first | exact (Kd.R_reads' HO122.out).2.2 | (with_reducible refine Kd.C_alloc ?_ _) | (with_reducible refine Kd.C_drewN ?_ _) | (with_reducible refine Kd.C_drew ?_))); (case side2 => exact (Kd.R_reads' HO122.out).2.1); rintro e w48 ⟨rfl, hb⟩; have n0_ := Aside0.mk (Kd.R_below (by (with_reducible repeat (first | apply Kd.R_alloc | apply Kd.R_drewN | apply Kd.R_drew)); exact HO_5.out) hb); have n1_ := Aside0.mk (Kd.R_below (by (with_reducible repeat (first | apply Kd.R_alloc | apply Kd.R_drewN | apply Kd.R_drew)); exact HO114.out) hb); have n2_ := Aside0.mk (Kd.R_below (by (with_reducible repeat (first | apply Kd.R_alloc | apply Kd.R_drewN | apply Kd.R_drew)); exact HO118.out) hb); have n3_ := Aside0.mk (Kd.R_below (by (with_reducible repeat (first | apply Kd.R_alloc | apply Kd.R_drewN | apply Kd.R_drew)); exact HO122.out) hb); have n4_ := Aside0.mk (Kd.R_below (by (with_reducible repeat (first | apply Kd.R_alloc | apply Kd.R_drewN | apply Kd.R_drew)); exact HO126.out) hb); have n5_ := Aside0.mk (below_step (by repeat (first | (with_reducible first | exact HB.out | apply below_alloc | apply pw_below_drewN | apply below_drew1) | exact HB.out)) hb); clear HO_5; clear HO114; clear HO118; clear HO122; clear HO126; clear HB; have HO_5 := n0_; have HO114 := n1_; have HO118 := n2_; have HO122 := n3_; have HO126 := n4_; have HB := n5_; clear n0_ n1_ n2_ n3_ n4_ n5_; (try clear hb); (try clear hb2); (try clear hk); (try clear hi)))
                              go_ret
                              exact ⟨by first | rfl | (simp [errW_none, errW_some] <;> rfl) | (simp [*, errW_none, errW_some] <;> rfl), by repeat (first | (with_reducible first | exact HB.out | apply below_alloc | apply pw_below_drewN | apply below_drew1) | exact HB.out)⟩
                            · rw [if_neg c38] at H
                              have c38b0 : (t129 == (wrap64 (1 + t103))) = false := beq_eq_false_iff_ne.mpr c38
                              have c38b1 : (t129 != (wrap64 (1 + t103))) = true := bne_iff_ne.mpr c38
                              obtain rfl := Option.some.inj H
                              exact absurd HRT.out (by decide)
                          · rw [if_neg c36] at H
                            have c36b0 : (((rd_T31 t119 0).f0).toList == ([42] : List UInt8)) = false := beq_eq_false_iff_ne.mpr c36
                            have c36b1 : (((rd_T31 t119 0).f0).toList != ([42] : List UInt8)) = true := bne_iff_ne.mpr c36
                            obtain rfl := Option.some.inj H
                            exact absurd HRT.out (by decide)
                        · rw [if_neg c35] at H
                          exact absurd H (by simp)
                      · rw [if_neg c34] at H
                        have c34b0 : (t120 == 0) = false := beq_eq_false_iff_ne.mpr c34
                        have c34b1 : (t120 != 0) = true := bne_iff_ne.mpr c34
                        obtain rfl := Option.some.inj H
                        exact absurd HRT.out (by decide)
                    · rw [if_neg c33] at H
                      have c33b0 : ((t115.length : Int) == 3) = false := beq_eq_false_iff_ne.mpr c33
                      have c33b1 : ((t115.length : Int) != 3) = true := bne_iff_ne.mpr c33
                      obtain rfl := Option.some.inj H
                      exact absurd HRT.out (by decide)
                  · rw [if_neg c32] at H
                    have c32b0 : (t116 == 0) = false := beq_eq_false_iff_ne.mpr c32
                    have c32b1 : (t116 != 0) = true := bne_iff_ne.mpr c32
                    obtain rfl := Option.some.inj H
                    exact absurd HRT.out (by decide)
                · rw [if_neg c31] at H
                  have c31b0 : (t127 == (wrap64 (8 - (wrap64 (1 + t103))))) = false := beq_eq_false_iff_ne.mpr c31
                  have c31b1 : (t127 != (wrap64 (8 - (wrap64 (1 + t103))))) = true := bne_iff_ne.mpr c31
                  obtain rfl := Option.some.inj H
                  exact absurd HRT.out (by decide)
              · rw [if_neg c29] at H
                have c29b0 : ((t111.length : Int) == 4) = false := beq_eq_false_iff_ne.mpr c29
                have c29b1 : ((t111.length : Int) != 4) = true := bne_iff_ne.mpr c29
                obtain rfl := Option.some.inj H
                exact absurd HRT.out (by decide)
            · rw [if_neg c28] at H
              have c28b0 : (t112 == 0) = false := beq_eq_false_iff_ne.mpr c28
              have c28b1 : (t112 != 0) = true := bne_iff_ne.mpr c28
              obtain rfl := Option.some.inj H
              exact absurd HRT.out (by decide)
  · replace c4 := Bool.eq_false_iff.mpr c4
    subst c4
    have H1 : (some false) = some r := by rw [if_neg (show ¬ (false = true) by decide)] at H; exact H
    clear H
    have H := H1
    clear H1
    obtain rfl := Option.some.inj H
    exact absurd HRT.out (by decide)

end Go.Proofs.Ytinbhijeonghaaa.X
