/- Written by a program of this session over the kit's print: YtinbhijeonghaaaF9. -/
import Derived.Test.YtinbhijeonghaaaH
import Derived.Test.YtinbhijeonghaaaF25
import Derived.Test.YtinbhijeonghaaaF26
import Derived.Test.YtinbhijeonghaaaF27
import Derived.Test.YtinbhijeonghaaaF28
namespace Go.Proofs.Ytinbhijeonghaaa.X
open Go.RowKit Go.Proofs.YtinbhijeonghaaaW.PrintWords Go.Proofs.YtinbhijeonghaaaW.PrintLast Go.Proofs.YtinbhijeonghaaaW.PrintMore Go.Proofs.Ytinbhijeonghaaa.More
attribute [local go_sem] max2_int min2_int max_two min_two max_three min_three max_four min_four binOp_string_leq binOp_string_gtr   -- for this text's walks alone
set_option linter.unusedVariables false
set_option linter.unusedSimpArgs false

/-! ### acl_Set: function 9 -/
mutual
def acl_Set.j0 : Nat → List (S31) → ByteArray → Int → Bool → Option ((List (S31)) × Int)
  | 0, _, _, _, _ => none
  | k + 1, x0, x1, x2, x21 => if x21 = true then (some (([] : List (S31)), 1)) else (if 0 ≤ (x0.length : Int) then (if ((x0.length : Int) : Int).toNat ≤ 11728124029610 then (if (List.replicate ((x0.length : Int) : Int).toNat z31).length = x0.length then ((some (x0 : List (S31))).bind fun y105 => ((acl_place.f y105 x1).bind fun bt106 => (if x2 = 0 then (acl_Set.j1 k x1 x2 y105 bt106.1 bt106.2 (!bt106.2)) else (acl_Set.j1 k x1 x2 y105 bt106.1 bt106.2 false)))) else (none)) else (none)) else (none))
def acl_Set.j1 : Nat → ByteArray → Int → List (S31) → Int → Bool → Bool → Option ((List (S31)) × Int)
  | 0, _, _, _, _, _, _ => none
  | k + 1, x1, x2, x8, x9, x10, x34 => if x34 = true then (some (([] : List (S31)), 2)) else (if x2 = 0 then ((api_Grant_27.f x8 x9 (wrap64 (x9 + 1))).bind fun t108 => (some (t108, 0))) else (if x10 = true then (acl_Set.j2 k x1 x2 x8 x9 x10 false) else (acl_Set.j2 k x1 x2 x8 x9 x10 (decide ((x8.length : Int) ≥ 4)))))
def acl_Set.j2 : Nat → ByteArray → Int → List (S31) → Int → Bool → Bool → Option ((List (S31)) × Int)
  | 0, _, _, _, _, _, _ => none
  | k + 1, x1, x2, x8, x9, x10, x49 => if x49 = true then (some (([] : List (S31)), 4)) else (if x10 = true then (if 0 ≤ x9 then (if x9 < (x8.length : Int) then (some ((x8.set (x9 : Int).toNat (⟨(rd_T31 x8 x9).f0, x2⟩ : S31)), 0)) else (none)) else (none)) else ((api_Grant_28.f x8 x9 (([(⟨x1, x2⟩ : S31)] : List (S31)))).bind fun t115 => (some (t115, 0))))
end
def acl_Set.f (k : Nat) (l0 : List (S31)) (a1 : ByteArray) (a2 : Int) : Option ((List (S31)) × Int) := (acl_who.f a1).bind fun t101 => (if t101 = true then (if a2 < 0 then (acl_Set.j0 k l0 a1 a2 true) else (acl_Set.j0 k l0 a1 a2 (decide (a2 > 7)))) else (acl_Set.j0 k l0 a1 a2 true))
theorem acl_Set.mono_l : ∀ k, (∀ y0 y1 y2 y3, LeO (acl_Set.j0 k y0 y1 y2 y3) (acl_Set.j0 (k + 1) y0 y1 y2 y3)) ∧ (∀ y0 y1 y2 y3 y4 y5, LeO (acl_Set.j1 k y0 y1 y2 y3 y4 y5) (acl_Set.j1 (k + 1) y0 y1 y2 y3 y4 y5)) ∧ (∀ y0 y1 y2 y3 y4 y5, LeO (acl_Set.j2 k y0 y1 y2 y3 y4 y5) (acl_Set.j2 (k + 1) y0 y1 y2 y3 y4 y5))
  | 0 => ⟨fun _ _ _ _ r h => by simp [acl_Set.j0] at h, fun _ _ _ _ _ _ r h => by simp [acl_Set.j1] at h, fun _ _ _ _ _ _ r h => by simp [acl_Set.j2] at h⟩
  | k + 1 => by
    obtain ⟨ih0, ih1, ih2⟩ := acl_Set.mono_l k
    refine ⟨?_, ?_, ?_⟩
    · intro y0 y1 y2 y3
      unfold acl_Set.j0
      repeat' first
      | (with_reducible exact ih0 _ _ _ _)
      | (with_reducible exact ih1 _ _ _ _ _ _)
      | (with_reducible exact ih2 _ _ _ _ _ _)
      | (with_reducible exact LeO.refl _)
      | (with_reducible exact LeO.none _)
      | (with_reducible refine LeO.ite ?_ ?_)
      | (with_reducible refine LeO.bind ?_ (fun _ => ?_))
      | exact ih0 _ _ _ _
      | exact ih1 _ _ _ _ _ _
      | exact ih2 _ _ _ _ _ _
      | exact LeO.none _
      | refine LeO.ite ?_ ?_
      | refine LeO.bind ?_ (fun _ => ?_)
    · intro y0 y1 y2 y3 y4 y5
      unfold acl_Set.j1
      repeat' first
      | (with_reducible exact ih0 _ _ _ _)
      | (with_reducible exact ih1 _ _ _ _ _ _)
      | (with_reducible exact ih2 _ _ _ _ _ _)
      | (with_reducible exact LeO.refl _)
      | (with_reducible exact LeO.none _)
      | (with_reducible refine LeO.ite ?_ ?_)
      | (with_reducible refine LeO.bind ?_ (fun _ => ?_))
      | exact ih0 _ _ _ _
      | exact ih1 _ _ _ _ _ _
      | exact ih2 _ _ _ _ _ _
      | exact LeO.none _
      | refine LeO.ite ?_ ?_
      | refine LeO.bind ?_ (fun _ => ?_)
    · intro y0 y1 y2 y3 y4 y5
      unfold acl_Set.j2
      repeat' first
      | (with_reducible exact ih0 _ _ _ _)
      | (with_reducible exact ih1 _ _ _ _ _ _)
      | (with_reducible exact ih2 _ _ _ _ _ _)
      | (with_reducible exact LeO.refl _)
      | (with_reducible exact LeO.none _)
      | (with_reducible refine LeO.ite ?_ ?_)
      | (with_reducible refine LeO.bind ?_ (fun _ => ?_))
      | exact ih0 _ _ _ _
      | exact ih1 _ _ _ _ _ _
      | exact ih2 _ _ _ _ _ _
      | exact LeO.none _
      | refine LeO.ite ?_ ?_
      | refine LeO.bind ?_ (fun _ => ?_)
theorem acl_Set.mono : ∀ a0 a1 a2 k, LeO (acl_Set.f k a0 a1 a2) (acl_Set.f (k + 1) a0 a1 a2) := by
  intro a0 a1 a2 k
  obtain ⟨ih0, ih1, ih2⟩ := acl_Set.mono_l k
  unfold acl_Set.f
  repeat' first
      | (with_reducible exact ih0 _ _ _ _)
      | (with_reducible exact ih1 _ _ _ _ _ _)
      | (with_reducible exact ih2 _ _ _ _ _ _)
      | (with_reducible exact LeO.refl _)
      | (with_reducible exact LeO.none _)
      | (with_reducible refine LeO.ite ?_ ?_)
      | (with_reducible refine LeO.bind ?_ (fun _ => ?_))
      | exact ih0 _ _ _ _
      | exact ih1 _ _ _ _ _ _
      | exact ih2 _ _ _ _ _ _
      | exact LeO.none _
      | refine LeO.ite ?_ ?_
      | refine LeO.bind ?_ (fun _ => ?_)
set_option maxHeartbeats 8000000 in
set_option maxRecDepth 100000 in
theorem acl_Set.calls (k : Nat) (A0 : Option Addr) (c0 : Nat) (l0 : List (S31)) (a1 : ByteArray) (a2 : Int) (r1 : List (S31)) (r2 : Int) (w : World) (hr0 : Kd.C k31 w A0 l0.length l0) (hc0 : l0.length ≤ c0) (h : acl_Set.f k l0 a1 a2 = some (r1, r2)) :
    Calls Try.prog 9 #[.slice A0 l0.length c0, .string a1, .int .i64 a2] w fun e w' => ∃ v0_ : Value, e = .returned (.tuple #[v0_, .int .i64 r2]) ∧ Kd.R k31 31 w' w.heap.size (fun _ => True) v0_ r1 ∧ Below w.heap.size w w' := by
  have hu31 := Try.underlying31
  have HR0 := Aside0.mk hr0
  have HC0 := Aside0.mk hc0
  clear hr0 hc0
  have HB := Aside0.mk (Below.refl w.heap.size w)
  have H : ((acl_who.f a1).bind fun t101 => (if t101 = true then (if a2 < 0 then (acl_Set.j0 k l0 a1 a2 true) else (acl_Set.j0 k l0 a1 a2 (decide (a2 > 7)))) else (acl_Set.j0 k l0 a1 a2 true))) = some (r1, r2) := h
  clear h
  have HC4 := Aside0.mk H
  clear H
  go_enter Try.func9, Try.ntmps9
  go_upto_region 1 with (fail)
  go_cut [21] (fun v21 wc => ∃ (kq : Nat) (x21_3 : Bool), v21 = .bool x21_3 ∧ Aside0 (acl_Set.j0 kq l0 a1 a2 x21_3 = some (r1, r2)) ∧ Aside0 (kq ≤ k) ∧ Aside0 (Below w.heap.size w wc))
  case first =>
    have H := HC4.out
    clear HC4
    replace H := Option.bind_eq_some_iff.mp H
    obtain ⟨t101, A50, H⟩ := H
    replace H : (if t101 = true then (if a2 < 0 then (acl_Set.j0 k l0 a1 a2 true) else (acl_Set.j0 k l0 a1 a2 (decide (a2 > 7)))) else (acl_Set.j0 k l0 a1 a2 true)) = some (r1, r2) := H
    have A5 := Aside0.mk A50
    clear A50
    by_cases c6 : t101 = true
    · subst c6
      have H1 : (if a2 < 0 then (acl_Set.j0 k l0 a1 a2 true) else (acl_Set.j0 k l0 a1 a2 (decide (a2 > 7)))) = some (r1, r2) := by rw [if_pos rfl] at H; exact H
      clear H
      have H := H1
      clear H1
      by_cases c7 : a2 < 0
      · rw [if_pos c7] at H
        have c7b0 : decide (a2 < 0) = true := decide_eq_true c7
        clear c7
        (first | rw [c7b0] | (simp only [i64_w, i32_w]; rw [c7b0]) | skip)
        have H' := Aside0.mk H
        clear H
        go_wp2_with (first | ((with_reducible refine gate_callee (f := 25) rfl ?_); refine goesL_ (some 12) rfl rfl Try.func25 (by kernel_rfl) rfl #[.string a1] rfl (by (try simp only [List.map_toArray, List.map_cons, List.map_nil]); first | done | rfl | (simp only [List.length_drop, List.length_take]; rfl)) ?_; (with_reducible refine (acl_who.calls a1 true _ A5.out).mono ?_); rintro e w8 ⟨rfl, hb⟩; refine ⟨_, rfl, ?_⟩; have n0_ := Aside0.mk (below_step (by repeat (first | (with_reducible first | exact HB.out | apply below_alloc | apply pw_below_drewN | apply below_drew1) | exact HB.out)) hb); clear HB; have HB := n0_; clear n0_; (try clear hb); (try clear hb2); (try clear hk); (try clear hi)))
        go_meet
        case rel => exact ⟨_, (true), (by first | rfl | (simp; done) | (simp [*]; done)), H', ⟨by first | omega | exact Nat.le_refl _⟩, ⟨by repeat (first | (with_reducible first | exact HB.out | apply below_alloc | apply pw_below_drewN | apply below_drew1) | exact HB.out)⟩⟩
      · rw [if_neg c7] at H
        have c7b0 : decide (a2 < 0) = false := decide_eq_false c7
        clear c7
        (first | rw [c7b0] | (simp only [i64_w, i32_w]; rw [c7b0]) | skip)
        have H' := Aside0.mk H
        clear H
        go_wp2_with (first | ((with_reducible refine gate_callee (f := 25) rfl ?_); refine goesL_ (some 12) rfl rfl Try.func25 (by kernel_rfl) rfl #[.string a1] rfl (by (try simp only [List.map_toArray, List.map_cons, List.map_nil]); first | done | rfl | (simp only [List.length_drop, List.length_take]; rfl)) ?_; (with_reducible refine (acl_who.calls a1 true _ A5.out).mono ?_); rintro e w9 ⟨rfl, hb⟩; refine ⟨_, rfl, ?_⟩; have n0_ := Aside0.mk (below_step (by repeat (first | (with_reducible first | exact HB.out | apply below_alloc | apply pw_below_drewN | apply below_drew1) | exact HB.out)) hb); clear HB; have HB := n0_; clear n0_; (try clear hb); (try clear hb2); (try clear hk); (try clear hi)))
        go_meet
        case rel => exact ⟨_, (decide (a2 > 7)), (by first | rfl | (simp; done) | (simp [*]; done)), H', ⟨by first | omega | exact Nat.le_refl _⟩, ⟨by repeat (first | (with_reducible first | exact HB.out | apply below_alloc | apply pw_below_drewN | apply below_drew1) | exact HB.out)⟩⟩
    · replace c6 := Bool.eq_false_iff.mpr c6
      subst c6
      have H1 : (acl_Set.j0 k l0 a1 a2 true) = some (r1, r2) := by rw [if_neg (show ¬ (false = true) by decide)] at H; exact H
      clear H
      have H := H1
      clear H1
      have H' := Aside0.mk H
      clear H
      go_wp2_with (first | ((with_reducible refine gate_callee (f := 25) rfl ?_); refine goesL_ (some 12) rfl rfl Try.func25 (by kernel_rfl) rfl #[.string a1] rfl (by (try simp only [List.map_toArray, List.map_cons, List.map_nil]); first | done | rfl | (simp only [List.length_drop, List.length_take]; rfl)) ?_; (with_reducible refine (acl_who.calls a1 false _ A5.out).mono ?_); rintro e w10 ⟨rfl, hb⟩; refine ⟨_, rfl, ?_⟩; have n0_ := Aside0.mk (below_step (by repeat (first | (with_reducible first | exact HB.out | apply below_alloc | apply pw_below_drewN | apply below_drew1) | exact HB.out)) hb); clear HB; have HB := n0_; clear n0_; (try clear hb); (try clear hb2); (try clear hk); (try clear hi)))
      go_meet
      case rel => exact ⟨_, (true), (by first | rfl | (simp; done) | (simp [*]; done)), H', ⟨by first | omega | exact Nat.le_refl _⟩, ⟨by repeat (first | (with_reducible first | exact HB.out | apply below_alloc | apply pw_below_drewN | apply below_drew1) | exact HB.out)⟩⟩
  case rest =>
    clear HC4
    try clear c2
    try clear p2
    try clear c6
    try clear c7
    try clear c7b0
    try clear c9
    obtain ⟨kq, x21_3, rfl, HA, HJ3, HB⟩ := hcut
    cases kq with
    | zero => exact absurd HA.out (by simp [acl_Set.j0])
    | succ kj3 =>
      have H := HA.out
      clear HA
      simp only [acl_Set.j0] at H
      by_cases c11 : x21_3 = true
      · subst c11
        have H1 : (some (([] : List (S31)), 1)) = some (r1, r2) := by rw [if_pos rfl] at H; exact H
        clear H
        have H := H1
        clear H1
        simp only [Option.some.injEq, Prod.mk.injEq] at H
        obtain ⟨rfl, rfl⟩ := H
        go_wp2
        go_ret2
        exact ⟨_, by first | rfl | (simp [errW_none, errW_some] <;> rfl) | (simp [*, errW_none, errW_some] <;> rfl), by first | exact Kd.R_nil _ _ _ _ _ | exact Kd.N_nil _ _ _ _ _ | exact Kd.V_nil _ _ _ _ _ | exact Kd.Q_nil _ _ _ _ _ | exact Kd.S_nil _ _ _ _ _, by repeat (first | (with_reducible first | exact HB.out | apply below_alloc | apply pw_below_drewN | apply below_drew1) | exact HB.out)⟩
      · replace c11 := Bool.eq_false_iff.mpr c11
        subst c11
        have H1 : (if 0 ≤ (l0.length : Int) then (if ((l0.length : Int) : Int).toNat ≤ 11728124029610 then (if (List.replicate ((l0.length : Int) : Int).toNat z31).length = l0.length then ((some (l0 : List (S31))).bind fun y105 => ((acl_place.f y105 a1).bind fun bt106 => (if a2 = 0 then (acl_Set.j1 kj3 a1 a2 y105 bt106.1 bt106.2 (!bt106.2)) else (acl_Set.j1 kj3 a1 a2 y105 bt106.1 bt106.2 false)))) else (none)) else (none)) else (none)) = some (r1, r2) := by rw [if_neg (show ¬ (false = true) by decide)] at H; exact H
        clear H
        have H := H1
        clear H1
        by_cases c12 : 0 ≤ (l0.length : Int)
        · rw [if_pos c12] at H
          have c12b0 := eq_true c12
          have c12b1 : decide (0 ≤ (l0.length : Int)) = true := decide_eq_true c12
          clear c12
          by_cases c13 : ((l0.length : Int) : Int).toNat ≤ 11728124029610
          · rw [if_pos c13] at H
            have c13b0 := eq_true c13
            have c13b1 : decide (((l0.length : Int) : Int).toNat ≤ 11728124029610) = true := decide_eq_true c13
            clear c13
            obtain ⟨y102, hy102⟩ : ∃ y_ : List (S31), y_ = (List.replicate ((l0.length : Int) : Int).toNat z31) := ⟨_, rfl⟩
            replace H : (if y102.length = l0.length then ((some (l0 : List (S31))).bind fun y105 => ((acl_place.f y105 a1).bind fun bt106 => (if a2 = 0 then (acl_Set.j1 kj3 a1 a2 y105 bt106.1 bt106.2 (!bt106.2)) else (acl_Set.j1 kj3 a1 a2 y105 bt106.1 bt106.2 false)))) else (none)) = some (r1, r2) := by first | (rw [hy102]; with_reducible exact H) | (have H2_ := (Option.bind_some _ _).symm.trans H; rw [hy102]; with_reducible exact H2_) | (have H2_ := (Option.bind_some _ _).symm.trans H; with_reducible exact H2_) | with_reducible exact H | (rw [hy102]; exact H) | exact H
            have Ny102 := Aside0.mk hy102
            clear hy102
            by_cases c14 : y102.length = l0.length
            · rw [if_pos c14] at H
              have LMc14 := Aside0.mk c14
              clear c14
              obtain ⟨y105, hy105⟩ : ∃ y_ : List (S31), y_ = (l0) := ⟨_, rfl⟩
              replace H : ((acl_place.f y105 a1).bind fun bt106 => (if a2 = 0 then (acl_Set.j1 kj3 a1 a2 y105 bt106.1 bt106.2 (!bt106.2)) else (acl_Set.j1 kj3 a1 a2 y105 bt106.1 bt106.2 false))) = some (r1, r2) := by first | (rw [hy105]; with_reducible exact H) | (have H2_ := (Option.bind_some _ _).symm.trans H; rw [hy105]; with_reducible exact H2_) | (have H2_ := (Option.bind_some _ _).symm.trans H; with_reducible exact H2_) | with_reducible exact H | (rw [hy105]; exact H) | exact H
              have Ny105 := Aside0.mk hy105
              clear hy105
              replace H := Option.bind_eq_some_iff.mp H
              obtain ⟨⟨t106, t107⟩, A150, H⟩ := H
              replace H : (if a2 = 0 then (acl_Set.j1 kj3 a1 a2 y105 t106 t107 (!t107)) else (acl_Set.j1 kj3 a1 a2 y105 t106 t107 false)) = some (r1, r2) := H
              have A15 := Aside0.mk A150
              clear A150
              have HC16 := Aside0.mk H
              clear H
              go_upto_region 6 with (first | ((with_reducible refine gate_dst (N := 24) rfl ?_); (try (refine gate_guard (by rfl) ?_; dsimp only)); refine R_makeC k31 _ 31 rfl (N := 24) rfl 24 _ _ rfl (l0.length : Int) rfl rfl Try.underlying24 (.agg #[(.string ⟨#[]⟩), (.int .i64 0)]) 24 info31 rfl (by decide) (by omega) z31 (ok := fun _ => True) (okp := fun _ => True) (k31_mkM _ _ _ z31 ) (fun _ hk => hk) trivial (of_decide_eq_true (by first | (with_reducible assumption) | assumption)) (Nat.le_trans (Nat.mul_le_mul_right _ (of_decide_eq_true (by first | (with_reducible assumption) | assumption) : (l0.length : Int).toNat ≤ 11728124029610)) (by omega)) (Below.refl _ _) (Nat.le_refl _) ?_; intro v103 w17 ho18 hb hg_ hnew_ hcap_; clear hg_ hnew_; have HCAP := Aside0.mk hcap_; clear hcap_; (first | rw [← Ny102.out] at ho18 | (simp only [Int.reduceToNat] at ho18; rw [← Ny102.out] at ho18)); have n0_ := Aside0.mk (Kd.R_lower ho18 (below_size (by repeat (first | (with_reducible first | exact HB.out | apply below_alloc | apply pw_below_drewN | apply below_drew1) | exact HB.out)))); have n1_ := Aside0.mk (below_step (by repeat (first | (with_reducible first | exact HB.out | apply below_alloc | apply pw_below_drewN | apply below_drew1) | exact HB.out)) hb); clear HB; have HO104 := n0_; have HB := n1_; clear n0_ n1_; clear hb ho18) | ((with_reducible refine gate_builtin (b := .copy) (xs := #[.tmp 25, .tmp 26]) rfl ?_); (try (refine gate_guard (by rfl) ?_; dsimp only)); refine R_copy_rows k31 (w0 := w) w.heap.size rfl (.tmp 25) (.tmp 26) 24 24 31 rfl Try.underlying24 (by kernel_rfl) (by decide) v103 y102 l0 _ _ _ _ (fun _ => False) rfl rfl (by (with_reducible repeat (first | apply Kd.R_alloc | apply Kd.R_drewN | apply Kd.R_drew)); exact HO104.out) ?aR (fun _ _ h => h) (fun _ h => h.elim) ?aN (by repeat (first | (with_reducible first | exact HB.out | apply below_alloc | apply pw_below_drewN | apply below_drew1) | exact HB.out)) (below_size (by repeat (first | (with_reducible first | exact HB.out | apply below_alloc | apply pw_below_drewN | apply below_drew1) | exact HB.out))) ?_; (case aR => repeat (first | exact (Kd.C_below HR0.out HB.out) | (with_reducible refine Kd.C_alloc ?_ _) | (with_reducible refine Kd.C_drewN ?_ _) | (with_reducible refine Kd.C_drew ?_))); (case aN => exact LMc14.out); intro w19 ho hb hg; rw [← Ny105.out] at ho; have n0_ := Aside0.mk (ho); have n1_ := Aside0.mk (hb); clear HO104; clear HB; have HO104 := n0_; have HB := n1_; clear n0_ n1_; clear ho hb hg; obtain ⟨Ao20, co20, eo20⟩ := Kd.R_slice HO104.out; subst eo20) | ((with_reducible refine gate_callee (f := 26) rfl ?_); refine goesL_ (some 31) rfl rfl Try.func26 (by kernel_rfl) rfl #[.slice Ao20 y105.length co20, .string a1] rfl (by (try simp only [List.map_toArray, List.map_cons, List.map_nil]); first | done | rfl | (simp only [List.length_drop, List.length_take]; rfl)) ?_; (with_reducible refine (acl_place.calls _ _ y105 a1 t106 t107 _ ?side1 ?side2 A15.out).mono ?_); (case side1 => repeat (first | exact (Kd.R_reads' HO104.out).2.2 | (with_reducible refine Kd.C_alloc ?_ _) | (with_reducible refine Kd.C_drewN ?_ _) | (with_reducible refine Kd.C_drew ?_))); (case side2 => exact (Kd.R_reads' HO104.out).2.1); rintro e w21 ⟨rfl, hb⟩; refine ⟨_, rfl, ?_⟩; have n0_ := Aside0.mk (Kd.R_below (by (with_reducible repeat (first | apply Kd.R_alloc | apply Kd.R_drewN | apply Kd.R_drew)); exact HO104.out) hb); have n1_ := Aside0.mk (below_step (by repeat (first | (with_reducible first | exact HB.out | apply below_alloc | apply pw_below_drewN | apply below_drew1) | exact HB.out)) hb); clear HO104; clear HB; have HO104 := n0_; have HB := n1_; clear n0_ n1_; (try clear hb); (try clear hb2); (try clear hk); (try clear hi)))
              (try simp only [Act.put, List.setIfInBounds_toArray, List.set_cons_zero, List.set_cons_succ])
              go_cut [34] (fun v34 wc => ∃ (kq : Nat) (x34_15 : Bool), v34 = .bool x34_15 ∧ Aside0 (acl_Set.j1 kq a1 a2 y105 t106 t107 x34_15 = some (r1, r2)) ∧ Aside0 (kq ≤ kj3) ∧ Aside0 (Kd.R k31 31 wc w.heap.size (fun _ => True) (.slice Ao20 y105.length co20) y105) ∧ Aside0 (Below w.heap.size w wc))
              case first =>
                have H := HC16.out
                clear HC16
                by_cases c22 : a2 = 0
                · rw [if_pos c22] at H
                  have c22b0 : (a2 == 0) = true := beq_iff_eq.mpr c22
                  have c22b1 : (a2 != 0) = false := bne_eq_false_iff_eq.mpr c22
                  clear c22
                  (first | rw [c22b0] | (simp only [i64_w, i32_w]; rw [c22b0]) | skip)
                  have H' := Aside0.mk H
                  clear H
                  go_wp2
                  go_meet
                  case rel => exact ⟨_, (!t107), (by first | rfl | (simp; done) | (simp [*]; done)), H', ⟨by have := HJ3.out; first | omega | exact Nat.le_refl _⟩, ⟨by (with_reducible repeat (first | apply Kd.R_alloc | apply Kd.R_drewN | apply Kd.R_drew)); exact HO104.out⟩, ⟨by repeat (first | (with_reducible first | exact HB.out | apply below_alloc | apply pw_below_drewN | apply below_drew1) | exact HB.out)⟩⟩
                · rw [if_neg c22] at H
                  have c22b0 : (a2 == 0) = false := beq_eq_false_iff_ne.mpr c22
                  have c22b1 : (a2 != 0) = true := bne_iff_ne.mpr c22
                  (first | rw [c22b0] | (simp only [i64_w, i32_w]; rw [c22b0]) | skip)
                  have H' := Aside0.mk H
                  clear H
                  go_wp2
                  go_meet
                  case rel => exact ⟨_, (false), (by first | rfl | (simp; done) | (simp [*]; done)), H', ⟨by have := HJ3.out; first | omega | exact Nat.le_refl _⟩, ⟨by (with_reducible repeat (first | apply Kd.R_alloc | apply Kd.R_drewN | apply Kd.R_drew)); exact HO104.out⟩, ⟨by repeat (first | (with_reducible first | exact HB.out | apply below_alloc | apply pw_below_drewN | apply below_drew1) | exact HB.out)⟩⟩
              case rest =>
                clear HC16
                try clear c1
                try clear c2
                try clear p2
                try clear c6
                try clear c7
                try clear c7b0
                try clear c9
                try clear c11
                try clear c12
                try clear c12b0
                try clear c12b1
                try clear c13
                try clear c13b0
                try clear c13b1
                try clear c14
                try clear c22
                try clear c22b0
                try clear c22b1
                try clear p2
                obtain ⟨kq, x34_15, rfl, HA, HJ15, HO_8, HB⟩ := hcut
                cases kq with
                | zero => exact absurd HA.out (by simp [acl_Set.j1])
                | succ kj15 =>
                  have H := HA.out
                  clear HA
                  simp only [acl_Set.j1] at H
                  by_cases c23 : x34_15 = true
                  · subst c23
                    have H1 : (some (([] : List (S31)), 2)) = some (r1, r2) := by rw [if_pos rfl] at H; exact H
                    clear H
                    have H := H1
                    clear H1
                    simp only [Option.some.injEq, Prod.mk.injEq] at H
                    obtain ⟨rfl, rfl⟩ := H
                    go_wp2
                    go_ret2
                    exact ⟨_, by first | rfl | (simp [errW_none, errW_some] <;> rfl) | (simp [*, errW_none, errW_some] <;> rfl), by first | exact Kd.R_nil _ _ _ _ _ | exact Kd.N_nil _ _ _ _ _ | exact Kd.V_nil _ _ _ _ _ | exact Kd.Q_nil _ _ _ _ _ | exact Kd.S_nil _ _ _ _ _, by repeat (first | (with_reducible first | exact HB.out | apply below_alloc | apply pw_below_drewN | apply below_drew1) | exact HB.out)⟩
                  · replace c23 := Bool.eq_false_iff.mpr c23
                    subst c23
                    have H1 : (if a2 = 0 then ((api_Grant_27.f y105 t106 (wrap64 (t106 + 1))).bind fun t108 => (some (t108, 0))) else (if t107 = true then (acl_Set.j2 kj15 a1 a2 y105 t106 t107 false) else (acl_Set.j2 kj15 a1 a2 y105 t106 t107 (decide ((y105.length : Int) ≥ 4))))) = some (r1, r2) := by rw [if_neg (show ¬ (false = true) by decide)] at H; exact H
                    clear H
                    have H := H1
                    clear H1
                    by_cases c24 : a2 = 0
                    · rw [if_pos c24] at H
                      have c24b0 : (a2 == 0) = true := beq_iff_eq.mpr c24
                      have c24b1 : (a2 != 0) = false := bne_eq_false_iff_eq.mpr c24
                      clear c24
                      replace H := Option.bind_eq_some_iff.mp H
                      obtain ⟨t108, A250, H⟩ := H
                      replace H : (some (t108, 0)) = some (r1, r2) := H
                      have A25 := Aside0.mk A250
                      clear A250
                      simp only [Option.some.injEq, Prod.mk.injEq] at H
                      obtain ⟨rfl, rfl⟩ := H
                      go_wp2_with (first | ((with_reducible refine gate_callee (f := 27) rfl ?_); refine goesL_ (some 48) rfl rfl Try.func27 (by kernel_rfl) rfl #[.slice Ao20 y105.length co20, .int .i64 t106, .int .i64 (wrap64 (t106 + 1))] rfl (by (try simp only [List.map_toArray, List.map_cons, List.map_nil]); first | done | rfl | (simp only [List.length_drop, List.length_take]; rfl)) ?_; (with_reducible refine (api_Grant_27.calls (fun k_ => some k_ = (.slice Ao20 y105.length co20 : Value).ownBlock) (.slice Ao20 y105.length co20) y105 t106 (wrap64 (t106 + 1)) t108 w _ ?side1 ?side2 A25.out).mono ?_); (case side1 => repeat (first | (with_reducible first | exact HB.out | apply below_alloc | apply pw_below_drewN | apply below_drew1) | exact HB.out)); (case side2 => exact Kd.R_tight rfl HO_8.out); rintro e w26 ⟨v109, rfl, ho0, hb, hkp⟩; refine ⟨_, rfl, ?_⟩; have n0_ := Aside0.mk (Kd.R_mono (ok' := fun k_ => True) ho0 (fun k_ hk_ => trivial)); have n1_ := Aside0.mk (hb); clear HB; clear HO_8; have HO110 := n0_; have HB := n1_; clear n0_ n1_; (try clear hb); (try clear hkp); (try clear ho0)))
                      go_ret2
                      exact ⟨_, by first | rfl | (simp [errW_none, errW_some] <;> rfl) | (simp [*, errW_none, errW_some] <;> rfl), by (with_reducible repeat (first | apply Kd.R_alloc | apply Kd.R_drewN | apply Kd.R_drew)); exact HO110.out, by repeat (first | (with_reducible first | exact HB.out | apply below_alloc | apply pw_below_drewN | apply below_drew1) | exact HB.out)⟩
                    · rw [if_neg c24] at H
                      have c24b0 : (a2 == 0) = false := beq_eq_false_iff_ne.mpr c24
                      have c24b1 : (a2 != 0) = true := bne_iff_ne.mpr c24
                      have HC27 := Aside0.mk H
                      clear H
                      go_upto_region 10 with (fail)
                      go_cut [49] (fun v49 wc => ∃ (kq : Nat) (x49_26 : Bool), v49 = .bool x49_26 ∧ Aside0 (acl_Set.j2 kq a1 a2 y105 t106 t107 x49_26 = some (r1, r2)) ∧ Aside0 (kq ≤ kj15) ∧ Aside0 (Kd.R k31 31 wc w.heap.size (fun _ => True) (.slice Ao20 y105.length co20) y105) ∧ Aside0 (Below w.heap.size w wc))
                      case first =>
                        have H := HC27.out
                        clear HC27
                        by_cases c28 : t107 = true
                        · subst c28
                          have H1 : (acl_Set.j2 kj15 a1 a2 y105 t106 true false) = some (r1, r2) := by rw [if_pos rfl] at H; exact H
                          clear H
                          have H := H1
                          clear H1
                          have H' := Aside0.mk H
                          clear H
                          go_wp2
                          go_meet
                          case rel => exact ⟨_, (false), (by first | rfl | (simp; done) | (simp [*]; done)), H', ⟨by have := HJ3.out; have := HJ15.out; first | omega | exact Nat.le_refl _⟩, ⟨by (with_reducible repeat (first | apply Kd.R_alloc | apply Kd.R_drewN | apply Kd.R_drew)); exact HO_8.out⟩, ⟨by repeat (first | (with_reducible first | exact HB.out | apply below_alloc | apply pw_below_drewN | apply below_drew1) | exact HB.out)⟩⟩
                        · replace c28 := Bool.eq_false_iff.mpr c28
                          subst c28
                          have H1 : (acl_Set.j2 kj15 a1 a2 y105 t106 false (decide ((y105.length : Int) ≥ 4))) = some (r1, r2) := by rw [if_neg (show ¬ (false = true) by decide)] at H; exact H
                          clear H
                          have H := H1
                          clear H1
                          have H' := Aside0.mk H
                          clear H
                          go_wp2
                          go_meet
                          case rel => exact ⟨_, (decide ((y105.length : Int) ≥ 4)), (by first | rfl | (simp; done) | (simp [*]; done)), H', ⟨by have := HJ3.out; have := HJ15.out; first | omega | exact Nat.le_refl _⟩, ⟨by (with_reducible repeat (first | apply Kd.R_alloc | apply Kd.R_drewN | apply Kd.R_drew)); exact HO_8.out⟩, ⟨by repeat (first | (with_reducible first | exact HB.out | apply below_alloc | apply pw_below_drewN | apply below_drew1) | exact HB.out)⟩⟩
                      case rest =>
                        clear HC27
                        try clear c1
                        try clear c2
                        try clear p2
                        try clear c6
                        try clear p6
                        try clear c7
                        try clear c7b0
                        try clear c9
                        try clear c11
                        try clear c12
                        try clear c12b0
                        try clear c12b1
                        try clear c13
                        try clear c13b0
                        try clear c13b1
                        try clear c14
                        try clear c22
                        try clear c22b0
                        try clear c22b1
                        try clear c23
                        try clear c24
                        try clear c24b0
                        try clear c24b1
                        try clear c25
                        try clear c26
                        try clear c27
                        try clear c28
                        try clear p2
                        obtain ⟨kq, x49_26, rfl, HA, HJ26, HO_8, HB⟩ := hcut
                        cases kq with
                        | zero => exact absurd HA.out (by simp [acl_Set.j2])
                        | succ kj26 =>
                          have H := HA.out
                          clear HA
                          simp only [acl_Set.j2] at H
                          by_cases c29 : x49_26 = true
                          · subst c29
                            have H1 : (some (([] : List (S31)), 4)) = some (r1, r2) := by rw [if_pos rfl] at H; exact H
                            clear H
                            have H := H1
                            clear H1
                            simp only [Option.some.injEq, Prod.mk.injEq] at H
                            obtain ⟨rfl, rfl⟩ := H
                            go_wp2
                            go_ret2
                            exact ⟨_, by first | rfl | (simp [errW_none, errW_some] <;> rfl) | (simp [*, errW_none, errW_some] <;> rfl), by first | exact Kd.R_nil _ _ _ _ _ | exact Kd.N_nil _ _ _ _ _ | exact Kd.V_nil _ _ _ _ _ | exact Kd.Q_nil _ _ _ _ _ | exact Kd.S_nil _ _ _ _ _, by repeat (first | (with_reducible first | exact HB.out | apply below_alloc | apply pw_below_drewN | apply below_drew1) | exact HB.out)⟩
                          · replace c29 := Bool.eq_false_iff.mpr c29
                            subst c29
                            have H1 : (if t107 = true then (if 0 ≤ t106 then (if t106 < (y105.length : Int) then (some ((y105.set (t106 : Int).toNat (⟨(rd_T31 y105 t106).f0, a2⟩ : S31)), 0)) else (none)) else (none)) else ((api_Grant_28.f y105 t106 (([(⟨a1, a2⟩ : S31)] : List (S31)))).bind fun t115 => (some (t115, 0)))) = some (r1, r2) := by rw [if_neg (show ¬ (false = true) by decide)] at H; exact H
                            clear H
                            have H := H1
                            clear H1
                            by_cases c30 : t107 = true
                            · subst c30
                              have H1 : (if 0 ≤ t106 then (if t106 < (y105.length : Int) then (some ((y105.set (t106 : Int).toNat (⟨(rd_T31 y105 t106).f0, a2⟩ : S31)), 0)) else (none)) else (none)) = some (r1, r2) := by rw [if_pos rfl] at H; exact H
                              clear H
                              have H := H1
                              clear H1
                              by_cases c31 : 0 ≤ t106
                              · rw [if_pos c31] at H
                                have c31b0 : decide (0 ≤ t106) = true := decide_eq_true c31
                                clear c31
                                by_cases c32 : t106 < (y105.length : Int)
                                · rw [if_pos c32] at H
                                  have c32b0 : decide (t106 < (y105.length : Int)) = true := decide_eq_true c32
                                  clear c32
                                  obtain ⟨y111, hy111⟩ : ∃ y_ : List (S31), y_ = (y105.set (t106 : Int).toNat (⟨(rd_T31 y105 t106).f0, a2⟩ : S31)) := ⟨_, rfl⟩
                                  replace H : (some (y111, 0)) = some (r1, r2) := by first | (rw [hy111]; with_reducible exact H) | (have H2_ := (Option.bind_some _ _).symm.trans H; rw [hy111]; with_reducible exact H2_) | (have H2_ := (Option.bind_some _ _).symm.trans H; with_reducible exact H2_) | with_reducible exact H | (rw [hy111]; exact H) | exact H
                                  have Ny111 := Aside0.mk hy111
                                  clear hy111
                                  simp only [Option.some.injEq, Prod.mk.injEq] at H
                                  obtain ⟨rfl, rfl⟩ := H
                                  have p33 : 0 ≤ (t106 : Int) := of_decide_eq_true (by first | (with_reducible assumption) | assumption)
                                  have q33 : (t106 : Int) < ((y105.length : Int) : Int) := of_decide_eq_true (by first | (with_reducible assumption) | assumption)
                                  obtain ⟨go33, co33, eo33, gb33, gl33, cl33, HG33⟩ := Kd.R_form HO_8.out (by omega)
                                  (first | cases eo33 | (injection eo33 with ea_ en_ ec_; (first | subst ea_ | (injection ea_ with ea_; subst ea_)); subst ec_; clear en_))
                                  have GB33 := Aside0.mk gb33
                                  have GG33 := Aside0.mk HG33
                                  clear gb33 gl33 HG33
                                  obtain ⟨ce33, hcl33, hM33, hcc33, hfr33⟩ := Kd.R_elem HO_8.out z31 (t106 : Int) p33 q33
                                  obtain rfl := k31_openM hM33
                                  have hx33_0 : wc.cell? ⟨go33, (t106 : Int).toNat * 2, none⟩ = some (.string ((rd_T31 y105 t106).f0)) := hcc33 0 _ rfl
                                  have hx33_1 : wc.cell? ⟨go33, (t106 : Int).toNat * 2 + 1, none⟩ = some (.int .i64 ((rd_T31 y105 t106).f1)) := hcc33 1 _ rfl
                                  have hf33_0 : wc.frozen? ⟨go33, (t106 : Int).toNat * 2, none⟩ = false := hfr33 0
                                  have hf33_1 : wc.frozen? ⟨go33, (t106 : Int).toNat * 2 + 1, none⟩ = false := hfr33 1
                                  clear hcl33 hcc33 hfr33 hM33
                                  replace p33 := eq_true p33
                                  replace q33 := eq_true q33
                                  have HX34 := Aside0.mk (show Kd.R k31 31 wc w.heap.size (fun _ => True) (.slice (some ⟨go33, 0, none⟩) y105.length co20) y105 from (by (with_reducible repeat (first | apply Kd.R_alloc | apply Kd.R_drewN | apply Kd.R_drew)); exact HO_8.out))
                                  obtain ⟨ce34, hcl34, hM34, hcc34, hfr34⟩ := Kd.R_elem HX34.out z31 (t106 : Int) (of_decide_eq_true (by first | (with_reducible assumption) | assumption)) (by have h_ : (t106 : Int) < ((y105.length : Int) : Int) := of_decide_eq_true (by first | (with_reducible assumption) | assumption); first | exact h_ | (have e_ := (Kd.R_reads' HO_8.out).1; omega) | simpa using h_)
                                  obtain rfl := k31_openM hM34
                                  have HP34 := Kd.R_seg HX34.out (t106 : Int) (of_decide_eq_true (by first | (with_reducible assumption) | assumption)) (by have h_ : (t106 : Int) < ((y105.length : Int) : Int) := of_decide_eq_true (by first | (with_reducible assumption) | assumption); first | exact h_ | (have e_ := (Kd.R_reads' HO_8.out).1; omega) | simpa using h_) (seg := [.int .i64 a2]) (j := 1) hcl34 hcc34 (show 2 ≤ 2 from by decide) (x' := (⟨(rd_T31 y105 t106).f0, a2⟩ : S31)) (k31_mkM _ _ _ (⟨(rd_T31 y105 t106).f0, a2⟩ : S31) ) (fun _ hk => hk)
                                  have hx34_1 := hcc34 1 _ rfl
                                  (try simp only [show (k31).sz = 2 from rfl, Nat.mul_one, Nat.add_zero] at hx34_1)
                                  have hf34_1 := hfr34 1
                                  (try simp only [show (k31).sz = 2 from rfl, Nat.mul_one, Nat.add_zero] at hf34_1)
                                  clear hcl34 hcc34 hfr34 hM34
                                  go_wp2_with (first | ((with_reducible refine gate_store (t := 3) (p := 63) rfl ?_); refine store_event (t := 3) (p := 63) (v := ?vo_w35) (w1 := (wc.setCell ⟨go33, (t106 : Int).toNat * 2 + 1, none⟩ (.int .i64 a2))) ?hg ?ho ?hn ?hr ?_; (case ho => rfl); (case hg => rfl); (case hn => rfl); (case hr => first | (go_simp; done) | (go_simp; rfl)); intro w35 hw; have hg : wc.grownBy w35 (some go33) := (by rw [hw]; exact HP34.2); have hp_ : Kd.R k31 31 w35 w.heap.size (fun _ => True) (.slice (some ⟨go33, 0, none⟩) y105.length co20) y111 := (by rw [hw, Ny111.out]; exact HP34.1); clear HP34; have n0_ := Aside0.mk (hp_); have n1_ := Aside0.mk ((by rw [hw]; exact below_set (HB.out) GB33.out : Below w.heap.size w w35)); clear HO_8; clear HB; have HO_8 := n0_; have HB := n1_; clear n0_ n1_; clear hg hw hp_))
                                  go_ret2
                                  exact ⟨_, by first | rfl | (simp [errW_none, errW_some] <;> rfl) | (simp [*, errW_none, errW_some] <;> rfl), by (with_reducible repeat (first | apply Kd.R_alloc | apply Kd.R_drewN | apply Kd.R_drew)); exact HO_8.out, by repeat (first | (with_reducible first | exact HB.out | apply below_alloc | apply pw_below_drewN | apply below_drew1) | exact HB.out)⟩
                                · rw [if_neg c32] at H
                                  exact absurd H (by simp)
                              · rw [if_neg c31] at H
                                exact absurd H (by simp)
                            · replace c30 := Bool.eq_false_iff.mpr c30
                              subst c30
                              have H1 : ((api_Grant_28.f y105 t106 (([(⟨a1, a2⟩ : S31)] : List (S31)))).bind fun t115 => (some (t115, 0))) = some (r1, r2) := by rw [if_neg (show ¬ (false = true) by decide)] at H; exact H
                              clear H
                              have H := H1
                              clear H1
                              obtain ⟨y112, hy112⟩ : ∃ y_ : List (S31), y_ = (([(⟨a1, a2⟩ : S31)] : List (S31))) := ⟨_, rfl⟩
                              replace H : ((api_Grant_28.f y105 t106 y112).bind fun t115 => (some (t115, 0))) = some (r1, r2) := by first | (rw [hy112]; with_reducible exact H) | (have H2_ := (Option.bind_some _ _).symm.trans H; rw [hy112]; with_reducible exact H2_) | (have H2_ := (Option.bind_some _ _).symm.trans H; with_reducible exact H2_) | with_reducible exact H | (rw [hy112]; exact H) | exact H
                              have Ny112 := Aside0.mk hy112
                              clear hy112
                              replace H := Option.bind_eq_some_iff.mp H
                              obtain ⟨t115, A360, H⟩ := H
                              replace H : (some (t115, 0)) = some (r1, r2) := H
                              have A36 := Aside0.mk A360
                              clear A360
                              simp only [Option.some.injEq, Prod.mk.injEq] at H
                              obtain ⟨rfl, rfl⟩ := H
                              go_wp2_with (first | ((with_reducible refine gate_dst (N := 70) rfl ?_); (try (refine gate_guard (by rfl) ?_; dsimp only)); refine Kd.R_lit k31 _ 31 ?hg (N := 70) ?hd (xs := ([(⟨a1, a2⟩ : S31)] : List (S31))) (inner := [.string a1, .int .i64 a2]) (ok := fun _ => True) (okp := fun _ => True) ?hr ?hp (fun _ hk => hk) trivial (Below.refl _ _) (Nat.le_refl _) (by simp) ?_; (case hd => rfl); (case hg => rfl); (case hr => first | (go_simp; done) | (go_simp; rfl)); (case hp => exact (Reps.c2 (show Kd.M k31 _ _ _ (⟨a1, a2⟩ : S31) [.string a1, .int .i64 a2] from (k31_mkM _ _ _ (⟨a1, a2⟩ : S31) )) (Reps.none _ _))); intro v113 w37 ho38 hb hg_ hnew_; clear hg_ hnew_; (first | rw [← Ny112.out] at ho38 | (simp only [Int.reduceToNat] at ho38; rw [← Ny112.out] at ho38)); have n0_ := Aside0.mk (Kd.R_elder' (by (with_reducible repeat (first | apply Kd.R_alloc | apply Kd.R_drewN | apply Kd.R_drew)); exact HO_8.out) (Kd.R_base ho38) hb); have n1_ := Aside0.mk (Kd.R_lower (Kd.R_new' ho38 (Kd.R_lt (by (with_reducible repeat (first | apply Kd.R_alloc | apply Kd.R_drewN | apply Kd.R_drew)); exact HO_8.out))) (below_size (by repeat (first | (with_reducible first | exact HB.out | apply below_alloc | apply pw_below_drewN | apply below_drew1) | exact HB.out)))); have n2_ := Aside0.mk (below_step (by repeat (first | (with_reducible first | exact HB.out | apply below_alloc | apply pw_below_drewN | apply below_drew1) | exact HB.out)) hb); clear HO_8; clear HB; have HO_8 := n0_; have HO114 := n1_; have HB := n2_; clear n0_ n1_ n2_; clear hb ho38; obtain ⟨Ao39, co39, eo39⟩ := Kd.R_slice HO114.out; subst eo39) | ((with_reducible refine gate_callee (f := 28) rfl ?_); refine goesL_ (some 71) rfl rfl Try.func28 (by kernel_rfl) rfl #[.slice Ao20 y105.length co20, .int .i64 t106, .slice Ao39 y112.length co39] rfl (by (try simp only [List.map_toArray, List.map_cons, List.map_nil]); first | done | rfl | (simp only [List.length_drop, List.length_take]; rfl)) ?_; (with_reducible refine (api_Grant_28.calls (fun k_ => some k_ = (.slice Ao20 y105.length co20 : Value).ownBlock) (.slice Ao20 y105.length co20) y105 t106 _ _ y112 t115 w _ ?side1 ?side2 ?side3 ?side4 A36.out ⟨_, HCAP.out⟩).mono ?_); (case side1 => repeat (first | (with_reducible first | exact HB.out | apply below_alloc | apply pw_below_drewN | apply below_drew1) | exact HB.out)); (case side2 => exact Kd.R_tight rfl HO_8.out); (case side3 => exact Kd.C_kept_own (HO114.out) (fun k_ hk_ hs_ => (hk_.2) hs_)); (case side4 => exact (Kd.R_reads' HO114.out).2.1); rintro e w40 ⟨v116, rfl, ho0, hb, hkp⟩; refine ⟨_, rfl, ?_⟩; have n0_ := Aside0.mk (Kd.R_mono (ok' := fun k_ => some k_ ≠ (v116 : Value).ownBlock) (Kd.R_keptB (HO114.out) hkp (fun k_ hk_ hs_ => (hk_.2) hs_)) (fun k_ hk_ => fun e_ => Or.elim (ho0.1 k_ e_.symm) (fun hs_ => hk_.2.1 hs_) (fun hn_ => Nat.not_le.2 hk_.2.2 hn_))); have n1_ := Aside0.mk (Kd.R_mono (ok' := fun k_ => some k_ ≠ (.slice Ao39 y112.length co39 : Value).ownBlock) ho0 (fun k_ hk_ => Or.elim hk_ (fun hs_ => fun e_ => (((HO114.out).1 k_ e_.symm).2) hs_) (fun hn_ => (Kd.fresh' (Kd.R_lt (by (with_reducible repeat (first | apply Kd.R_alloc | apply Kd.R_drewN | apply Kd.R_drew)); exact HO114.out)) k_ hn_)))); have n2_ := Aside0.mk (hb); clear HO114; clear HB; clear HO_8; have HO114 := n0_; have HO117 := n1_; have HB := n2_; clear n0_ n1_ n2_; (try clear hb); (try clear hkp); (try clear ho0)))
                              go_ret2
                              exact ⟨_, by first | rfl | (simp [errW_none, errW_some] <;> rfl) | (simp [*, errW_none, errW_some] <;> rfl), by (with_reducible repeat (first | apply Kd.R_alloc | apply Kd.R_drewN | apply Kd.R_drew)); exact Kd.R_mono HO117.out (fun _ hk => trivial), by repeat (first | (with_reducible first | exact HB.out | apply below_alloc | apply pw_below_drewN | apply below_drew1) | exact HB.out)⟩
            · rw [if_neg c14] at H
              exact absurd H (by simp)
          · rw [if_neg c13] at H
            exact absurd H (by simp)
        · rw [if_neg c12] at H
          exact absurd H (by simp)

end Go.Proofs.Ytinbhijeonghaaa.X
