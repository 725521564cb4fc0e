/- Written by a program of this session over the kit's print: YtihknjmibnonjaaDoorF16. -/
import Derived.Test.YtihknjmibnonjaaDoorH
import Derived.Test.YtihknjmibnonjaaDoorF17
namespace Go.Proofs.YtihknjmibnonjaaDoor.X
open Go.RowKit Go.Proofs.YtihknjmibnonjaaDoorW.PrintWords Go.Proofs.YtihknjmibnonjaaDoorW.PrintLast Go.Proofs.YtihknjmibnonjaaDoorW.PrintMore Go.Proofs.YtihknjmibnonjaaDoor.More
attribute [local go_sem] max2_int min2_int max_two min_two max_three min_three max_four min_four binOp_string_leq binOp_string_gtr   -- for this text's walks alone
set_option linter.unusedVariables false
set_option linter.unusedSimpArgs false

/-! ### donjonref8_Of: function 16 -/
def donjonref8_Of.l0 : Nat → Int → ByteArray → List Int → Int → Option (Int)
 | 0, _, _, _, _ => none
 | k + 1, x0, x1, x5, x6 => if x6 ≥ 0 then (if 0 ≤ (wrap64 (8 * x6)) then (if x5.length < 140737488355328 then (donjonref8_Of.l0 k x0 x1 (x5 ++ [(shr .u64 (IntKind.u64.wrap (x0)) (wrap64 (8 * x6))) % 256]) (wrap64 (x6 - 1))) else (none)) else (none)) else ((donjonref8_Chain.f k 14695981039346656037 x5).bind fun t104 => (if x1.size ≤ 9223372036854775807 then ((donjonref8_Chain.f k t104 (bytesOf x1)).bind fun t108 => (some t108)) else (none)))
def donjonref8_Of.f (k : Nat) (a0 : Int) (a1 : ByteArray) : Option (Int) := donjonref8_Of.l0 k a0 a1 ([] : List Int) 7
theorem donjonref8_Of.mono_l : ∀ k, (∀ y0 y1 y2 y3, LeO (donjonref8_Of.l0 k y0 y1 y2 y3) (donjonref8_Of.l0 (k + 1) y0 y1 y2 y3))
 | 0 => fun _ _ _ _ r h => by simp [donjonref8_Of.l0] at h
 | k + 1 => by
  have ih0 := donjonref8_Of.mono_l k
  ·intro y0 y1 y2 y3
   unfold donjonref8_Of.l0
   repeat' first
   | (with_reducible exact ih0 _ _ _ _)
   | (with_reducible exact donjonref8_Chain.mono _ _ _)
   | (with_reducible exact LeO.refl _)
   | (with_reducible exact LeO.none _)
   | (with_reducible refine LeO.ite ?_ ?_)
   | (with_reducible refine LeO.bind ?_ (fun _ => ?_))
   | exact ih0 _ _ _ _
   | exact donjonref8_Chain.mono _ _ _
   | exact LeO.none _
   | refine LeO.ite ?_ ?_
   | refine LeO.bind ?_ (fun _ => ?_)
theorem donjonref8_Of.mono : ∀ a0 a1 k, LeO (donjonref8_Of.f k a0 a1) (donjonref8_Of.f (k + 1) a0 a1) := by
 intro a0 a1 k
 have ih0 := donjonref8_Of.mono_l k
 unfold donjonref8_Of.f
 repeat' first
   | (with_reducible exact ih0 _ _ _ _)
   | (with_reducible exact donjonref8_Chain.mono _ _ _)
   | (with_reducible exact LeO.refl _)
   | (with_reducible exact LeO.none _)
   | (with_reducible refine LeO.ite ?_ ?_)
   | (with_reducible refine LeO.bind ?_ (fun _ => ?_))
   | exact ih0 _ _ _ _
   | exact donjonref8_Chain.mono _ _ _
   | exact LeO.none _
   | refine LeO.ite ?_ ?_
   | refine LeO.bind ?_ (fun _ => ?_)
set_option maxHeartbeats 8000000 in
set_option maxRecDepth 100000 in
theorem donjonref8_Of.calls (k : Nat) (a0 : Int) (a1 : ByteArray) (r : Int) (w : World) (h : donjonref8_Of.f k a0 a1 = some r) :
  Calls Tryd.prog 16 #[.int .i64 a0, .string a1] w fun e w' => e = .returned (.int .u64 r) ∧ Below w.heap.size w w' := by
 have HB := Aside0.mk (Below.refl w.heap.size w)
 have H : (donjonref8_Of.l0 k a0 a1 ([] : List Int) 7) = some r := h
 clear h
 have H' := Aside0.mk H
 clear H
 go_enter Tryd.func16, Tryd.ntmps16
 go_wp2
 go_loopg [5, 6] k (fun kq v5 v6 w' => ∃ (x5_1 : List Int) (x6_1 : Int), v6 = .int .i64 x6_1 ∧ Aside0 (donjonref8_Of.l0 kq a0 a1 x5_1 x6_1 = some r) ∧ Aside0 (kq ≤ k) ∧ Aside0 (Kd.R (Kd.int .u8) 5 w' w.heap.size (fun _ => True) v5 x5_1) ∧ Aside0 (Below w.heap.size w w'))
 case atStart => exact ⟨(([] : List Int)), (7), (by first | rfl | (simp; done) | (simp [*]; done)), H', ⟨Nat.le_refl _⟩, ⟨by first | exact Kd.R_nil _ _ _ _ _ | exact Kd.N_nil _ _ _ _ _ | exact Kd.V_nil _ _ _ _ _ | exact Kd.Q_nil _ _ _ _ _ | exact Kd.S_nil _ _ _ _ _⟩, ⟨bl_ HB.out⟩⟩
 case round =>
  clear H'
  try clear c1
  try clear p2
  obtain ⟨x5_1, x6_1, rfl, HA, HK1, HO_5, HB⟩ := hrel
  cases gk with
  | zero => exact absurd HA.out (by simp [donjonref8_Of.l0])
  | succ k1 =>
   have H := HA.out
   clear HA
   simp only [donjonref8_Of.l0] at H
   by_cases c3 : x6_1 ≥ 0
   ·rw [if_pos c3] at H
    have c3b0 : decide (0 ≤ x6_1) = true := decide_eq_true c3
    clear c3
    obtain ⟨ji4, hji4⟩ : ∃ j_ : Int, (wrap64 (8 * x6_1)) = j_ := ⟨_, rfl⟩
    replace H : (if 0 ≤ (ji4) then (if x5_1.length < 140737488355328 then (donjonref8_Of.l0 k1 a0 a1 (x5_1 ++ [(shr .u64 (IntKind.u64.wrap (a0)) (ji4)) % 256]) (wrap64 (x6_1 - 1))) else (none)) else (none)) = some r := by first | (rw [hji4] at H; exact H) | (simp only [hji4] at H ⊢; exact H)
    have hji4w : (IntKind.i64.wrap (8 * x6_1)) = ji4 := (i64_w _).trans hji4
    by_cases c5 : 0 ≤ (ji4)
    ·rw [if_pos c5] at H
     have c5b0 := eq_true c5
     have c5b1 : decide (0 ≤ (ji4)) = true := decide_eq_true c5
     clear c5
     obtain ⟨ji6, hji6⟩ : ∃ j_ : Int, (shr .u64 (IntKind.u64.wrap (a0)) (ji4)) = j_ := ⟨_, rfl⟩
     replace H : (if x5_1.length < 140737488355328 then (donjonref8_Of.l0 k1 a0 a1 (x5_1 ++ [(ji6) % 256]) (wrap64 (x6_1 - 1))) else (none)) = some r := by first | (rw [hji6] at H; exact H) | (simp only [hji6] at H ⊢; exact H)
     have hji6_ : ((IntKind.u64.wrap (a0)) / 2 ^ min (ji4).toNat 64) = ji6 := hji6
     have hji6z : (ji4) ≤ 64 → ((IntKind.u64.wrap (a0)) / 2 ^ (ji4).toNat) = ji6 := shr_small hji6
     by_cases c7 : x5_1.length < 140737488355328
     ·rw [if_pos c7] at H
      have LMc7 := Aside0.mk c7
      clear c7
      obtain ⟨y101, hy101⟩ : ∃ y_ : List Int, y_ = (x5_1 ++ [(ji6) % 256]) := ⟨_, rfl⟩
      replace H : (donjonref8_Of.l0 k1 a0 a1 y101 (wrap64 (x6_1 - 1))) = some r := by first | (rw [hy101]; with_reducible exact H) | (have H2_ := (Option.bind_some _ _).symm.trans H; rw [hy101]; with_reducible exact H2_) | (have H2_ := (Option.bind_some _ _).symm.trans H; with_reducible exact H2_) | with_reducible exact H | (rw [hy101]; exact H) | exact H
      have Ny101 := Aside0.mk hy101
      clear hy101
      have H' := Aside0.mk H
      clear H
      go_wp2_with (first | ((with_reducible refine gate_builtin (b := .append) (xs := #[.tmp 11, .tmp 18]) rfl ?_); at_builtin; refine Kd.R_append (Kd.int .u8) (w0 := w) w.heap.size rfl (.tmp 11) (.tmp 18) 41 5 (.int .u8 0) 1 rfl Tryd.underlying41 info5 rfl (by decide) (by omega) u5 x5_1 ((ji6) % 256) [.int .u8 ((ji6) % 256)] (fun _ => True) (fun _ => False) rfl rfl ?aP (fun _ hk => hk.elim) ?aF ?aO ?aB ?aS ?aL ?_; (case aP => exact rfl); (case aB => exact (bl_ HB.out)); (case aF => exact (fun _ _ => trivial)); (case aO => exact (kr_ HO_5.out)); (case aS => exact (below_size (bl_ HB.out))); (case aL => have := LMc7.out; omega); intro v102 w8 ho hb hg hat; rw [← Ny101.out] at ho; have n0_ := Aside0.mk (hb); have n1_ := Aside0.mk (ho); clear HB HO_5; have HB := n0_; have HO103 := n1_; clear n0_ n1_; clear ho hb hg hat))
      go_roundg k1
      case measure => have := HK1.out; omega
      case rel => exact ⟨(y101), (wrap64 (x6_1 - 1)), (by first | rfl | (simp; done) | (simp [*]; done)), H', ⟨by have := HK1.out; omega⟩, ⟨by (with_reducible repeat (first | apply Kd.R_alloc | apply Kd.R_drewN | apply Kd.R_drew)); exact HO103.out⟩, ⟨bl_ HB.out⟩⟩
     ·rw [if_neg c7] at H
      exact absurd H (by simp)
    ·rw [if_neg c5] at H
     exact absurd H (by simp)
   ·rw [if_neg c3] at H
    have c3b0 : decide (0 ≤ x6_1) = false := decide_eq_false c3
    clear c3
    replace H := Option.bind_eq_some_iff.mp H
    obtain ⟨t104, A90, H⟩ := H
    try dsimp only at H
    have A9 := Aside0.mk A90
    clear A90
    by_cases c10 : a1.size ≤ 9223372036854775807
    ·rw [if_pos c10] at H
     have c10b0 := eq_true c10
     have c10b1 : decide (a1.size ≤ 9223372036854775807) = true := decide_eq_true c10
     try have c10b2 : (9223372036854775807 < a1.size) = False := eq_false (Nat.not_lt.2 c10)
     clear c10
     obtain ⟨y105, hy105⟩ : ∃ y_ : List Int, y_ = (bytesOf a1) := ⟨_, rfl⟩
     replace H : ((donjonref8_Chain.f k1 t104 y105).bind fun t108 => (some t108)) = some r := by first | (rw [hy105]; with_reducible exact H) | (have H2_ := (Option.bind_some _ _).symm.trans H; rw [hy105]; with_reducible exact H2_) | (have H2_ := (Option.bind_some _ _).symm.trans H; with_reducible exact H2_) | with_reducible exact H | (rw [hy105]; exact H) | exact H
     have Ny105 := Aside0.mk hy105
     clear hy105
     replace H := Option.bind_eq_some_iff.mp H
     obtain ⟨t108, A110, H⟩ := H
     try dsimp only at H
     have A11 := Aside0.mk A110
     clear A110
     obtain rfl := Option.some.inj H
     obtain ⟨Ao12, co12, eo12⟩ := Kd.R_slice HO_5.out
     subst eo12
     go_wp2_with (first | ((with_reducible refine gate_callee (f := 17) rfl ?_); refine goesL_ (some 21) rfl rfl Tryd.func17 (by kernel_rfl) rfl #[.int .u64 14695981039346656037, .slice Ao12 x5_1.length co12] rfl (by (try simp only [List.map_toArray, List.map_cons, List.map_nil]); first | done | rfl | (simp only [List.length_drop, List.length_take]; rfl)) ?_; (with_reducible refine (donjonref8_Chain.calls k1 14695981039346656037 _ _ x5_1 t104 _ ?side1 ?side2 A9.out).mono ?_); (case side1 => repeat (first | exact (Kd.R_reads' HO_5.out).2.2 | (with_reducible refine Kd.C_alloc ?_ _) | (with_reducible refine Kd.C_drewN ?_ _) | (with_reducible refine Kd.C_drew ?_))); (case side2 => exact (Kd.R_reads' HO_5.out).2.1); rintro e w' ⟨rfl, ⟨nd, rfl⟩⟩; refine ⟨_, rfl, ?_⟩) | ((with_reducible refine gate_dst (N := 23) rfl ?_); refine V_bytes _ 5 rfl (N := 23) rfl 9 41 _ rfl a1 rfl Tryd.underlying9 Tryd.underlying41 Tryd.underlying5 (of_decide_eq_true (by first | (with_reducible assumption) | assumption)) (Below.refl _ _) (Nat.le_refl _) ?_; intro v106 w13 ho14 hb hg_ hnew_; clear hg_ hnew_; (first | rw [← Ny105.out] at ho14 | (simp only [Int.reduceToNat] at ho14; rw [← Ny105.out] at ho14)); have n0_ := Aside0.mk (Kd.R_below (kr_ HO_5.out) hb); have n1_ := Aside0.mk (Kd.V_lower (Kd.V_mono (ok' := fun k_ => some k_ ≠ (.slice Ao12 x5_1.length co12 : Value).ownBlock) ho14 (fun k_ hk_ => (Kd.fresh' (Kd.R_lt (kr_ HO_5.out)) k_ hk_))) (below_size (bl_ HB.out))); have n2_ := Aside0.mk (below_step (bl_ HB.out) hb); clear HO_5 HB; have HO_5 := n0_; have HO107 := n1_; have HB := n2_; clear n0_ n1_ n2_; clear hb ho14; obtain ⟨Ao15, co15, eo15⟩ := Kd.V_slice HO107.out; subst eo15) | ((with_reducible refine gate_callee (f := 17) rfl ?_); refine goesL_ (some 24) rfl rfl Tryd.func17 (by kernel_rfl) rfl #[.int .u64 t104, .slice Ao15 y105.length co15] rfl (by (try simp only [List.map_toArray, List.map_cons, List.map_nil]); first | done | rfl | (simp only [List.length_drop, List.length_take]; rfl)) ?_; (with_reducible refine (donjonref8_Chain.calls k1 t104 _ _ y105 t108 _ ?side1 ?side2 A11.out).mono ?_); (case side1 => repeat (first | exact (Kd.V_reads' HO107.out).2.2 | (with_reducible refine Kd.C_alloc ?_ _) | (with_reducible refine Kd.C_drewN ?_ _) | (with_reducible refine Kd.C_drew ?_))); (case side2 => exact (Kd.V_reads' HO107.out).2.1); rintro e w' ⟨rfl, ⟨nd, rfl⟩⟩; refine ⟨_, rfl, ?_⟩))
     go_ret
     exact ⟨by first | rfl | (simp [errW_none, errW_some] <;> rfl) | (simp [*, errW_none, errW_some] <;> rfl), by repeat (first | (with_reducible first | exact HB.out | apply below_alloc | apply pw_below_drewN | apply below_drew1) | exact HB.out)⟩
    ·rw [if_neg c10] at H
     exact absurd H (by simp)

end Go.Proofs.YtihknjmibnonjaaDoor.X
