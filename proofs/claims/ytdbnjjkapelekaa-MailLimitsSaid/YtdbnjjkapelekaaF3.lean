/- Written by a program of this session over the kit's print: YtdbnjjkapelekaaF3. -/
import Derived.Test.YtdbnjjkapelekaaH
import Derived.Test.YtdbnjjkapelekaaF9
import Derived.Test.YtdbnjjkapelekaaF10
import Derived.Test.YtdbnjjkapelekaaF11
namespace Go.Proofs.Ytdbnjjkapelekaa.X
open Go.RowKit Go.Proofs.YtdbnjjkapelekaaW.PrintWords Go.Proofs.YtdbnjjkapelekaaW.PrintLast Go.Proofs.YtdbnjjkapelekaaW.PrintMore Go.Proofs.Ytdbnjjkapelekaa.More
attribute [local go_sem] max2_int min2_int max_two min_two max_three min_three max_four min_four   -- for this text's walks alone
set_option linter.unusedVariables false
set_option linter.unusedSimpArgs false

/-! ### donjonlaw18_MailLimits: function 3 -/
def donjonlaw18_MailLimits.j0 : Nat → Int → Int → Bool → ByteArray → Int → Int → Int → Int → ByteArray → Int → Int → Int → Int → ByteArray → Option (Bool)
  | 0, _, _, _, _, _, _, _, _, _, _, _, _, _, _ => none
  | k + 1, x1, x2, x46, x108000, x108001, x108002, x108003, x108004, x108005, x108006, x108007, x108008, x108009, x108010 => if x46 = true then (some false) else ((donjonlaw18_within.f x1 5).bind fun t110 => (if t110 = 0 then ((mail_Send.f k ([] : List (S44)) (⟨#[65]⟩ : ByteArray) x108001 x108002 x108003 x108004 x108005 x108006 x108007 x108008 x108009 (⟨#[]⟩ : ByteArray)).bind fun bt111 => (if bt111.1 = 0 then (some (bt111.2 == 1)) else (some false))) else (if t110 = 1 then ((mail_Send.f k ([] : List (S44)) x108000 x108001 x108002 x108003 x108004 (⟨#[42]⟩ : ByteArray) x108006 x108007 x108008 x108009 (⟨#[]⟩ : ByteArray)).bind fun bt113 => (if bt113.1 = 0 then (some (bt113.2 == 1)) else (some false))) else (if t110 = 2 then ((mail_Send.f k ([] : List (S44)) x108000 (wrap64 (3 + x2)) x108002 x108003 x108004 x108005 x108006 x108007 x108008 x108009 (⟨#[]⟩ : ByteArray)).bind fun bt115 => (if bt115.1 = 0 then (some (bt115.2 == 1)) else (some false))) else (if t110 = 3 then ((mail_Send.f k ([] : List (S44)) x108000 x108001 x108002 x108003 x108004 x108005 x108006 x108007 x108008 (wrap64 (255 + x2)) (⟨#[]⟩ : ByteArray)).bind fun bt117 => (if bt117.1 = 0 then (some (bt117.2 == 1)) else (some false))) else (if t110 = 4 then ((mail_Send.f k ([] : List (S44)) x108000 x108001 x108002 x108003 x108004 (⟨#[97, 98, 99, 100, 101, 102, 103, 104, 105, 106, 107, 108, 109]⟩ : ByteArray) x108006 x108007 x108008 x108009 (⟨#[]⟩ : ByteArray)).bind fun bt119 => (if bt119.1 = 0 then (some (bt119.2 == 1)) else (some false))) else ((mail_Send.f k ([] : List (S44)) x108000 x108001 x108002 x108003 x108004 x108005 x108006 x108007 x108008 x108009 (⟨#[]⟩ : ByteArray)).bind fun bt121 => (if bt121.1 = 0 then (some (bt121.2 == 1)) else (some false)))))))))
def donjonlaw18_MailLimits.f (k : Nat) (a0 : Int) (a1 : Int) (a2 : Int) : Option (Bool) := (donjonlaw18_known.f k).bind fun t101 => (if t101 = true then ((donjonlaw18_within.f a0 60).bind fun t102 => ((donjonlaw18_within.f a2 100).bind fun t103 => (if 0 ≤ t102 then (if (t102 : Int).toNat ≤ 281474976710656 then ((some (List.replicate (t102 : Int).toNat 0 : List Int)).bind fun y104 => ((mail_Send.f k ([] : List (S44)) (⟨#[97]⟩ : ByteArray) 0 0 0 0 (⟨#[98]⟩ : ByteArray) 0 0 0 0 (strOfNums y104)).bind fun bt108 => (if ((bt108.2 == 0) != (decide (t102 ≤ 40))) = true then (donjonlaw18_MailLimits.j0 k a1 (wrap64 (1 + t103)) true (⟨#[97]⟩ : ByteArray) 0 0 0 0 (⟨#[98]⟩ : ByteArray) 0 0 0 0 (strOfNums y104)) else (if bt108.2 = 0 then (if bt108.1 = 1 then (donjonlaw18_MailLimits.j0 k a1 (wrap64 (1 + t103)) false (⟨#[97]⟩ : ByteArray) 0 0 0 0 (⟨#[98]⟩ : ByteArray) 0 0 0 0 (strOfNums y104)) else (donjonlaw18_MailLimits.j0 k a1 (wrap64 (1 + t103)) true (⟨#[97]⟩ : ByteArray) 0 0 0 0 (⟨#[98]⟩ : ByteArray) 0 0 0 0 (strOfNums y104))) else (donjonlaw18_MailLimits.j0 k a1 (wrap64 (1 + t103)) (bt108.2 != 5) (⟨#[97]⟩ : ByteArray) 0 0 0 0 (⟨#[98]⟩ : ByteArray) 0 0 0 0 (strOfNums y104)))))) else (none)) else (none)))) else (some false))
theorem donjonlaw18_MailLimits.mono_l : ∀ k, (∀ y0 y1 y2 y3 y4 y5 y6 y7 y8 y9 y10 y11 y12 y13, LeO (donjonlaw18_MailLimits.j0 k y0 y1 y2 y3 y4 y5 y6 y7 y8 y9 y10 y11 y12 y13) (donjonlaw18_MailLimits.j0 (k + 1) y0 y1 y2 y3 y4 y5 y6 y7 y8 y9 y10 y11 y12 y13))
  | 0 => fun _ _ _ _ _ _ _ _ _ _ _ _ _ _ r h => by simp [donjonlaw18_MailLimits.j0] at h
  | k + 1 => by
    have ih0 := donjonlaw18_MailLimits.mono_l k
    · intro y0 y1 y2 y3 y4 y5 y6 y7 y8 y9 y10 y11 y12 y13
      unfold donjonlaw18_MailLimits.j0
      repeat' first
      | (with_reducible exact ih0 _ _ _ _ _ _ _ _ _ _ _ _ _ _)
      | (with_reducible exact donjonlaw18_known.mono _)
      | (with_reducible exact mail_Send.mono _ _ _ _ _ _ _ _ _ _ _ _ _)
      | (with_reducible exact LeO.refl _)
      | (with_reducible exact LeO.none _)
      | (with_reducible refine LeO.ite ?_ ?_)
      | (with_reducible refine LeO.bind ?_ (fun _ => ?_))
      | exact ih0 _ _ _ _ _ _ _ _ _ _ _ _ _ _
      | exact donjonlaw18_known.mono _
      | exact mail_Send.mono _ _ _ _ _ _ _ _ _ _ _ _ _
      | exact LeO.none _
      | refine LeO.ite ?_ ?_
      | refine LeO.bind ?_ (fun _ => ?_)
theorem donjonlaw18_MailLimits.mono : ∀ a0 a1 a2 k, LeO (donjonlaw18_MailLimits.f k a0 a1 a2) (donjonlaw18_MailLimits.f (k + 1) a0 a1 a2) := by
  intro a0 a1 a2 k
  have ih0 := donjonlaw18_MailLimits.mono_l k
  unfold donjonlaw18_MailLimits.f
  repeat' first
      | (with_reducible exact ih0 _ _ _ _ _ _ _ _ _ _ _ _ _ _)
      | (with_reducible exact donjonlaw18_known.mono _)
      | (with_reducible exact mail_Send.mono _ _ _ _ _ _ _ _ _ _ _ _ _)
      | (with_reducible exact LeO.refl _)
      | (with_reducible exact LeO.none _)
      | (with_reducible refine LeO.ite ?_ ?_)
      | (with_reducible refine LeO.bind ?_ (fun _ => ?_))
      | exact ih0 _ _ _ _ _ _ _ _ _ _ _ _ _ _
      | exact donjonlaw18_known.mono _
      | exact mail_Send.mono _ _ _ _ _ _ _ _ _ _ _ _ _
      | exact LeO.none _
      | refine LeO.ite ?_ ?_
      | refine LeO.bind ?_ (fun _ => ?_)
set_option maxHeartbeats 8000000 in
set_option maxRecDepth 100000 in
theorem donjonlaw18_MailLimits.calls (k : Nat) (a0 : Int) (a1 : Int) (a2 : Int) (r : Bool) (w : World) (h : donjonlaw18_MailLimits.f k a0 a1 a2 = some r) :
    Calls Try.prog 3 #[.int .i64 a0, .int .i64 a1, .int .i64 a2] w fun e w' => e = .returned (.bool r) ∧ Below w.heap.size w w' := by
  have hu28 := Try.underlying28
  have HB := Aside0.mk (Below.refl w.heap.size w)
  have H : ((donjonlaw18_known.f k).bind fun t101 => (if t101 = true then ((donjonlaw18_within.f a0 60).bind fun t102 => ((donjonlaw18_within.f a2 100).bind fun t103 => (if 0 ≤ t102 then (if (t102 : Int).toNat ≤ 281474976710656 then ((some (List.replicate (t102 : Int).toNat 0 : List Int)).bind fun y104 => ((mail_Send.f k ([] : List (S44)) (⟨#[97]⟩ : ByteArray) 0 0 0 0 (⟨#[98]⟩ : ByteArray) 0 0 0 0 (strOfNums y104)).bind fun bt108 => (if ((bt108.2 == 0) != (decide (t102 ≤ 40))) = true then (donjonlaw18_MailLimits.j0 k a1 (wrap64 (1 + t103)) true (⟨#[97]⟩ : ByteArray) 0 0 0 0 (⟨#[98]⟩ : ByteArray) 0 0 0 0 (strOfNums y104)) else (if bt108.2 = 0 then (if bt108.1 = 1 then (donjonlaw18_MailLimits.j0 k a1 (wrap64 (1 + t103)) false (⟨#[97]⟩ : ByteArray) 0 0 0 0 (⟨#[98]⟩ : ByteArray) 0 0 0 0 (strOfNums y104)) else (donjonlaw18_MailLimits.j0 k a1 (wrap64 (1 + t103)) true (⟨#[97]⟩ : ByteArray) 0 0 0 0 (⟨#[98]⟩ : ByteArray) 0 0 0 0 (strOfNums y104))) else (donjonlaw18_MailLimits.j0 k a1 (wrap64 (1 + t103)) (bt108.2 != 5) (⟨#[97]⟩ : ByteArray) 0 0 0 0 (⟨#[98]⟩ : ByteArray) 0 0 0 0 (strOfNums y104)))))) else (none)) else (none)))) else (some false))) = some r := h
  clear h
  replace H := Option.bind_eq_some_iff.mp H
  obtain ⟨t101, A40, H⟩ := H
  replace H : (if t101 = true then ((donjonlaw18_within.f a0 60).bind fun t102 => ((donjonlaw18_within.f a2 100).bind fun t103 => (if 0 ≤ t102 then (if (t102 : Int).toNat ≤ 281474976710656 then ((some (List.replicate (t102 : Int).toNat 0 : List Int)).bind fun y104 => ((mail_Send.f k ([] : List (S44)) (⟨#[97]⟩ : ByteArray) 0 0 0 0 (⟨#[98]⟩ : ByteArray) 0 0 0 0 (strOfNums y104)).bind fun bt108 => (if ((bt108.2 == 0) != (decide (t102 ≤ 40))) = true then (donjonlaw18_MailLimits.j0 k a1 (wrap64 (1 + t103)) true (⟨#[97]⟩ : ByteArray) 0 0 0 0 (⟨#[98]⟩ : ByteArray) 0 0 0 0 (strOfNums y104)) else (if bt108.2 = 0 then (if bt108.1 = 1 then (donjonlaw18_MailLimits.j0 k a1 (wrap64 (1 + t103)) false (⟨#[97]⟩ : ByteArray) 0 0 0 0 (⟨#[98]⟩ : ByteArray) 0 0 0 0 (strOfNums y104)) else (donjonlaw18_MailLimits.j0 k a1 (wrap64 (1 + t103)) true (⟨#[97]⟩ : ByteArray) 0 0 0 0 (⟨#[98]⟩ : ByteArray) 0 0 0 0 (strOfNums y104))) else (donjonlaw18_MailLimits.j0 k a1 (wrap64 (1 + t103)) (bt108.2 != 5) (⟨#[97]⟩ : ByteArray) 0 0 0 0 (⟨#[98]⟩ : ByteArray) 0 0 0 0 (strOfNums y104)))))) else (none)) else (none)))) else (some false)) = some r := H
  have A4 := Aside0.mk A40
  clear A40
  by_cases c5 : t101 = true
  · subst c5
    have H1 : ((donjonlaw18_within.f a0 60).bind fun t102 => ((donjonlaw18_within.f a2 100).bind fun t103 => (if 0 ≤ t102 then (if (t102 : Int).toNat ≤ 281474976710656 then ((some (List.replicate (t102 : Int).toNat 0 : List Int)).bind fun y104 => ((mail_Send.f k ([] : List (S44)) (⟨#[97]⟩ : ByteArray) 0 0 0 0 (⟨#[98]⟩ : ByteArray) 0 0 0 0 (strOfNums y104)).bind fun bt108 => (if ((bt108.2 == 0) != (decide (t102 ≤ 40))) = true then (donjonlaw18_MailLimits.j0 k a1 (wrap64 (1 + t103)) true (⟨#[97]⟩ : ByteArray) 0 0 0 0 (⟨#[98]⟩ : ByteArray) 0 0 0 0 (strOfNums y104)) else (if bt108.2 = 0 then (if bt108.1 = 1 then (donjonlaw18_MailLimits.j0 k a1 (wrap64 (1 + t103)) false (⟨#[97]⟩ : ByteArray) 0 0 0 0 (⟨#[98]⟩ : ByteArray) 0 0 0 0 (strOfNums y104)) else (donjonlaw18_MailLimits.j0 k a1 (wrap64 (1 + t103)) true (⟨#[97]⟩ : ByteArray) 0 0 0 0 (⟨#[98]⟩ : ByteArray) 0 0 0 0 (strOfNums y104))) else (donjonlaw18_MailLimits.j0 k a1 (wrap64 (1 + t103)) (bt108.2 != 5) (⟨#[97]⟩ : ByteArray) 0 0 0 0 (⟨#[98]⟩ : ByteArray) 0 0 0 0 (strOfNums y104)))))) else (none)) else (none)))) = some r := by rw [if_pos rfl] at H; exact H
    clear H
    have H := H1
    clear H1
    replace H := Option.bind_eq_some_iff.mp H
    obtain ⟨t102, A60, H⟩ := H
    replace H : ((donjonlaw18_within.f a2 100).bind fun t103 => (if 0 ≤ t102 then (if (t102 : Int).toNat ≤ 281474976710656 then ((some (List.replicate (t102 : Int).toNat 0 : List Int)).bind fun y104 => ((mail_Send.f k ([] : List (S44)) (⟨#[97]⟩ : ByteArray) 0 0 0 0 (⟨#[98]⟩ : ByteArray) 0 0 0 0 (strOfNums y104)).bind fun bt108 => (if ((bt108.2 == 0) != (decide (t102 ≤ 40))) = true then (donjonlaw18_MailLimits.j0 k a1 (wrap64 (1 + t103)) true (⟨#[97]⟩ : ByteArray) 0 0 0 0 (⟨#[98]⟩ : ByteArray) 0 0 0 0 (strOfNums y104)) else (if bt108.2 = 0 then (if bt108.1 = 1 then (donjonlaw18_MailLimits.j0 k a1 (wrap64 (1 + t103)) false (⟨#[97]⟩ : ByteArray) 0 0 0 0 (⟨#[98]⟩ : ByteArray) 0 0 0 0 (strOfNums y104)) else (donjonlaw18_MailLimits.j0 k a1 (wrap64 (1 + t103)) true (⟨#[97]⟩ : ByteArray) 0 0 0 0 (⟨#[98]⟩ : ByteArray) 0 0 0 0 (strOfNums y104))) else (donjonlaw18_MailLimits.j0 k a1 (wrap64 (1 + t103)) (bt108.2 != 5) (⟨#[97]⟩ : ByteArray) 0 0 0 0 (⟨#[98]⟩ : ByteArray) 0 0 0 0 (strOfNums y104)))))) else (none)) else (none))) = some r := H
    have A6 := Aside0.mk A60
    clear A60
    replace H := Option.bind_eq_some_iff.mp H
    obtain ⟨t103, A70, H⟩ := H
    replace H : (if 0 ≤ t102 then (if (t102 : Int).toNat ≤ 281474976710656 then ((some (List.replicate (t102 : Int).toNat 0 : List Int)).bind fun y104 => ((mail_Send.f k ([] : List (S44)) (⟨#[97]⟩ : ByteArray) 0 0 0 0 (⟨#[98]⟩ : ByteArray) 0 0 0 0 (strOfNums y104)).bind fun bt108 => (if ((bt108.2 == 0) != (decide (t102 ≤ 40))) = true then (donjonlaw18_MailLimits.j0 k a1 (wrap64 (1 + t103)) true (⟨#[97]⟩ : ByteArray) 0 0 0 0 (⟨#[98]⟩ : ByteArray) 0 0 0 0 (strOfNums y104)) else (if bt108.2 = 0 then (if bt108.1 = 1 then (donjonlaw18_MailLimits.j0 k a1 (wrap64 (1 + t103)) false (⟨#[97]⟩ : ByteArray) 0 0 0 0 (⟨#[98]⟩ : ByteArray) 0 0 0 0 (strOfNums y104)) else (donjonlaw18_MailLimits.j0 k a1 (wrap64 (1 + t103)) true (⟨#[97]⟩ : ByteArray) 0 0 0 0 (⟨#[98]⟩ : ByteArray) 0 0 0 0 (strOfNums y104))) else (donjonlaw18_MailLimits.j0 k a1 (wrap64 (1 + t103)) (bt108.2 != 5) (⟨#[97]⟩ : ByteArray) 0 0 0 0 (⟨#[98]⟩ : ByteArray) 0 0 0 0 (strOfNums y104)))))) else (none)) else (none)) = some r := H
    have A7 := Aside0.mk A70
    clear A70
    by_cases c8 : 0 ≤ t102
    · rw [if_pos c8] at H
      have c8b0 := eq_true c8
      have c8b1 : decide (0 ≤ t102) = true := decide_eq_true c8
      clear c8
      by_cases c9 : (t102 : Int).toNat ≤ 281474976710656
      · rw [if_pos c9] at H
        have c9b0 := eq_true c9
        have c9b1 : decide ((t102 : Int).toNat ≤ 281474976710656) = true := decide_eq_true c9
        clear c9
        obtain ⟨y104, hy104⟩ : ∃ y_ : List Int, y_ = (List.replicate (t102 : Int).toNat 0) := ⟨_, rfl⟩
        replace H : ((mail_Send.f k ([] : List (S44)) (⟨#[97]⟩ : ByteArray) 0 0 0 0 (⟨#[98]⟩ : ByteArray) 0 0 0 0 (strOfNums y104)).bind fun bt108 => (if ((bt108.2 == 0) != (decide (t102 ≤ 40))) = true then (donjonlaw18_MailLimits.j0 k a1 (wrap64 (1 + t103)) true (⟨#[97]⟩ : ByteArray) 0 0 0 0 (⟨#[98]⟩ : ByteArray) 0 0 0 0 (strOfNums y104)) else (if bt108.2 = 0 then (if bt108.1 = 1 then (donjonlaw18_MailLimits.j0 k a1 (wrap64 (1 + t103)) false (⟨#[97]⟩ : ByteArray) 0 0 0 0 (⟨#[98]⟩ : ByteArray) 0 0 0 0 (strOfNums y104)) else (donjonlaw18_MailLimits.j0 k a1 (wrap64 (1 + t103)) true (⟨#[97]⟩ : ByteArray) 0 0 0 0 (⟨#[98]⟩ : ByteArray) 0 0 0 0 (strOfNums y104))) else (donjonlaw18_MailLimits.j0 k a1 (wrap64 (1 + t103)) (bt108.2 != 5) (⟨#[97]⟩ : ByteArray) 0 0 0 0 (⟨#[98]⟩ : ByteArray) 0 0 0 0 (strOfNums y104))))) = some r := by first | (rw [hy104]; with_reducible exact H) | (have H2_ := (Option.bind_some _ _).symm.trans H; rw [hy104]; with_reducible exact H2_) | (have H2_ := (Option.bind_some _ _).symm.trans H; with_reducible exact H2_) | with_reducible exact H | (rw [hy104]; exact H) | exact H
        have Ny104 := Aside0.mk hy104
        clear hy104
        replace H := Option.bind_eq_some_iff.mp H
        obtain ⟨⟨t108, t109⟩, A100, H⟩ := H
        replace H : (if ((t109 == 0) != (decide (t102 ≤ 40))) = true then (donjonlaw18_MailLimits.j0 k a1 (wrap64 (1 + t103)) true (⟨#[97]⟩ : ByteArray) 0 0 0 0 (⟨#[98]⟩ : ByteArray) 0 0 0 0 (strOfNums y104)) else (if t109 = 0 then (if t108 = 1 then (donjonlaw18_MailLimits.j0 k a1 (wrap64 (1 + t103)) false (⟨#[97]⟩ : ByteArray) 0 0 0 0 (⟨#[98]⟩ : ByteArray) 0 0 0 0 (strOfNums y104)) else (donjonlaw18_MailLimits.j0 k a1 (wrap64 (1 + t103)) true (⟨#[97]⟩ : ByteArray) 0 0 0 0 (⟨#[98]⟩ : ByteArray) 0 0 0 0 (strOfNums y104))) else (donjonlaw18_MailLimits.j0 k a1 (wrap64 (1 + t103)) (t109 != 5) (⟨#[97]⟩ : ByteArray) 0 0 0 0 (⟨#[98]⟩ : ByteArray) 0 0 0 0 (strOfNums y104)))) = some r := H
        have A10 := Aside0.mk A100
        clear A100
        have HC11 := Aside0.mk H
        clear H
        go_enter Try.func3, Try.ntmps3
        go_upto_region 6 with (first | ((with_reducible refine gate_callee (f := 9) rfl ?_); refine goesL_ (some 10) rfl rfl Try.func9 (by kernel_rfl) rfl #[] rfl (by (try simp only [List.map_toArray, List.map_cons, List.map_nil]); first | done | rfl | (simp only [List.length_drop, List.length_take]; rfl)) ?_; (with_reducible refine (donjonlaw18_known.calls k  true _ A4.out).mono ?_); rintro e w12 ⟨rfl, hb⟩; refine ⟨_, rfl, ?_⟩; have n0_ := Aside0.mk (below_step (by repeat (first | (with_reducible first | exact HB.out | apply below_alloc | apply pw_below_drewN | apply below_drew1) | exact HB.out)) hb); clear HB; have HB := n0_; clear n0_; (try clear hb); (try clear hb2); (try clear hk); (try clear hi)) | ((with_reducible refine gate_callee (f := 10) rfl ?_); refine goesL_ (some 13) rfl rfl Try.func10 (by kernel_rfl) rfl #[.int .i64 a0, .int .i64 60] rfl (by (try simp only [List.map_toArray, List.map_cons, List.map_nil]); first | done | rfl | (simp only [List.length_drop, List.length_take]; rfl)) ?_; (with_reducible refine (donjonlaw18_within.calls a0 60 t102 _ A6.out).mono ?_); rintro e w' ⟨rfl, ⟨nd, rfl⟩⟩; refine ⟨_, rfl, ?_⟩; (try (rw [drewN_self w12]; generalize hq_ : World.drewN w12 _ = w12; have n0_ : Aside0 (Below w.heap.size w w12) := ⟨by rw [← hq_]; exact (by repeat (first | (with_reducible first | exact HB.out | apply below_alloc | apply pw_below_drewN | apply below_drew1) | exact HB.out))⟩; clear HB hq_; have HB := n0_; clear n0_))) | ((with_reducible refine gate_callee (f := 10) rfl ?_); refine goesL_ (some 15) rfl rfl Try.func10 (by kernel_rfl) rfl #[.int .i64 a2, .int .i64 100] rfl (by (try simp only [List.map_toArray, List.map_cons, List.map_nil]); first | done | rfl | (simp only [List.length_drop, List.length_take]; rfl)) ?_; (with_reducible refine (donjonlaw18_within.calls a2 100 t103 _ A7.out).mono ?_); rintro e w' ⟨rfl, ⟨nd, rfl⟩⟩; refine ⟨_, rfl, ?_⟩; (try (rw [drewN_self w12]; generalize hq_ : World.drewN w12 _ = w12; have n0_ : Aside0 (Below w.heap.size w w12) := ⟨by rw [← hq_]; exact (by repeat (first | (with_reducible first | exact HB.out | apply below_alloc | apply pw_below_drewN | apply below_drew1) | exact HB.out))⟩; clear HB hq_; have HB := n0_; clear n0_))) | ((with_reducible refine gate_dst (N := 18) rfl ?_); refine Kd.R_make (Kd.int .u8) _ 5 rfl (N := 18) rfl 24 _ _ rfl t102 rfl rfl Try.underlying24 (.int .u8 0) 1 info5 rfl (by decide) (by omega) 0 (ok := fun _ => True) (okp := fun _ => True) rfl (fun _ hk => hk) trivial (of_decide_eq_true (by first | (with_reducible assumption) | assumption)) (Nat.le_trans (Nat.mul_le_mul_right _ (of_decide_eq_true (by first | (with_reducible assumption) | assumption) : t102.toNat ≤ 281474976710656)) (by omega)) (Below.refl _ _) (Nat.le_refl _) ?_; intro v105 w13 ho14 hb hg_ hnew_; clear hg_ hnew_; (first | rw [← Ny104.out] at ho14 | (simp only [Int.reduceToNat] at ho14; rw [← Ny104.out] at ho14)); have n0_ := Aside0.mk (Kd.R_lower ho14 (below_size (by repeat (first | (with_reducible first | exact HB.out | apply below_alloc | apply pw_below_drewN | apply below_drew1) | exact HB.out)))); have n1_ := Aside0.mk (below_step (by repeat (first | (with_reducible first | exact HB.out | apply below_alloc | apply pw_below_drewN | apply below_drew1) | exact HB.out)) hb); clear HB; have HO106 := n0_; have HB := n1_; clear n0_ n1_; clear hb ho14; have hcv15 := own_string (P := Try.prog) Try.underlying24 Try.underlying5 Try.underlying9 (Kd.own_of_R HO106.out)) | ((with_reducible refine gate_dst (N := 7) rfl ?_); refine box_event ?hg (N := 7) ?hd (cs := #[.string (⟨#[]⟩ : ByteArray), .int .i64 0, .int .i64 0, .int .i64 0, .int .i64 0, .string (⟨#[]⟩ : ByteArray), .int .i64 0, .int .i64 0, .int .i64 0, .int .i64 0, .string (⟨#[]⟩ : ByteArray)]) (t := 28) ?hr ?_; (case hd => rfl); (case hg => rfl); (case hr => first | (go_simp; done) | (go_simp; rfl)); intro gb107 hg w16 hbox hb; have n0_ := Aside0.mk (Kd.R_below (by (with_reducible repeat (first | apply Kd.R_alloc | apply Kd.R_drewN | apply Kd.R_drew)); exact HO106.out) hb); have n1_ := Aside0.mk (below_step (by repeat (first | (with_reducible first | exact HB.out | apply below_alloc | apply pw_below_drewN | apply below_drew1) | exact HB.out)) hb); have n2_ := Aside0.mk (hbox); have n3_ := Aside0.mk ((by rw [hg]; exact (below_size (by repeat (first | (with_reducible first | exact HB.out | apply below_alloc | apply pw_below_drewN | apply below_drew1) | exact HB.out))) : w.heap.size ≤ gb107)); have n4_ := Aside0.mk ((by rw [hg]; exact (below_size (by repeat (first | (with_reducible first | exact HB.out | apply below_alloc | apply pw_below_drewN | apply below_drew1) | exact HB.out))) : w.heap.size ≤ gb107)); clear HO106; clear HB; have HO106 := n0_; have HB := n1_; have BK107 := n2_; have GW107 := n3_; have GE107 := n4_; clear n0_ n1_ n2_ n3_ n4_; clear hb hbox hg; have hcz17_0 : w16.cell? ⟨gb107, 0, none⟩ = some (.string (⟨#[]⟩ : ByteArray)) := (blk_cell BK107.out 0).trans rfl; have hcz17_1 : w16.cell? ⟨gb107, 1, none⟩ = some (.int .i64 0) := (blk_cell BK107.out 1).trans rfl; have hcz17_2 : w16.cell? ⟨gb107, 2, none⟩ = some (.int .i64 0) := (blk_cell BK107.out 2).trans rfl; have hcz17_3 : w16.cell? ⟨gb107, 3, none⟩ = some (.int .i64 0) := (blk_cell BK107.out 3).trans rfl; have hcz17_4 : w16.cell? ⟨gb107, 4, none⟩ = some (.int .i64 0) := (blk_cell BK107.out 4).trans rfl; have hcz17_5 : w16.cell? ⟨gb107, 5, none⟩ = some (.string (⟨#[]⟩ : ByteArray)) := (blk_cell BK107.out 5).trans rfl; have hcz17_6 : w16.cell? ⟨gb107, 6, none⟩ = some (.int .i64 0) := (blk_cell BK107.out 6).trans rfl; have hcz17_7 : w16.cell? ⟨gb107, 7, none⟩ = some (.int .i64 0) := (blk_cell BK107.out 7).trans rfl; have hcz17_8 : w16.cell? ⟨gb107, 8, none⟩ = some (.int .i64 0) := (blk_cell BK107.out 8).trans rfl; have hcz17_9 : w16.cell? ⟨gb107, 9, none⟩ = some (.int .i64 0) := (blk_cell BK107.out 9).trans rfl; have hcz17_10 : w16.cell? ⟨gb107, 10, none⟩ = some (.string (⟨#[]⟩ : ByteArray)) := (blk_cell BK107.out 10).trans rfl; have hfz17_0 := blk_frozen BK107.out 0; have hfz17_1 := blk_frozen BK107.out 1; have hfz17_2 := blk_frozen BK107.out 2; have hfz17_3 := blk_frozen BK107.out 3; have hfz17_4 := blk_frozen BK107.out 4; have hfz17_5 := blk_frozen BK107.out 5; have hfz17_6 := blk_frozen BK107.out 6; have hfz17_7 := blk_frozen BK107.out 7; have hfz17_8 := blk_frozen BK107.out 8; have hfz17_9 := blk_frozen BK107.out 9; have hfz17_10 := blk_frozen BK107.out 10) | ((with_reducible refine gate_callee (f := 11) rfl ?_); refine goesL_ (some 23) rfl rfl Try.func11 (by kernel_rfl) rfl #[.slice none 0 0, .agg #[.string (⟨#[97]⟩ : ByteArray), .int .i64 0, .int .i64 0, .int .i64 0, .int .i64 0, .string (⟨#[98]⟩ : ByteArray), .int .i64 0, .int .i64 0, .int .i64 0, .int .i64 0, .string (strOfNums y104)]] rfl (by (try simp only [List.map_toArray, List.map_cons, List.map_nil]); first | done | rfl | (simp only [List.length_drop, List.length_take]; rfl)) ?_; (refine (mail_Send.calls k _ _ ([] : List (S44)) (⟨#[97]⟩ : ByteArray) 0 0 0 0 (⟨#[98]⟩ : ByteArray) 0 0 0 0 (strOfNums y104) t108 t109 _ ?side1 ?side2 A10.out).mono ?_); (case side1 => exact Kd.C_nil _ _); (case side2 => exact Nat.le_refl _); rintro e w18 ⟨rfl, hb⟩; refine ⟨_, rfl, ?_⟩; have n0_ := Aside0.mk (Kd.R_below (by (with_reducible repeat (first | apply Kd.R_alloc | apply Kd.R_drewN | apply Kd.R_drew)); exact (Kd.R_mono (Kd.R_far (p := ⟨gb107, 10, none⟩) (Kd.R_far (p := ⟨gb107, 9, none⟩) (Kd.R_far (p := ⟨gb107, 8, none⟩) (Kd.R_far (p := ⟨gb107, 7, none⟩) (Kd.R_far (p := ⟨gb107, 6, none⟩) (Kd.R_far (p := ⟨gb107, 5, none⟩) (Kd.R_far (p := ⟨gb107, 4, none⟩) (Kd.R_far (p := ⟨gb107, 3, none⟩) (Kd.R_far (p := ⟨gb107, 2, none⟩) (Kd.R_far (p := ⟨gb107, 1, none⟩) (Kd.R_far (p := ⟨gb107, 0, none⟩) (Kd.R_types HO106.out BK107.out (by decide)) (fun _ hk => hk.2) (.string (⟨#[97]⟩ : ByteArray))) (fun _ hk => hk.2) (.int .i64 0)) (fun _ hk => hk.2) (.int .i64 0)) (fun _ hk => hk.2) (.int .i64 0)) (fun _ hk => hk.2) (.int .i64 0)) (fun _ hk => hk.2) (.string (⟨#[98]⟩ : ByteArray))) (fun _ hk => hk.2) (.int .i64 0)) (fun _ hk => hk.2) (.int .i64 0)) (fun _ hk => hk.2) (.int .i64 0)) (fun _ hk => hk.2) (.int .i64 0)) (fun _ hk => hk.2) (.string (strOfNums y104))) (fun _ h_ => h_.1))) hb); have n1_ := Aside0.mk (blk_below (g := gb107) (o := .cells #[.string (⟨#[97]⟩ : ByteArray), .int .i64 0, .int .i64 0, .int .i64 0, .int .i64 0, .string (⟨#[98]⟩ : ByteArray), .int .i64 0, .int .i64 0, .int .i64 0, .int .i64 0, .string (strOfNums y104)] 28 (0, 0)) (by (with_reducible repeat (first | refine blk_drewN ?_ _ | refine blk_drew ?_ | refine blk_alloc ?_ _)); refine blk_put (cs := #[.string (⟨#[97]⟩ : ByteArray), .int .i64 0, .int .i64 0, .int .i64 0, .int .i64 0, .string (⟨#[98]⟩ : ByteArray), .int .i64 0, .int .i64 0, .int .i64 0, .int .i64 0, .string (⟨#[]⟩ : ByteArray)]) ?_ 10 _ rfl; (with_reducible repeat (first | refine blk_drewN ?_ _ | refine blk_drew ?_ | refine blk_alloc ?_ _)); refine blk_put (cs := #[.string (⟨#[97]⟩ : ByteArray), .int .i64 0, .int .i64 0, .int .i64 0, .int .i64 0, .string (⟨#[98]⟩ : ByteArray), .int .i64 0, .int .i64 0, .int .i64 0, .int .i64 0, .string (⟨#[]⟩ : ByteArray)]) ?_ 9 _ rfl; (with_reducible repeat (first | refine blk_drewN ?_ _ | refine blk_drew ?_ | refine blk_alloc ?_ _)); refine blk_put (cs := #[.string (⟨#[97]⟩ : ByteArray), .int .i64 0, .int .i64 0, .int .i64 0, .int .i64 0, .string (⟨#[98]⟩ : ByteArray), .int .i64 0, .int .i64 0, .int .i64 0, .int .i64 0, .string (⟨#[]⟩ : ByteArray)]) ?_ 8 _ rfl; (with_reducible repeat (first | refine blk_drewN ?_ _ | refine blk_drew ?_ | refine blk_alloc ?_ _)); refine blk_put (cs := #[.string (⟨#[97]⟩ : ByteArray), .int .i64 0, .int .i64 0, .int .i64 0, .int .i64 0, .string (⟨#[98]⟩ : ByteArray), .int .i64 0, .int .i64 0, .int .i64 0, .int .i64 0, .string (⟨#[]⟩ : ByteArray)]) ?_ 7 _ rfl; (with_reducible repeat (first | refine blk_drewN ?_ _ | refine blk_drew ?_ | refine blk_alloc ?_ _)); refine blk_put (cs := #[.string (⟨#[97]⟩ : ByteArray), .int .i64 0, .int .i64 0, .int .i64 0, .int .i64 0, .string (⟨#[98]⟩ : ByteArray), .int .i64 0, .int .i64 0, .int .i64 0, .int .i64 0, .string (⟨#[]⟩ : ByteArray)]) ?_ 6 _ rfl; (with_reducible repeat (first | refine blk_drewN ?_ _ | refine blk_drew ?_ | refine blk_alloc ?_ _)); refine blk_put (cs := #[.string (⟨#[97]⟩ : ByteArray), .int .i64 0, .int .i64 0, .int .i64 0, .int .i64 0, .string (⟨#[]⟩ : ByteArray), .int .i64 0, .int .i64 0, .int .i64 0, .int .i64 0, .string (⟨#[]⟩ : ByteArray)]) ?_ 5 _ rfl; (with_reducible repeat (first | refine blk_drewN ?_ _ | refine blk_drew ?_ | refine blk_alloc ?_ _)); refine blk_put (cs := #[.string (⟨#[97]⟩ : ByteArray), .int .i64 0, .int .i64 0, .int .i64 0, .int .i64 0, .string (⟨#[]⟩ : ByteArray), .int .i64 0, .int .i64 0, .int .i64 0, .int .i64 0, .string (⟨#[]⟩ : ByteArray)]) ?_ 4 _ rfl; (with_reducible repeat (first | refine blk_drewN ?_ _ | refine blk_drew ?_ | refine blk_alloc ?_ _)); refine blk_put (cs := #[.string (⟨#[97]⟩ : ByteArray), .int .i64 0, .int .i64 0, .int .i64 0, .int .i64 0, .string (⟨#[]⟩ : ByteArray), .int .i64 0, .int .i64 0, .int .i64 0, .int .i64 0, .string (⟨#[]⟩ : ByteArray)]) ?_ 3 _ rfl; (with_reducible repeat (first | refine blk_drewN ?_ _ | refine blk_drew ?_ | refine blk_alloc ?_ _)); refine blk_put (cs := #[.string (⟨#[97]⟩ : ByteArray), .int .i64 0, .int .i64 0, .int .i64 0, .int .i64 0, .string (⟨#[]⟩ : ByteArray), .int .i64 0, .int .i64 0, .int .i64 0, .int .i64 0, .string (⟨#[]⟩ : ByteArray)]) ?_ 2 _ rfl; (with_reducible repeat (first | refine blk_drewN ?_ _ | refine blk_drew ?_ | refine blk_alloc ?_ _)); refine blk_put (cs := #[.string (⟨#[97]⟩ : ByteArray), .int .i64 0, .int .i64 0, .int .i64 0, .int .i64 0, .string (⟨#[]⟩ : ByteArray), .int .i64 0, .int .i64 0, .int .i64 0, .int .i64 0, .string (⟨#[]⟩ : ByteArray)]) ?_ 1 _ rfl; (with_reducible repeat (first | refine blk_drewN ?_ _ | refine blk_drew ?_ | refine blk_alloc ?_ _)); refine blk_put (cs := #[.string (⟨#[]⟩ : ByteArray), .int .i64 0, .int .i64 0, .int .i64 0, .int .i64 0, .string (⟨#[]⟩ : ByteArray), .int .i64 0, .int .i64 0, .int .i64 0, .int .i64 0, .string (⟨#[]⟩ : ByteArray)]) ?_ 0 _ rfl; (with_reducible repeat (first | refine blk_drewN ?_ _ | refine blk_drew ?_ | refine blk_alloc ?_ _)); exact BK107.out) hb); have n2_ := Aside0.mk (below_step (by repeat (first | (with_reducible first | exact HB.out | apply below_alloc | apply pw_below_drewN | apply below_drew1 | refine below_set ?_ GE107.out) | exact HB.out)) hb); clear HO106; clear BK107; clear HB; have HO106 := n0_; have BK107 := n1_; have HB := n2_; clear n0_ n1_ n2_; (try clear hb); (try clear hb2); (try clear hk); (try clear hi)))
        (try simp only [Act.put, List.setIfInBounds_toArray, List.set_cons_zero, List.set_cons_succ])
        go_cut [46] (fun v46 wc => ∃ (kq : Nat) (x46_10 : Bool), v46 = .bool x46_10 ∧ Aside0 (donjonlaw18_MailLimits.j0 kq a1 (wrap64 (1 + t103)) x46_10 (⟨#[97]⟩ : ByteArray) 0 0 0 0 (⟨#[98]⟩ : ByteArray) 0 0 0 0 (strOfNums y104) = some r) ∧ Aside0 (kq ≤ k) ∧ Aside0 (wc.heap[gb107]? = some (.cells #[.string (⟨#[97]⟩ : ByteArray), .int .i64 0, .int .i64 0, .int .i64 0, .int .i64 0, .string (⟨#[98]⟩ : ByteArray), .int .i64 0, .int .i64 0, .int .i64 0, .int .i64 0, .string (strOfNums y104)] 28 (0, 0))) ∧ Aside0 (Below w.heap.size w wc))
        case first =>
          have H := HC11.out
          clear HC11
          by_cases c19 : ((t109 == 0) != (decide (t102 ≤ 40))) = true
          · rw [if_pos c19] at H
            have c19b0 : ((t109 == 0) != (decide (t102 ≤ 40))) = true := c19
            (try (have c19b1 : decide ((t109 == 0) = (decide (t102 ≤ 40))) = false := by simpa using c19))
            (try (have c19b2 : ((t109 == 0) == (decide (t102 ≤ 40))) = false := by simpa using c19))
            (try (have c19b3 : ¬ ((t109 == 0) = (decide (t102 ≤ 40))) := by simpa using c19))
            clear c19
            (first | rw [c19b0] | (simp only [i64_w, i32_w]; rw [c19b0]) | skip)
            have H' := Aside0.mk H
            clear H
            go_wp2
            go_meet
            case rel => exact ⟨_, (true), (by first | rfl | (simp; done) | (simp [*]; done)), H', ⟨by first | omega | exact Nat.le_refl _⟩, ⟨by (with_reducible repeat (first | refine blk_drewN ?_ _ | refine blk_drew ?_ | refine blk_alloc ?_ _)); exact BK107.out⟩, ⟨by repeat (first | (with_reducible first | exact HB.out | apply below_alloc | apply pw_below_drewN | apply below_drew1 | refine below_set ?_ GE107.out) | exact HB.out)⟩⟩
          · rw [if_neg c19] at H
            have c19b0 : ((t109 == 0) != (decide (t102 ≤ 40))) = false := by simpa using c19
            (try (have c19b1 : decide ((t109 == 0) = (decide (t102 ≤ 40))) = true := by simpa using c19))
            (try (have c19b2 : ((t109 == 0) == (decide (t102 ≤ 40))) = true := by simpa using c19))
            clear c19
            (first | rw [c19b0] | (simp only [i64_w, i32_w]; rw [c19b0]) | skip)
            by_cases c20 : t109 = 0
            · rw [if_pos c20] at H
              have c20b0 : (t109 == 0) = true := beq_iff_eq.mpr c20
              (try (have c20x0 : decide (t102 ≤ 40) = true := by have h_ := c19b0; rw [c20b0] at h_; simpa using h_))
              (try (have c20x1 : decide (t102 ≤ 40) = false := by have h_ := c19b0; rw [c20b0] at h_; simpa using h_))
              have c20b1 : (t109 != 0) = false := bne_eq_false_iff_eq.mpr c20
              clear c20
              by_cases c21 : t108 = 1
              · rw [if_pos c21] at H
                have c21b0 : (t108 == 1) = true := beq_iff_eq.mpr c21
                have c21b1 : (t108 != 1) = false := bne_eq_false_iff_eq.mpr c21
                clear c21
                have H' := Aside0.mk H
                clear H
                go_wp2
                go_meet
                case rel => exact ⟨_, (false), (by first | rfl | (simp; done) | (simp [*]; done)), H', ⟨by first | omega | exact Nat.le_refl _⟩, ⟨by (with_reducible repeat (first | refine blk_drewN ?_ _ | refine blk_drew ?_ | refine blk_alloc ?_ _)); exact BK107.out⟩, ⟨by repeat (first | (with_reducible first | exact HB.out | apply below_alloc | apply pw_below_drewN | apply below_drew1 | refine below_set ?_ GE107.out) | exact HB.out)⟩⟩
              · rw [if_neg c21] at H
                have c21b0 : (t108 == 1) = false := beq_eq_false_iff_ne.mpr c21
                have c21b1 : (t108 != 1) = true := bne_iff_ne.mpr c21
                have H' := Aside0.mk H
                clear H
                go_wp2
                go_meet
                case rel => exact ⟨_, (true), (by first | rfl | (simp; done) | (simp [*]; done)), H', ⟨by first | omega | exact Nat.le_refl _⟩, ⟨by (with_reducible repeat (first | refine blk_drewN ?_ _ | refine blk_drew ?_ | refine blk_alloc ?_ _)); exact BK107.out⟩, ⟨by repeat (first | (with_reducible first | exact HB.out | apply below_alloc | apply pw_below_drewN | apply below_drew1 | refine below_set ?_ GE107.out) | exact HB.out)⟩⟩
            · rw [if_neg c20] at H
              have c20b0 : (t109 == 0) = false := beq_eq_false_iff_ne.mpr c20
              (try (have c20x0 : decide (t102 ≤ 40) = true := by have h_ := c19b0; rw [c20b0] at h_; simpa using h_))
              (try (have c20x1 : decide (t102 ≤ 40) = false := by have h_ := c19b0; rw [c20b0] at h_; simpa using h_))
              have c20b1 : (t109 != 0) = true := bne_iff_ne.mpr c20
              have H' := Aside0.mk H
              clear H
              go_wp2
              go_meet
              case rel => exact ⟨_, ((t109 != 5)), (by first | rfl | (simp; done) | (simp [*]; done)), H', ⟨by first | omega | exact Nat.le_refl _⟩, ⟨by (with_reducible repeat (first | refine blk_drewN ?_ _ | refine blk_drew ?_ | refine blk_alloc ?_ _)); exact BK107.out⟩, ⟨by repeat (first | (with_reducible first | exact HB.out | apply below_alloc | apply pw_below_drewN | apply below_drew1 | refine below_set ?_ GE107.out) | exact HB.out)⟩⟩
        case rest =>
          clear HC11
          try clear c1
          try clear hcv1
          try clear c2
          try clear p2
          try clear c3
          try clear c5
          try clear p6
          try clear c8
          try clear c8b0
          try clear c8b1
          try clear c9
          try clear c9b0
          try clear c9b1
          try clear c10
          try clear c11
          try clear hcv15
          try clear c19
          try clear c19b0
          try clear c19b1
          try clear c19b2
          try clear c20
          try clear c20b0
          try clear c20b1
          try clear c21
          try clear c21b0
          try clear c21b1
          try clear hcz17_0
          try clear hcz17_1
          try clear hcz17_10
          try clear hcz17_2
          try clear hcz17_3
          try clear hcz17_4
          try clear hcz17_5
          try clear hcz17_6
          try clear hcz17_7
          try clear hcz17_8
          try clear hcz17_9
          try clear hfz17_0
          try clear hfz17_1
          try clear hfz17_10
          try clear hfz17_2
          try clear hfz17_3
          try clear hfz17_4
          try clear hfz17_5
          try clear hfz17_6
          try clear hfz17_7
          try clear hfz17_8
          try clear hfz17_9
          obtain ⟨kq, x46_10, rfl, HA, HJ10, BK107, HB⟩ := hcut
          cases kq with
          | zero => exact absurd HA.out (by simp [donjonlaw18_MailLimits.j0])
          | succ kj10 =>
            have H := HA.out
            clear HA
            simp only [donjonlaw18_MailLimits.j0] at H
            by_cases c22 : x46_10 = true
            · subst c22
              have H1 : (some false) = some r := by rw [if_pos rfl] at H; exact H
              clear H
              have H := H1
              clear H1
              obtain rfl := Option.some.inj H
              go_wp2
              go_ret
              exact ⟨by first | rfl | (simp [errW_none, errW_some] <;> rfl) | (simp [*, errW_none, errW_some] <;> rfl), by repeat (first | (with_reducible first | exact HB.out | apply below_alloc | apply pw_below_drewN | apply below_drew1 | refine below_set ?_ GE107.out) | exact HB.out)⟩
            · replace c22 := Bool.eq_false_iff.mpr c22
              subst c22
              have H1 : ((donjonlaw18_within.f a1 5).bind fun t110 => (if t110 = 0 then ((mail_Send.f kj10 ([] : List (S44)) (⟨#[65]⟩ : ByteArray) 0 0 0 0 (⟨#[98]⟩ : ByteArray) 0 0 0 0 (⟨#[]⟩ : ByteArray)).bind fun bt111 => (if bt111.1 = 0 then (some (bt111.2 == 1)) else (some false))) else (if t110 = 1 then ((mail_Send.f kj10 ([] : List (S44)) (⟨#[97]⟩ : ByteArray) 0 0 0 0 (⟨#[42]⟩ : ByteArray) 0 0 0 0 (⟨#[]⟩ : ByteArray)).bind fun bt113 => (if bt113.1 = 0 then (some (bt113.2 == 1)) else (some false))) else (if t110 = 2 then ((mail_Send.f kj10 ([] : List (S44)) (⟨#[97]⟩ : ByteArray) (wrap64 (3 + (wrap64 (1 + t103)))) 0 0 0 (⟨#[98]⟩ : ByteArray) 0 0 0 0 (⟨#[]⟩ : ByteArray)).bind fun bt115 => (if bt115.1 = 0 then (some (bt115.2 == 1)) else (some false))) else (if t110 = 3 then ((mail_Send.f kj10 ([] : List (S44)) (⟨#[97]⟩ : ByteArray) 0 0 0 0 (⟨#[98]⟩ : ByteArray) 0 0 0 (wrap64 (255 + (wrap64 (1 + t103)))) (⟨#[]⟩ : ByteArray)).bind fun bt117 => (if bt117.1 = 0 then (some (bt117.2 == 1)) else (some false))) else (if t110 = 4 then ((mail_Send.f kj10 ([] : List (S44)) (⟨#[97]⟩ : ByteArray) 0 0 0 0 (⟨#[97, 98, 99, 100, 101, 102, 103, 104, 105, 106, 107, 108, 109]⟩ : ByteArray) 0 0 0 0 (⟨#[]⟩ : ByteArray)).bind fun bt119 => (if bt119.1 = 0 then (some (bt119.2 == 1)) else (some false))) else ((mail_Send.f kj10 ([] : List (S44)) (⟨#[97]⟩ : ByteArray) 0 0 0 0 (⟨#[98]⟩ : ByteArray) 0 0 0 0 (⟨#[]⟩ : ByteArray)).bind fun bt121 => (if bt121.1 = 0 then (some (bt121.2 == 1)) else (some false))))))))) = some r := by rw [if_neg (show ¬ (false = true) by decide)] at H; exact H
              clear H
              have H := H1
              clear H1
              replace H := Option.bind_eq_some_iff.mp H
              obtain ⟨t110, A230, H⟩ := H
              replace H : (if t110 = 0 then ((mail_Send.f kj10 ([] : List (S44)) (⟨#[65]⟩ : ByteArray) 0 0 0 0 (⟨#[98]⟩ : ByteArray) 0 0 0 0 (⟨#[]⟩ : ByteArray)).bind fun bt111 => (if bt111.1 = 0 then (some (bt111.2 == 1)) else (some false))) else (if t110 = 1 then ((mail_Send.f kj10 ([] : List (S44)) (⟨#[97]⟩ : ByteArray) 0 0 0 0 (⟨#[42]⟩ : ByteArray) 0 0 0 0 (⟨#[]⟩ : ByteArray)).bind fun bt113 => (if bt113.1 = 0 then (some (bt113.2 == 1)) else (some false))) else (if t110 = 2 then ((mail_Send.f kj10 ([] : List (S44)) (⟨#[97]⟩ : ByteArray) (wrap64 (3 + (wrap64 (1 + t103)))) 0 0 0 (⟨#[98]⟩ : ByteArray) 0 0 0 0 (⟨#[]⟩ : ByteArray)).bind fun bt115 => (if bt115.1 = 0 then (some (bt115.2 == 1)) else (some false))) else (if t110 = 3 then ((mail_Send.f kj10 ([] : List (S44)) (⟨#[97]⟩ : ByteArray) 0 0 0 0 (⟨#[98]⟩ : ByteArray) 0 0 0 (wrap64 (255 + (wrap64 (1 + t103)))) (⟨#[]⟩ : ByteArray)).bind fun bt117 => (if bt117.1 = 0 then (some (bt117.2 == 1)) else (some false))) else (if t110 = 4 then ((mail_Send.f kj10 ([] : List (S44)) (⟨#[97]⟩ : ByteArray) 0 0 0 0 (⟨#[97, 98, 99, 100, 101, 102, 103, 104, 105, 106, 107, 108, 109]⟩ : ByteArray) 0 0 0 0 (⟨#[]⟩ : ByteArray)).bind fun bt119 => (if bt119.1 = 0 then (some (bt119.2 == 1)) else (some false))) else ((mail_Send.f kj10 ([] : List (S44)) (⟨#[97]⟩ : ByteArray) 0 0 0 0 (⟨#[98]⟩ : ByteArray) 0 0 0 0 (⟨#[]⟩ : ByteArray)).bind fun bt121 => (if bt121.1 = 0 then (some (bt121.2 == 1)) else (some false)))))))) = some r := H
              have A23 := Aside0.mk A230
              clear A230
              by_cases c24 : t110 = 0
              · rw [if_pos c24] at H
                have c24b0 : (t110 == 0) = true := beq_iff_eq.mpr c24
                have c24b1 : (t110 != 0) = false := bne_eq_false_iff_eq.mpr c24
                clear c24
                replace H := Option.bind_eq_some_iff.mp H
                obtain ⟨⟨t111, t112⟩, A250, H⟩ := H
                replace H : (if t111 = 0 then (some (t112 == 1)) else (some false)) = some r := H
                have A25 := Aside0.mk A250
                clear A250
                by_cases c26 : t111 = 0
                · rw [if_pos c26] at H
                  have c26b0 : (t111 == 0) = true := beq_iff_eq.mpr c26
                  have c26b1 : (t111 != 0) = false := bne_eq_false_iff_eq.mpr c26
                  clear c26
                  obtain rfl := Option.some.inj H
                  have hcz27_0 : wc.cell? ⟨gb107, 0, none⟩ = some (.string (⟨#[97]⟩ : ByteArray)) := (blk_cell BK107.out 0).trans rfl
                  have hcz27_1 : wc.cell? ⟨gb107, 1, none⟩ = some (.int .i64 0) := (blk_cell BK107.out 1).trans rfl
                  have hcz27_2 : wc.cell? ⟨gb107, 2, none⟩ = some (.int .i64 0) := (blk_cell BK107.out 2).trans rfl
                  have hcz27_3 : wc.cell? ⟨gb107, 3, none⟩ = some (.int .i64 0) := (blk_cell BK107.out 3).trans rfl
                  have hcz27_4 : wc.cell? ⟨gb107, 4, none⟩ = some (.int .i64 0) := (blk_cell BK107.out 4).trans rfl
                  have hcz27_5 : wc.cell? ⟨gb107, 5, none⟩ = some (.string (⟨#[98]⟩ : ByteArray)) := (blk_cell BK107.out 5).trans rfl
                  have hcz27_6 : wc.cell? ⟨gb107, 6, none⟩ = some (.int .i64 0) := (blk_cell BK107.out 6).trans rfl
                  have hcz27_7 : wc.cell? ⟨gb107, 7, none⟩ = some (.int .i64 0) := (blk_cell BK107.out 7).trans rfl
                  have hcz27_8 : wc.cell? ⟨gb107, 8, none⟩ = some (.int .i64 0) := (blk_cell BK107.out 8).trans rfl
                  have hcz27_9 : wc.cell? ⟨gb107, 9, none⟩ = some (.int .i64 0) := (blk_cell BK107.out 9).trans rfl
                  have hcz27_10 : wc.cell? ⟨gb107, 10, none⟩ = some (.string (strOfNums y104)) := (blk_cell BK107.out 10).trans rfl
                  have hfz27_0 := blk_frozen BK107.out 0
                  have hfz27_1 := blk_frozen BK107.out 1
                  have hfz27_2 := blk_frozen BK107.out 2
                  have hfz27_3 := blk_frozen BK107.out 3
                  have hfz27_4 := blk_frozen BK107.out 4
                  have hfz27_5 := blk_frozen BK107.out 5
                  have hfz27_6 := blk_frozen BK107.out 6
                  have hfz27_7 := blk_frozen BK107.out 7
                  have hfz27_8 := blk_frozen BK107.out 8
                  have hfz27_9 := blk_frozen BK107.out 9
                  have hfz27_10 := blk_frozen BK107.out 10
                  go_wp2_with (first | ((with_reducible refine gate_callee (f := 10) rfl ?_); refine goesL_ (some 49) rfl rfl Try.func10 (by kernel_rfl) rfl #[.int .i64 a1, .int .i64 5] rfl (by (try simp only [List.map_toArray, List.map_cons, List.map_nil]); first | done | rfl | (simp only [List.length_drop, List.length_take]; rfl)) ?_; (with_reducible refine (donjonlaw18_within.calls a1 5 t110 _ A23.out).mono ?_); rintro e w' ⟨rfl, ⟨nd, rfl⟩⟩; refine ⟨_, rfl, ?_⟩) | ((with_reducible refine gate_callee (f := 11) rfl ?_); refine goesL_ (some 73) rfl rfl Try.func11 (by kernel_rfl) rfl #[.slice none 0 0, .agg #[.string (⟨#[65]⟩ : ByteArray), .int .i64 0, .int .i64 0, .int .i64 0, .int .i64 0, .string (⟨#[98]⟩ : ByteArray), .int .i64 0, .int .i64 0, .int .i64 0, .int .i64 0, .string (⟨#[]⟩ : ByteArray)]] rfl (by (try simp only [List.map_toArray, List.map_cons, List.map_nil]); first | done | rfl | (simp only [List.length_drop, List.length_take]; rfl)) ?_; (refine (mail_Send.calls kj10 _ _ ([] : List (S44)) (⟨#[65]⟩ : ByteArray) 0 0 0 0 (⟨#[98]⟩ : ByteArray) 0 0 0 0 (⟨#[]⟩ : ByteArray) t111 t112 _ ?side1 ?side2 A25.out).mono ?_); (case side1 => exact Kd.C_nil _ _); (case side2 => exact Nat.le_refl _); rintro e w28 ⟨rfl, hb⟩; refine ⟨_, rfl, ?_⟩; have n0_ := Aside0.mk (blk_below (g := gb107) (o := .cells #[.string (⟨#[65]⟩ : ByteArray), .int .i64 0, .int .i64 0, .int .i64 0, .int .i64 0, .string (⟨#[98]⟩ : ByteArray), .int .i64 0, .int .i64 0, .int .i64 0, .int .i64 0, .string (⟨#[]⟩ : ByteArray)] 28 (0, 0)) (by (with_reducible repeat (first | refine blk_drewN ?_ _ | refine blk_drew ?_ | refine blk_alloc ?_ _)); refine blk_put (cs := #[.string (⟨#[97]⟩ : ByteArray), .int .i64 0, .int .i64 0, .int .i64 0, .int .i64 0, .string (⟨#[98]⟩ : ByteArray), .int .i64 0, .int .i64 0, .int .i64 0, .int .i64 0, .string (⟨#[]⟩ : ByteArray)]) ?_ 0 _ rfl; (with_reducible repeat (first | refine blk_drewN ?_ _ | refine blk_drew ?_ | refine blk_alloc ?_ _)); refine blk_put (cs := #[.string (⟨#[97]⟩ : ByteArray), .int .i64 0, .int .i64 0, .int .i64 0, .int .i64 0, .string (⟨#[98]⟩ : ByteArray), .int .i64 0, .int .i64 0, .int .i64 0, .int .i64 0, .string (strOfNums y104)]) ?_ 10 _ rfl; (with_reducible repeat (first | refine blk_drewN ?_ _ | refine blk_drew ?_ | refine blk_alloc ?_ _)); exact BK107.out) hb); have n1_ := Aside0.mk (below_step (by repeat (first | (with_reducible first | exact HB.out | apply below_alloc | apply pw_below_drewN | apply below_drew1 | refine below_set ?_ GE107.out) | exact HB.out)) hb); clear BK107; clear HB; have BK107 := n0_; have HB := n1_; clear n0_ n1_; (try clear hb); (try clear hb2); (try clear hk); (try clear hi)))
                  go_ret
                  exact ⟨by first | rfl | (simp [errW_none, errW_some] <;> rfl) | (simp [*, errW_none, errW_some] <;> rfl), by repeat (first | (with_reducible first | exact HB.out | apply below_alloc | apply pw_below_drewN | apply below_drew1 | refine below_set ?_ GE107.out) | exact HB.out)⟩
                · rw [if_neg c26] at H
                  have c26b0 : (t111 == 0) = false := beq_eq_false_iff_ne.mpr c26
                  have c26b1 : (t111 != 0) = true := bne_iff_ne.mpr c26
                  obtain rfl := Option.some.inj H
                  have hcz29_0 : wc.cell? ⟨gb107, 0, none⟩ = some (.string (⟨#[97]⟩ : ByteArray)) := (blk_cell BK107.out 0).trans rfl
                  have hcz29_1 : wc.cell? ⟨gb107, 1, none⟩ = some (.int .i64 0) := (blk_cell BK107.out 1).trans rfl
                  have hcz29_2 : wc.cell? ⟨gb107, 2, none⟩ = some (.int .i64 0) := (blk_cell BK107.out 2).trans rfl
                  have hcz29_3 : wc.cell? ⟨gb107, 3, none⟩ = some (.int .i64 0) := (blk_cell BK107.out 3).trans rfl
                  have hcz29_4 : wc.cell? ⟨gb107, 4, none⟩ = some (.int .i64 0) := (blk_cell BK107.out 4).trans rfl
                  have hcz29_5 : wc.cell? ⟨gb107, 5, none⟩ = some (.string (⟨#[98]⟩ : ByteArray)) := (blk_cell BK107.out 5).trans rfl
                  have hcz29_6 : wc.cell? ⟨gb107, 6, none⟩ = some (.int .i64 0) := (blk_cell BK107.out 6).trans rfl
                  have hcz29_7 : wc.cell? ⟨gb107, 7, none⟩ = some (.int .i64 0) := (blk_cell BK107.out 7).trans rfl
                  have hcz29_8 : wc.cell? ⟨gb107, 8, none⟩ = some (.int .i64 0) := (blk_cell BK107.out 8).trans rfl
                  have hcz29_9 : wc.cell? ⟨gb107, 9, none⟩ = some (.int .i64 0) := (blk_cell BK107.out 9).trans rfl
                  have hcz29_10 : wc.cell? ⟨gb107, 10, none⟩ = some (.string (strOfNums y104)) := (blk_cell BK107.out 10).trans rfl
                  have hfz29_0 := blk_frozen BK107.out 0
                  have hfz29_1 := blk_frozen BK107.out 1
                  have hfz29_2 := blk_frozen BK107.out 2
                  have hfz29_3 := blk_frozen BK107.out 3
                  have hfz29_4 := blk_frozen BK107.out 4
                  have hfz29_5 := blk_frozen BK107.out 5
                  have hfz29_6 := blk_frozen BK107.out 6
                  have hfz29_7 := blk_frozen BK107.out 7
                  have hfz29_8 := blk_frozen BK107.out 8
                  have hfz29_9 := blk_frozen BK107.out 9
                  have hfz29_10 := blk_frozen BK107.out 10
                  go_wp2_with (first | ((with_reducible refine gate_callee (f := 10) rfl ?_); refine goesL_ (some 49) rfl rfl Try.func10 (by kernel_rfl) rfl #[.int .i64 a1, .int .i64 5] rfl (by (try simp only [List.map_toArray, List.map_cons, List.map_nil]); first | done | rfl | (simp only [List.length_drop, List.length_take]; rfl)) ?_; (with_reducible refine (donjonlaw18_within.calls a1 5 t110 _ A23.out).mono ?_); rintro e w' ⟨rfl, ⟨nd, rfl⟩⟩; refine ⟨_, rfl, ?_⟩) | ((with_reducible refine gate_callee (f := 11) rfl ?_); refine goesL_ (some 73) rfl rfl Try.func11 (by kernel_rfl) rfl #[.slice none 0 0, .agg #[.string (⟨#[65]⟩ : ByteArray), .int .i64 0, .int .i64 0, .int .i64 0, .int .i64 0, .string (⟨#[98]⟩ : ByteArray), .int .i64 0, .int .i64 0, .int .i64 0, .int .i64 0, .string (⟨#[]⟩ : ByteArray)]] rfl (by (try simp only [List.map_toArray, List.map_cons, List.map_nil]); first | done | rfl | (simp only [List.length_drop, List.length_take]; rfl)) ?_; (refine (mail_Send.calls kj10 _ _ ([] : List (S44)) (⟨#[65]⟩ : ByteArray) 0 0 0 0 (⟨#[98]⟩ : ByteArray) 0 0 0 0 (⟨#[]⟩ : ByteArray) t111 t112 _ ?side1 ?side2 A25.out).mono ?_); (case side1 => exact Kd.C_nil _ _); (case side2 => exact Nat.le_refl _); rintro e w30 ⟨rfl, hb⟩; refine ⟨_, rfl, ?_⟩; have n0_ := Aside0.mk (blk_below (g := gb107) (o := .cells #[.string (⟨#[65]⟩ : ByteArray), .int .i64 0, .int .i64 0, .int .i64 0, .int .i64 0, .string (⟨#[98]⟩ : ByteArray), .int .i64 0, .int .i64 0, .int .i64 0, .int .i64 0, .string (⟨#[]⟩ : ByteArray)] 28 (0, 0)) (by (with_reducible repeat (first | refine blk_drewN ?_ _ | refine blk_drew ?_ | refine blk_alloc ?_ _)); refine blk_put (cs := #[.string (⟨#[97]⟩ : ByteArray), .int .i64 0, .int .i64 0, .int .i64 0, .int .i64 0, .string (⟨#[98]⟩ : ByteArray), .int .i64 0, .int .i64 0, .int .i64 0, .int .i64 0, .string (⟨#[]⟩ : ByteArray)]) ?_ 0 _ rfl; (with_reducible repeat (first | refine blk_drewN ?_ _ | refine blk_drew ?_ | refine blk_alloc ?_ _)); refine blk_put (cs := #[.string (⟨#[97]⟩ : ByteArray), .int .i64 0, .int .i64 0, .int .i64 0, .int .i64 0, .string (⟨#[98]⟩ : ByteArray), .int .i64 0, .int .i64 0, .int .i64 0, .int .i64 0, .string (strOfNums y104)]) ?_ 10 _ rfl; (with_reducible repeat (first | refine blk_drewN ?_ _ | refine blk_drew ?_ | refine blk_alloc ?_ _)); exact BK107.out) hb); have n1_ := Aside0.mk (below_step (by repeat (first | (with_reducible first | exact HB.out | apply below_alloc | apply pw_below_drewN | apply below_drew1 | refine below_set ?_ GE107.out) | exact HB.out)) hb); clear BK107; clear HB; have BK107 := n0_; have HB := n1_; clear n0_ n1_; (try clear hb); (try clear hb2); (try clear hk); (try clear hi)))
                  go_ret
                  exact ⟨by first | rfl | (simp [errW_none, errW_some] <;> rfl) | (simp [*, errW_none, errW_some] <;> rfl), by repeat (first | (with_reducible first | exact HB.out | apply below_alloc | apply pw_below_drewN | apply below_drew1 | refine below_set ?_ GE107.out) | exact HB.out)⟩
              · rw [if_neg c24] at H
                have c24b0 : (t110 == 0) = false := beq_eq_false_iff_ne.mpr c24
                have c24b1 : (t110 != 0) = true := bne_iff_ne.mpr c24
                by_cases c31 : t110 = 1
                · rw [if_pos c31] at H
                  have c31b0 : (t110 == 1) = true := beq_iff_eq.mpr c31
                  have c31b1 : (t110 != 1) = false := bne_eq_false_iff_eq.mpr c31
                  clear c31
                  replace H := Option.bind_eq_some_iff.mp H
                  obtain ⟨⟨t113, t114⟩, A320, H⟩ := H
                  replace H : (if t113 = 0 then (some (t114 == 1)) else (some false)) = some r := H
                  have A32 := Aside0.mk A320
                  clear A320
                  by_cases c33 : t113 = 0
                  · rw [if_pos c33] at H
                    have c33b0 : (t113 == 0) = true := beq_iff_eq.mpr c33
                    have c33b1 : (t113 != 0) = false := bne_eq_false_iff_eq.mpr c33
                    clear c33
                    obtain rfl := Option.some.inj H
                    have hcz34_0 : wc.cell? ⟨gb107, 0, none⟩ = some (.string (⟨#[97]⟩ : ByteArray)) := (blk_cell BK107.out 0).trans rfl
                    have hcz34_1 : wc.cell? ⟨gb107, 1, none⟩ = some (.int .i64 0) := (blk_cell BK107.out 1).trans rfl
                    have hcz34_2 : wc.cell? ⟨gb107, 2, none⟩ = some (.int .i64 0) := (blk_cell BK107.out 2).trans rfl
                    have hcz34_3 : wc.cell? ⟨gb107, 3, none⟩ = some (.int .i64 0) := (blk_cell BK107.out 3).trans rfl
                    have hcz34_4 : wc.cell? ⟨gb107, 4, none⟩ = some (.int .i64 0) := (blk_cell BK107.out 4).trans rfl
                    have hcz34_5 : wc.cell? ⟨gb107, 5, none⟩ = some (.string (⟨#[98]⟩ : ByteArray)) := (blk_cell BK107.out 5).trans rfl
                    have hcz34_6 : wc.cell? ⟨gb107, 6, none⟩ = some (.int .i64 0) := (blk_cell BK107.out 6).trans rfl
                    have hcz34_7 : wc.cell? ⟨gb107, 7, none⟩ = some (.int .i64 0) := (blk_cell BK107.out 7).trans rfl
                    have hcz34_8 : wc.cell? ⟨gb107, 8, none⟩ = some (.int .i64 0) := (blk_cell BK107.out 8).trans rfl
                    have hcz34_9 : wc.cell? ⟨gb107, 9, none⟩ = some (.int .i64 0) := (blk_cell BK107.out 9).trans rfl
                    have hcz34_10 : wc.cell? ⟨gb107, 10, none⟩ = some (.string (strOfNums y104)) := (blk_cell BK107.out 10).trans rfl
                    have hfz34_0 := blk_frozen BK107.out 0
                    have hfz34_1 := blk_frozen BK107.out 1
                    have hfz34_2 := blk_frozen BK107.out 2
                    have hfz34_3 := blk_frozen BK107.out 3
                    have hfz34_4 := blk_frozen BK107.out 4
                    have hfz34_5 := blk_frozen BK107.out 5
                    have hfz34_6 := blk_frozen BK107.out 6
                    have hfz34_7 := blk_frozen BK107.out 7
                    have hfz34_8 := blk_frozen BK107.out 8
                    have hfz34_9 := blk_frozen BK107.out 9
                    have hfz34_10 := blk_frozen BK107.out 10
                    go_wp2_with (first | ((with_reducible refine gate_callee (f := 10) rfl ?_); refine goesL_ (some 49) rfl rfl Try.func10 (by kernel_rfl) rfl #[.int .i64 a1, .int .i64 5] rfl (by (try simp only [List.map_toArray, List.map_cons, List.map_nil]); first | done | rfl | (simp only [List.length_drop, List.length_take]; rfl)) ?_; (with_reducible refine (donjonlaw18_within.calls a1 5 t110 _ A23.out).mono ?_); rintro e w' ⟨rfl, ⟨nd, rfl⟩⟩; refine ⟨_, rfl, ?_⟩) | ((with_reducible refine gate_callee (f := 11) rfl ?_); refine goesL_ (some 73) rfl rfl Try.func11 (by kernel_rfl) rfl #[.slice none 0 0, .agg #[.string (⟨#[97]⟩ : ByteArray), .int .i64 0, .int .i64 0, .int .i64 0, .int .i64 0, .string (⟨#[42]⟩ : ByteArray), .int .i64 0, .int .i64 0, .int .i64 0, .int .i64 0, .string (⟨#[]⟩ : ByteArray)]] rfl (by (try simp only [List.map_toArray, List.map_cons, List.map_nil]); first | done | rfl | (simp only [List.length_drop, List.length_take]; rfl)) ?_; (refine (mail_Send.calls kj10 _ _ ([] : List (S44)) (⟨#[97]⟩ : ByteArray) 0 0 0 0 (⟨#[42]⟩ : ByteArray) 0 0 0 0 (⟨#[]⟩ : ByteArray) t113 t114 _ ?side1 ?side2 A32.out).mono ?_); (case side1 => exact Kd.C_nil _ _); (case side2 => exact Nat.le_refl _); rintro e w35 ⟨rfl, hb⟩; refine ⟨_, rfl, ?_⟩; have n0_ := Aside0.mk (blk_below (g := gb107) (o := .cells #[.string (⟨#[97]⟩ : ByteArray), .int .i64 0, .int .i64 0, .int .i64 0, .int .i64 0, .string (⟨#[42]⟩ : ByteArray), .int .i64 0, .int .i64 0, .int .i64 0, .int .i64 0, .string (⟨#[]⟩ : ByteArray)] 28 (0, 0)) (by (with_reducible repeat (first | refine blk_drewN ?_ _ | refine blk_drew ?_ | refine blk_alloc ?_ _)); refine blk_put (cs := #[.string (⟨#[97]⟩ : ByteArray), .int .i64 0, .int .i64 0, .int .i64 0, .int .i64 0, .string (⟨#[98]⟩ : ByteArray), .int .i64 0, .int .i64 0, .int .i64 0, .int .i64 0, .string (⟨#[]⟩ : ByteArray)]) ?_ 5 _ rfl; (with_reducible repeat (first | refine blk_drewN ?_ _ | refine blk_drew ?_ | refine blk_alloc ?_ _)); refine blk_put (cs := #[.string (⟨#[97]⟩ : ByteArray), .int .i64 0, .int .i64 0, .int .i64 0, .int .i64 0, .string (⟨#[98]⟩ : ByteArray), .int .i64 0, .int .i64 0, .int .i64 0, .int .i64 0, .string (strOfNums y104)]) ?_ 10 _ rfl; (with_reducible repeat (first | refine blk_drewN ?_ _ | refine blk_drew ?_ | refine blk_alloc ?_ _)); exact BK107.out) hb); have n1_ := Aside0.mk (below_step (by repeat (first | (with_reducible first | exact HB.out | apply below_alloc | apply pw_below_drewN | apply below_drew1 | refine below_set ?_ GE107.out) | exact HB.out)) hb); clear BK107; clear HB; have BK107 := n0_; have HB := n1_; clear n0_ n1_; (try clear hb); (try clear hb2); (try clear hk); (try clear hi)))
                    go_ret
                    exact ⟨by first | rfl | (simp [errW_none, errW_some] <;> rfl) | (simp [*, errW_none, errW_some] <;> rfl), by repeat (first | (with_reducible first | exact HB.out | apply below_alloc | apply pw_below_drewN | apply below_drew1 | refine below_set ?_ GE107.out) | exact HB.out)⟩
                  · rw [if_neg c33] at H
                    have c33b0 : (t113 == 0) = false := beq_eq_false_iff_ne.mpr c33
                    have c33b1 : (t113 != 0) = true := bne_iff_ne.mpr c33
                    obtain rfl := Option.some.inj H
                    have hcz36_0 : wc.cell? ⟨gb107, 0, none⟩ = some (.string (⟨#[97]⟩ : ByteArray)) := (blk_cell BK107.out 0).trans rfl
                    have hcz36_1 : wc.cell? ⟨gb107, 1, none⟩ = some (.int .i64 0) := (blk_cell BK107.out 1).trans rfl
                    have hcz36_2 : wc.cell? ⟨gb107, 2, none⟩ = some (.int .i64 0) := (blk_cell BK107.out 2).trans rfl
                    have hcz36_3 : wc.cell? ⟨gb107, 3, none⟩ = some (.int .i64 0) := (blk_cell BK107.out 3).trans rfl
                    have hcz36_4 : wc.cell? ⟨gb107, 4, none⟩ = some (.int .i64 0) := (blk_cell BK107.out 4).trans rfl
                    have hcz36_5 : wc.cell? ⟨gb107, 5, none⟩ = some (.string (⟨#[98]⟩ : ByteArray)) := (blk_cell BK107.out 5).trans rfl
                    have hcz36_6 : wc.cell? ⟨gb107, 6, none⟩ = some (.int .i64 0) := (blk_cell BK107.out 6).trans rfl
                    have hcz36_7 : wc.cell? ⟨gb107, 7, none⟩ = some (.int .i64 0) := (blk_cell BK107.out 7).trans rfl
                    have hcz36_8 : wc.cell? ⟨gb107, 8, none⟩ = some (.int .i64 0) := (blk_cell BK107.out 8).trans rfl
                    have hcz36_9 : wc.cell? ⟨gb107, 9, none⟩ = some (.int .i64 0) := (blk_cell BK107.out 9).trans rfl
                    have hcz36_10 : wc.cell? ⟨gb107, 10, none⟩ = some (.string (strOfNums y104)) := (blk_cell BK107.out 10).trans rfl
                    have hfz36_0 := blk_frozen BK107.out 0
                    have hfz36_1 := blk_frozen BK107.out 1
                    have hfz36_2 := blk_frozen BK107.out 2
                    have hfz36_3 := blk_frozen BK107.out 3
                    have hfz36_4 := blk_frozen BK107.out 4
                    have hfz36_5 := blk_frozen BK107.out 5
                    have hfz36_6 := blk_frozen BK107.out 6
                    have hfz36_7 := blk_frozen BK107.out 7
                    have hfz36_8 := blk_frozen BK107.out 8
                    have hfz36_9 := blk_frozen BK107.out 9
                    have hfz36_10 := blk_frozen BK107.out 10
                    go_wp2_with (first | ((with_reducible refine gate_callee (f := 10) rfl ?_); refine goesL_ (some 49) rfl rfl Try.func10 (by kernel_rfl) rfl #[.int .i64 a1, .int .i64 5] rfl (by (try simp only [List.map_toArray, List.map_cons, List.map_nil]); first | done | rfl | (simp only [List.length_drop, List.length_take]; rfl)) ?_; (with_reducible refine (donjonlaw18_within.calls a1 5 t110 _ A23.out).mono ?_); rintro e w' ⟨rfl, ⟨nd, rfl⟩⟩; refine ⟨_, rfl, ?_⟩) | ((with_reducible refine gate_callee (f := 11) rfl ?_); refine goesL_ (some 73) rfl rfl Try.func11 (by kernel_rfl) rfl #[.slice none 0 0, .agg #[.string (⟨#[97]⟩ : ByteArray), .int .i64 0, .int .i64 0, .int .i64 0, .int .i64 0, .string (⟨#[42]⟩ : ByteArray), .int .i64 0, .int .i64 0, .int .i64 0, .int .i64 0, .string (⟨#[]⟩ : ByteArray)]] rfl (by (try simp only [List.map_toArray, List.map_cons, List.map_nil]); first | done | rfl | (simp only [List.length_drop, List.length_take]; rfl)) ?_; (refine (mail_Send.calls kj10 _ _ ([] : List (S44)) (⟨#[97]⟩ : ByteArray) 0 0 0 0 (⟨#[42]⟩ : ByteArray) 0 0 0 0 (⟨#[]⟩ : ByteArray) t113 t114 _ ?side1 ?side2 A32.out).mono ?_); (case side1 => exact Kd.C_nil _ _); (case side2 => exact Nat.le_refl _); rintro e w37 ⟨rfl, hb⟩; refine ⟨_, rfl, ?_⟩; have n0_ := Aside0.mk (blk_below (g := gb107) (o := .cells #[.string (⟨#[97]⟩ : ByteArray), .int .i64 0, .int .i64 0, .int .i64 0, .int .i64 0, .string (⟨#[42]⟩ : ByteArray), .int .i64 0, .int .i64 0, .int .i64 0, .int .i64 0, .string (⟨#[]⟩ : ByteArray)] 28 (0, 0)) (by (with_reducible repeat (first | refine blk_drewN ?_ _ | refine blk_drew ?_ | refine blk_alloc ?_ _)); refine blk_put (cs := #[.string (⟨#[97]⟩ : ByteArray), .int .i64 0, .int .i64 0, .int .i64 0, .int .i64 0, .string (⟨#[98]⟩ : ByteArray), .int .i64 0, .int .i64 0, .int .i64 0, .int .i64 0, .string (⟨#[]⟩ : ByteArray)]) ?_ 5 _ rfl; (with_reducible repeat (first | refine blk_drewN ?_ _ | refine blk_drew ?_ | refine blk_alloc ?_ _)); refine blk_put (cs := #[.string (⟨#[97]⟩ : ByteArray), .int .i64 0, .int .i64 0, .int .i64 0, .int .i64 0, .string (⟨#[98]⟩ : ByteArray), .int .i64 0, .int .i64 0, .int .i64 0, .int .i64 0, .string (strOfNums y104)]) ?_ 10 _ rfl; (with_reducible repeat (first | refine blk_drewN ?_ _ | refine blk_drew ?_ | refine blk_alloc ?_ _)); exact BK107.out) hb); have n1_ := Aside0.mk (below_step (by repeat (first | (with_reducible first | exact HB.out | apply below_alloc | apply pw_below_drewN | apply below_drew1 | refine below_set ?_ GE107.out) | exact HB.out)) hb); clear BK107; clear HB; have BK107 := n0_; have HB := n1_; clear n0_ n1_; (try clear hb); (try clear hb2); (try clear hk); (try clear hi)))
                    go_ret
                    exact ⟨by first | rfl | (simp [errW_none, errW_some] <;> rfl) | (simp [*, errW_none, errW_some] <;> rfl), by repeat (first | (with_reducible first | exact HB.out | apply below_alloc | apply pw_below_drewN | apply below_drew1 | refine below_set ?_ GE107.out) | exact HB.out)⟩
                · rw [if_neg c31] at H
                  have c31b0 : (t110 == 1) = false := beq_eq_false_iff_ne.mpr c31
                  have c31b1 : (t110 != 1) = true := bne_iff_ne.mpr c31
                  by_cases c38 : t110 = 2
                  · rw [if_pos c38] at H
                    have c38b0 : (t110 == 2) = true := beq_iff_eq.mpr c38
                    have c38b1 : (t110 != 2) = false := bne_eq_false_iff_eq.mpr c38
                    clear c38
                    replace H := Option.bind_eq_some_iff.mp H
                    obtain ⟨⟨t115, t116⟩, A390, H⟩ := H
                    replace H : (if t115 = 0 then (some (t116 == 1)) else (some false)) = some r := H
                    have A39 := Aside0.mk A390
                    clear A390
                    by_cases c40 : t115 = 0
                    · rw [if_pos c40] at H
                      have c40b0 : (t115 == 0) = true := beq_iff_eq.mpr c40
                      have c40b1 : (t115 != 0) = false := bne_eq_false_iff_eq.mpr c40
                      clear c40
                      obtain rfl := Option.some.inj H
                      have hcz41_0 : wc.cell? ⟨gb107, 0, none⟩ = some (.string (⟨#[97]⟩ : ByteArray)) := (blk_cell BK107.out 0).trans rfl
                      have hcz41_1 : wc.cell? ⟨gb107, 1, none⟩ = some (.int .i64 0) := (blk_cell BK107.out 1).trans rfl
                      have hcz41_2 : wc.cell? ⟨gb107, 2, none⟩ = some (.int .i64 0) := (blk_cell BK107.out 2).trans rfl
                      have hcz41_3 : wc.cell? ⟨gb107, 3, none⟩ = some (.int .i64 0) := (blk_cell BK107.out 3).trans rfl
                      have hcz41_4 : wc.cell? ⟨gb107, 4, none⟩ = some (.int .i64 0) := (blk_cell BK107.out 4).trans rfl
                      have hcz41_5 : wc.cell? ⟨gb107, 5, none⟩ = some (.string (⟨#[98]⟩ : ByteArray)) := (blk_cell BK107.out 5).trans rfl
                      have hcz41_6 : wc.cell? ⟨gb107, 6, none⟩ = some (.int .i64 0) := (blk_cell BK107.out 6).trans rfl
                      have hcz41_7 : wc.cell? ⟨gb107, 7, none⟩ = some (.int .i64 0) := (blk_cell BK107.out 7).trans rfl
                      have hcz41_8 : wc.cell? ⟨gb107, 8, none⟩ = some (.int .i64 0) := (blk_cell BK107.out 8).trans rfl
                      have hcz41_9 : wc.cell? ⟨gb107, 9, none⟩ = some (.int .i64 0) := (blk_cell BK107.out 9).trans rfl
                      have hcz41_10 : wc.cell? ⟨gb107, 10, none⟩ = some (.string (strOfNums y104)) := (blk_cell BK107.out 10).trans rfl
                      have hfz41_0 := blk_frozen BK107.out 0
                      have hfz41_1 := blk_frozen BK107.out 1
                      have hfz41_2 := blk_frozen BK107.out 2
                      have hfz41_3 := blk_frozen BK107.out 3
                      have hfz41_4 := blk_frozen BK107.out 4
                      have hfz41_5 := blk_frozen BK107.out 5
                      have hfz41_6 := blk_frozen BK107.out 6
                      have hfz41_7 := blk_frozen BK107.out 7
                      have hfz41_8 := blk_frozen BK107.out 8
                      have hfz41_9 := blk_frozen BK107.out 9
                      have hfz41_10 := blk_frozen BK107.out 10
                      go_wp2_with (first | ((with_reducible refine gate_callee (f := 10) rfl ?_); refine goesL_ (some 49) rfl rfl Try.func10 (by kernel_rfl) rfl #[.int .i64 a1, .int .i64 5] rfl (by (try simp only [List.map_toArray, List.map_cons, List.map_nil]); first | done | rfl | (simp only [List.length_drop, List.length_take]; rfl)) ?_; (with_reducible refine (donjonlaw18_within.calls a1 5 t110 _ A23.out).mono ?_); rintro e w' ⟨rfl, ⟨nd, rfl⟩⟩; refine ⟨_, rfl, ?_⟩) | ((with_reducible refine gate_callee (f := 11) rfl ?_); refine goesL_ (some 73) rfl rfl Try.func11 (by kernel_rfl) rfl #[.slice none 0 0, .agg #[.string (⟨#[97]⟩ : ByteArray), .int .i64 (wrap64 (3 + (wrap64 (1 + t103)))), .int .i64 0, .int .i64 0, .int .i64 0, .string (⟨#[98]⟩ : ByteArray), .int .i64 0, .int .i64 0, .int .i64 0, .int .i64 0, .string (⟨#[]⟩ : ByteArray)]] rfl (by (try simp only [List.map_toArray, List.map_cons, List.map_nil]); first | done | rfl | (simp only [List.length_drop, List.length_take]; rfl)) ?_; (refine (mail_Send.calls kj10 _ _ ([] : List (S44)) (⟨#[97]⟩ : ByteArray) (wrap64 (3 + (wrap64 (1 + t103)))) 0 0 0 (⟨#[98]⟩ : ByteArray) 0 0 0 0 (⟨#[]⟩ : ByteArray) t115 t116 _ ?side1 ?side2 A39.out).mono ?_); (case side1 => exact Kd.C_nil _ _); (case side2 => exact Nat.le_refl _); rintro e w42 ⟨rfl, hb⟩; refine ⟨_, rfl, ?_⟩; have n0_ := Aside0.mk (blk_below (g := gb107) (o := .cells #[.string (⟨#[97]⟩ : ByteArray), .int .i64 (wrap64 (3 + (wrap64 (1 + t103)))), .int .i64 0, .int .i64 0, .int .i64 0, .string (⟨#[98]⟩ : ByteArray), .int .i64 0, .int .i64 0, .int .i64 0, .int .i64 0, .string (⟨#[]⟩ : ByteArray)] 28 (0, 0)) (by (with_reducible repeat (first | refine blk_drewN ?_ _ | refine blk_drew ?_ | refine blk_alloc ?_ _)); refine blk_put (cs := #[.string (⟨#[97]⟩ : ByteArray), .int .i64 0, .int .i64 0, .int .i64 0, .int .i64 0, .string (⟨#[98]⟩ : ByteArray), .int .i64 0, .int .i64 0, .int .i64 0, .int .i64 0, .string (⟨#[]⟩ : ByteArray)]) ?_ 1 _ rfl; (with_reducible repeat (first | refine blk_drewN ?_ _ | refine blk_drew ?_ | refine blk_alloc ?_ _)); refine blk_put (cs := #[.string (⟨#[97]⟩ : ByteArray), .int .i64 0, .int .i64 0, .int .i64 0, .int .i64 0, .string (⟨#[98]⟩ : ByteArray), .int .i64 0, .int .i64 0, .int .i64 0, .int .i64 0, .string (strOfNums y104)]) ?_ 10 _ rfl; (with_reducible repeat (first | refine blk_drewN ?_ _ | refine blk_drew ?_ | refine blk_alloc ?_ _)); exact BK107.out) hb); have n1_ := Aside0.mk (below_step (by repeat (first | (with_reducible first | exact HB.out | apply below_alloc | apply pw_below_drewN | apply below_drew1 | refine below_set ?_ GE107.out) | exact HB.out)) hb); clear BK107; clear HB; have BK107 := n0_; have HB := n1_; clear n0_ n1_; (try clear hb); (try clear hb2); (try clear hk); (try clear hi)))
                      go_ret
                      exact ⟨by first | rfl | (simp [errW_none, errW_some] <;> rfl) | (simp [*, errW_none, errW_some] <;> rfl), by repeat (first | (with_reducible first | exact HB.out | apply below_alloc | apply pw_below_drewN | apply below_drew1 | refine below_set ?_ GE107.out) | exact HB.out)⟩
                    · rw [if_neg c40] at H
                      have c40b0 : (t115 == 0) = false := beq_eq_false_iff_ne.mpr c40
                      have c40b1 : (t115 != 0) = true := bne_iff_ne.mpr c40
                      obtain rfl := Option.some.inj H
                      have hcz43_0 : wc.cell? ⟨gb107, 0, none⟩ = some (.string (⟨#[97]⟩ : ByteArray)) := (blk_cell BK107.out 0).trans rfl
                      have hcz43_1 : wc.cell? ⟨gb107, 1, none⟩ = some (.int .i64 0) := (blk_cell BK107.out 1).trans rfl
                      have hcz43_2 : wc.cell? ⟨gb107, 2, none⟩ = some (.int .i64 0) := (blk_cell BK107.out 2).trans rfl
                      have hcz43_3 : wc.cell? ⟨gb107, 3, none⟩ = some (.int .i64 0) := (blk_cell BK107.out 3).trans rfl
                      have hcz43_4 : wc.cell? ⟨gb107, 4, none⟩ = some (.int .i64 0) := (blk_cell BK107.out 4).trans rfl
                      have hcz43_5 : wc.cell? ⟨gb107, 5, none⟩ = some (.string (⟨#[98]⟩ : ByteArray)) := (blk_cell BK107.out 5).trans rfl
                      have hcz43_6 : wc.cell? ⟨gb107, 6, none⟩ = some (.int .i64 0) := (blk_cell BK107.out 6).trans rfl
                      have hcz43_7 : wc.cell? ⟨gb107, 7, none⟩ = some (.int .i64 0) := (blk_cell BK107.out 7).trans rfl
                      have hcz43_8 : wc.cell? ⟨gb107, 8, none⟩ = some (.int .i64 0) := (blk_cell BK107.out 8).trans rfl
                      have hcz43_9 : wc.cell? ⟨gb107, 9, none⟩ = some (.int .i64 0) := (blk_cell BK107.out 9).trans rfl
                      have hcz43_10 : wc.cell? ⟨gb107, 10, none⟩ = some (.string (strOfNums y104)) := (blk_cell BK107.out 10).trans rfl
                      have hfz43_0 := blk_frozen BK107.out 0
                      have hfz43_1 := blk_frozen BK107.out 1
                      have hfz43_2 := blk_frozen BK107.out 2
                      have hfz43_3 := blk_frozen BK107.out 3
                      have hfz43_4 := blk_frozen BK107.out 4
                      have hfz43_5 := blk_frozen BK107.out 5
                      have hfz43_6 := blk_frozen BK107.out 6
                      have hfz43_7 := blk_frozen BK107.out 7
                      have hfz43_8 := blk_frozen BK107.out 8
                      have hfz43_9 := blk_frozen BK107.out 9
                      have hfz43_10 := blk_frozen BK107.out 10
                      go_wp2_with (first | ((with_reducible refine gate_callee (f := 10) rfl ?_); refine goesL_ (some 49) rfl rfl Try.func10 (by kernel_rfl) rfl #[.int .i64 a1, .int .i64 5] rfl (by (try simp only [List.map_toArray, List.map_cons, List.map_nil]); first | done | rfl | (simp only [List.length_drop, List.length_take]; rfl)) ?_; (with_reducible refine (donjonlaw18_within.calls a1 5 t110 _ A23.out).mono ?_); rintro e w' ⟨rfl, ⟨nd, rfl⟩⟩; refine ⟨_, rfl, ?_⟩) | ((with_reducible refine gate_callee (f := 11) rfl ?_); refine goesL_ (some 73) rfl rfl Try.func11 (by kernel_rfl) rfl #[.slice none 0 0, .agg #[.string (⟨#[97]⟩ : ByteArray), .int .i64 (wrap64 (3 + (wrap64 (1 + t103)))), .int .i64 0, .int .i64 0, .int .i64 0, .string (⟨#[98]⟩ : ByteArray), .int .i64 0, .int .i64 0, .int .i64 0, .int .i64 0, .string (⟨#[]⟩ : ByteArray)]] rfl (by (try simp only [List.map_toArray, List.map_cons, List.map_nil]); first | done | rfl | (simp only [List.length_drop, List.length_take]; rfl)) ?_; (refine (mail_Send.calls kj10 _ _ ([] : List (S44)) (⟨#[97]⟩ : ByteArray) (wrap64 (3 + (wrap64 (1 + t103)))) 0 0 0 (⟨#[98]⟩ : ByteArray) 0 0 0 0 (⟨#[]⟩ : ByteArray) t115 t116 _ ?side1 ?side2 A39.out).mono ?_); (case side1 => exact Kd.C_nil _ _); (case side2 => exact Nat.le_refl _); rintro e w44 ⟨rfl, hb⟩; refine ⟨_, rfl, ?_⟩; have n0_ := Aside0.mk (blk_below (g := gb107) (o := .cells #[.string (⟨#[97]⟩ : ByteArray), .int .i64 (wrap64 (3 + (wrap64 (1 + t103)))), .int .i64 0, .int .i64 0, .int .i64 0, .string (⟨#[98]⟩ : ByteArray), .int .i64 0, .int .i64 0, .int .i64 0, .int .i64 0, .string (⟨#[]⟩ : ByteArray)] 28 (0, 0)) (by (with_reducible repeat (first | refine blk_drewN ?_ _ | refine blk_drew ?_ | refine blk_alloc ?_ _)); refine blk_put (cs := #[.string (⟨#[97]⟩ : ByteArray), .int .i64 0, .int .i64 0, .int .i64 0, .int .i64 0, .string (⟨#[98]⟩ : ByteArray), .int .i64 0, .int .i64 0, .int .i64 0, .int .i64 0, .string (⟨#[]⟩ : ByteArray)]) ?_ 1 _ rfl; (with_reducible repeat (first | refine blk_drewN ?_ _ | refine blk_drew ?_ | refine blk_alloc ?_ _)); refine blk_put (cs := #[.string (⟨#[97]⟩ : ByteArray), .int .i64 0, .int .i64 0, .int .i64 0, .int .i64 0, .string (⟨#[98]⟩ : ByteArray), .int .i64 0, .int .i64 0, .int .i64 0, .int .i64 0, .string (strOfNums y104)]) ?_ 10 _ rfl; (with_reducible repeat (first | refine blk_drewN ?_ _ | refine blk_drew ?_ | refine blk_alloc ?_ _)); exact BK107.out) hb); have n1_ := Aside0.mk (below_step (by repeat (first | (with_reducible first | exact HB.out | apply below_alloc | apply pw_below_drewN | apply below_drew1 | refine below_set ?_ GE107.out) | exact HB.out)) hb); clear BK107; clear HB; have BK107 := n0_; have HB := n1_; clear n0_ n1_; (try clear hb); (try clear hb2); (try clear hk); (try clear hi)))
                      go_ret
                      exact ⟨by first | rfl | (simp [errW_none, errW_some] <;> rfl) | (simp [*, errW_none, errW_some] <;> rfl), by repeat (first | (with_reducible first | exact HB.out | apply below_alloc | apply pw_below_drewN | apply below_drew1 | refine below_set ?_ GE107.out) | exact HB.out)⟩
                  · rw [if_neg c38] at H
                    have c38b0 : (t110 == 2) = false := beq_eq_false_iff_ne.mpr c38
                    have c38b1 : (t110 != 2) = true := bne_iff_ne.mpr c38
                    by_cases c45 : t110 = 3
                    · rw [if_pos c45] at H
                      have c45b0 : (t110 == 3) = true := beq_iff_eq.mpr c45
                      have c45b1 : (t110 != 3) = false := bne_eq_false_iff_eq.mpr c45
                      clear c45
                      replace H := Option.bind_eq_some_iff.mp H
                      obtain ⟨⟨t117, t118⟩, A460, H⟩ := H
                      replace H : (if t117 = 0 then (some (t118 == 1)) else (some false)) = some r := H
                      have A46 := Aside0.mk A460
                      clear A460
                      by_cases c47 : t117 = 0
                      · rw [if_pos c47] at H
                        have c47b0 : (t117 == 0) = true := beq_iff_eq.mpr c47
                        have c47b1 : (t117 != 0) = false := bne_eq_false_iff_eq.mpr c47
                        clear c47
                        obtain rfl := Option.some.inj H
                        have hcz48_0 : wc.cell? ⟨gb107, 0, none⟩ = some (.string (⟨#[97]⟩ : ByteArray)) := (blk_cell BK107.out 0).trans rfl
                        have hcz48_1 : wc.cell? ⟨gb107, 1, none⟩ = some (.int .i64 0) := (blk_cell BK107.out 1).trans rfl
                        have hcz48_2 : wc.cell? ⟨gb107, 2, none⟩ = some (.int .i64 0) := (blk_cell BK107.out 2).trans rfl
                        have hcz48_3 : wc.cell? ⟨gb107, 3, none⟩ = some (.int .i64 0) := (blk_cell BK107.out 3).trans rfl
                        have hcz48_4 : wc.cell? ⟨gb107, 4, none⟩ = some (.int .i64 0) := (blk_cell BK107.out 4).trans rfl
                        have hcz48_5 : wc.cell? ⟨gb107, 5, none⟩ = some (.string (⟨#[98]⟩ : ByteArray)) := (blk_cell BK107.out 5).trans rfl
                        have hcz48_6 : wc.cell? ⟨gb107, 6, none⟩ = some (.int .i64 0) := (blk_cell BK107.out 6).trans rfl
                        have hcz48_7 : wc.cell? ⟨gb107, 7, none⟩ = some (.int .i64 0) := (blk_cell BK107.out 7).trans rfl
                        have hcz48_8 : wc.cell? ⟨gb107, 8, none⟩ = some (.int .i64 0) := (blk_cell BK107.out 8).trans rfl
                        have hcz48_9 : wc.cell? ⟨gb107, 9, none⟩ = some (.int .i64 0) := (blk_cell BK107.out 9).trans rfl
                        have hcz48_10 : wc.cell? ⟨gb107, 10, none⟩ = some (.string (strOfNums y104)) := (blk_cell BK107.out 10).trans rfl
                        have hfz48_0 := blk_frozen BK107.out 0
                        have hfz48_1 := blk_frozen BK107.out 1
                        have hfz48_2 := blk_frozen BK107.out 2
                        have hfz48_3 := blk_frozen BK107.out 3
                        have hfz48_4 := blk_frozen BK107.out 4
                        have hfz48_5 := blk_frozen BK107.out 5
                        have hfz48_6 := blk_frozen BK107.out 6
                        have hfz48_7 := blk_frozen BK107.out 7
                        have hfz48_8 := blk_frozen BK107.out 8
                        have hfz48_9 := blk_frozen BK107.out 9
                        have hfz48_10 := blk_frozen BK107.out 10
                        go_wp2_with (first | ((with_reducible refine gate_callee (f := 10) rfl ?_); refine goesL_ (some 49) rfl rfl Try.func10 (by kernel_rfl) rfl #[.int .i64 a1, .int .i64 5] rfl (by (try simp only [List.map_toArray, List.map_cons, List.map_nil]); first | done | rfl | (simp only [List.length_drop, List.length_take]; rfl)) ?_; (with_reducible refine (donjonlaw18_within.calls a1 5 t110 _ A23.out).mono ?_); rintro e w' ⟨rfl, ⟨nd, rfl⟩⟩; refine ⟨_, rfl, ?_⟩) | ((with_reducible refine gate_callee (f := 11) rfl ?_); refine goesL_ (some 73) rfl rfl Try.func11 (by kernel_rfl) rfl #[.slice none 0 0, .agg #[.string (⟨#[97]⟩ : ByteArray), .int .i64 0, .int .i64 0, .int .i64 0, .int .i64 0, .string (⟨#[98]⟩ : ByteArray), .int .i64 0, .int .i64 0, .int .i64 0, .int .i64 (wrap64 (255 + (wrap64 (1 + t103)))), .string (⟨#[]⟩ : ByteArray)]] rfl (by (try simp only [List.map_toArray, List.map_cons, List.map_nil]); first | done | rfl | (simp only [List.length_drop, List.length_take]; rfl)) ?_; (refine (mail_Send.calls kj10 _ _ ([] : List (S44)) (⟨#[97]⟩ : ByteArray) 0 0 0 0 (⟨#[98]⟩ : ByteArray) 0 0 0 (wrap64 (255 + (wrap64 (1 + t103)))) (⟨#[]⟩ : ByteArray) t117 t118 _ ?side1 ?side2 A46.out).mono ?_); (case side1 => exact Kd.C_nil _ _); (case side2 => exact Nat.le_refl _); rintro e w49 ⟨rfl, hb⟩; refine ⟨_, rfl, ?_⟩; have n0_ := Aside0.mk (blk_below (g := gb107) (o := .cells #[.string (⟨#[97]⟩ : ByteArray), .int .i64 0, .int .i64 0, .int .i64 0, .int .i64 0, .string (⟨#[98]⟩ : ByteArray), .int .i64 0, .int .i64 0, .int .i64 0, .int .i64 (wrap64 (255 + (wrap64 (1 + t103)))), .string (⟨#[]⟩ : ByteArray)] 28 (0, 0)) (by (with_reducible repeat (first | refine blk_drewN ?_ _ | refine blk_drew ?_ | refine blk_alloc ?_ _)); refine blk_put (cs := #[.string (⟨#[97]⟩ : ByteArray), .int .i64 0, .int .i64 0, .int .i64 0, .int .i64 0, .string (⟨#[98]⟩ : ByteArray), .int .i64 0, .int .i64 0, .int .i64 0, .int .i64 0, .string (⟨#[]⟩ : ByteArray)]) ?_ 9 _ rfl; (with_reducible repeat (first | refine blk_drewN ?_ _ | refine blk_drew ?_ | refine blk_alloc ?_ _)); refine blk_put (cs := #[.string (⟨#[97]⟩ : ByteArray), .int .i64 0, .int .i64 0, .int .i64 0, .int .i64 0, .string (⟨#[98]⟩ : ByteArray), .int .i64 0, .int .i64 0, .int .i64 0, .int .i64 0, .string (strOfNums y104)]) ?_ 10 _ rfl; (with_reducible repeat (first | refine blk_drewN ?_ _ | refine blk_drew ?_ | refine blk_alloc ?_ _)); exact BK107.out) hb); have n1_ := Aside0.mk (below_step (by repeat (first | (with_reducible first | exact HB.out | apply below_alloc | apply pw_below_drewN | apply below_drew1 | refine below_set ?_ GE107.out) | exact HB.out)) hb); clear BK107; clear HB; have BK107 := n0_; have HB := n1_; clear n0_ n1_; (try clear hb); (try clear hb2); (try clear hk); (try clear hi)))
                        go_ret
                        exact ⟨by first | rfl | (simp [errW_none, errW_some] <;> rfl) | (simp [*, errW_none, errW_some] <;> rfl), by repeat (first | (with_reducible first | exact HB.out | apply below_alloc | apply pw_below_drewN | apply below_drew1 | refine below_set ?_ GE107.out) | exact HB.out)⟩
                      · rw [if_neg c47] at H
                        have c47b0 : (t117 == 0) = false := beq_eq_false_iff_ne.mpr c47
                        have c47b1 : (t117 != 0) = true := bne_iff_ne.mpr c47
                        obtain rfl := Option.some.inj H
                        have hcz50_0 : wc.cell? ⟨gb107, 0, none⟩ = some (.string (⟨#[97]⟩ : ByteArray)) := (blk_cell BK107.out 0).trans rfl
                        have hcz50_1 : wc.cell? ⟨gb107, 1, none⟩ = some (.int .i64 0) := (blk_cell BK107.out 1).trans rfl
                        have hcz50_2 : wc.cell? ⟨gb107, 2, none⟩ = some (.int .i64 0) := (blk_cell BK107.out 2).trans rfl
                        have hcz50_3 : wc.cell? ⟨gb107, 3, none⟩ = some (.int .i64 0) := (blk_cell BK107.out 3).trans rfl
                        have hcz50_4 : wc.cell? ⟨gb107, 4, none⟩ = some (.int .i64 0) := (blk_cell BK107.out 4).trans rfl
                        have hcz50_5 : wc.cell? ⟨gb107, 5, none⟩ = some (.string (⟨#[98]⟩ : ByteArray)) := (blk_cell BK107.out 5).trans rfl
                        have hcz50_6 : wc.cell? ⟨gb107, 6, none⟩ = some (.int .i64 0) := (blk_cell BK107.out 6).trans rfl
                        have hcz50_7 : wc.cell? ⟨gb107, 7, none⟩ = some (.int .i64 0) := (blk_cell BK107.out 7).trans rfl
                        have hcz50_8 : wc.cell? ⟨gb107, 8, none⟩ = some (.int .i64 0) := (blk_cell BK107.out 8).trans rfl
                        have hcz50_9 : wc.cell? ⟨gb107, 9, none⟩ = some (.int .i64 0) := (blk_cell BK107.out 9).trans rfl
                        have hcz50_10 : wc.cell? ⟨gb107, 10, none⟩ = some (.string (strOfNums y104)) := (blk_cell BK107.out 10).trans rfl
                        have hfz50_0 := blk_frozen BK107.out 0
                        have hfz50_1 := blk_frozen BK107.out 1
                        have hfz50_2 := blk_frozen BK107.out 2
                        have hfz50_3 := blk_frozen BK107.out 3
                        have hfz50_4 := blk_frozen BK107.out 4
                        have hfz50_5 := blk_frozen BK107.out 5
                        have hfz50_6 := blk_frozen BK107.out 6
                        have hfz50_7 := blk_frozen BK107.out 7
                        have hfz50_8 := blk_frozen BK107.out 8
                        have hfz50_9 := blk_frozen BK107.out 9
                        have hfz50_10 := blk_frozen BK107.out 10
                        go_wp2_with (first | ((with_reducible refine gate_callee (f := 10) rfl ?_); refine goesL_ (some 49) rfl rfl Try.func10 (by kernel_rfl) rfl #[.int .i64 a1, .int .i64 5] rfl (by (try simp only [List.map_toArray, List.map_cons, List.map_nil]); first | done | rfl | (simp only [List.length_drop, List.length_take]; rfl)) ?_; (with_reducible refine (donjonlaw18_within.calls a1 5 t110 _ A23.out).mono ?_); rintro e w' ⟨rfl, ⟨nd, rfl⟩⟩; refine ⟨_, rfl, ?_⟩) | ((with_reducible refine gate_callee (f := 11) rfl ?_); refine goesL_ (some 73) rfl rfl Try.func11 (by kernel_rfl) rfl #[.slice none 0 0, .agg #[.string (⟨#[97]⟩ : ByteArray), .int .i64 0, .int .i64 0, .int .i64 0, .int .i64 0, .string (⟨#[98]⟩ : ByteArray), .int .i64 0, .int .i64 0, .int .i64 0, .int .i64 (wrap64 (255 + (wrap64 (1 + t103)))), .string (⟨#[]⟩ : ByteArray)]] rfl (by (try simp only [List.map_toArray, List.map_cons, List.map_nil]); first | done | rfl | (simp only [List.length_drop, List.length_take]; rfl)) ?_; (refine (mail_Send.calls kj10 _ _ ([] : List (S44)) (⟨#[97]⟩ : ByteArray) 0 0 0 0 (⟨#[98]⟩ : ByteArray) 0 0 0 (wrap64 (255 + (wrap64 (1 + t103)))) (⟨#[]⟩ : ByteArray) t117 t118 _ ?side1 ?side2 A46.out).mono ?_); (case side1 => exact Kd.C_nil _ _); (case side2 => exact Nat.le_refl _); rintro e w51 ⟨rfl, hb⟩; refine ⟨_, rfl, ?_⟩; have n0_ := Aside0.mk (blk_below (g := gb107) (o := .cells #[.string (⟨#[97]⟩ : ByteArray), .int .i64 0, .int .i64 0, .int .i64 0, .int .i64 0, .string (⟨#[98]⟩ : ByteArray), .int .i64 0, .int .i64 0, .int .i64 0, .int .i64 (wrap64 (255 + (wrap64 (1 + t103)))), .string (⟨#[]⟩ : ByteArray)] 28 (0, 0)) (by (with_reducible repeat (first | refine blk_drewN ?_ _ | refine blk_drew ?_ | refine blk_alloc ?_ _)); refine blk_put (cs := #[.string (⟨#[97]⟩ : ByteArray), .int .i64 0, .int .i64 0, .int .i64 0, .int .i64 0, .string (⟨#[98]⟩ : ByteArray), .int .i64 0, .int .i64 0, .int .i64 0, .int .i64 0, .string (⟨#[]⟩ : ByteArray)]) ?_ 9 _ rfl; (with_reducible repeat (first | refine blk_drewN ?_ _ | refine blk_drew ?_ | refine blk_alloc ?_ _)); refine blk_put (cs := #[.string (⟨#[97]⟩ : ByteArray), .int .i64 0, .int .i64 0, .int .i64 0, .int .i64 0, .string (⟨#[98]⟩ : ByteArray), .int .i64 0, .int .i64 0, .int .i64 0, .int .i64 0, .string (strOfNums y104)]) ?_ 10 _ rfl; (with_reducible repeat (first | refine blk_drewN ?_ _ | refine blk_drew ?_ | refine blk_alloc ?_ _)); exact BK107.out) hb); have n1_ := Aside0.mk (below_step (by repeat (first | (with_reducible first | exact HB.out | apply below_alloc | apply pw_below_drewN | apply below_drew1 | refine below_set ?_ GE107.out) | exact HB.out)) hb); clear BK107; clear HB; have BK107 := n0_; have HB := n1_; clear n0_ n1_; (try clear hb); (try clear hb2); (try clear hk); (try clear hi)))
                        go_ret
                        exact ⟨by first | rfl | (simp [errW_none, errW_some] <;> rfl) | (simp [*, errW_none, errW_some] <;> rfl), by repeat (first | (with_reducible first | exact HB.out | apply below_alloc | apply pw_below_drewN | apply below_drew1 | refine below_set ?_ GE107.out) | exact HB.out)⟩
                    · rw [if_neg c45] at H
                      have c45b0 : (t110 == 3) = false := beq_eq_false_iff_ne.mpr c45
                      have c45b1 : (t110 != 3) = true := bne_iff_ne.mpr c45
                      by_cases c52 : t110 = 4
                      · rw [if_pos c52] at H
                        have c52b0 : (t110 == 4) = true := beq_iff_eq.mpr c52
                        have c52b1 : (t110 != 4) = false := bne_eq_false_iff_eq.mpr c52
                        clear c52
                        replace H := Option.bind_eq_some_iff.mp H
                        obtain ⟨⟨t119, t120⟩, A530, H⟩ := H
                        replace H : (if t119 = 0 then (some (t120 == 1)) else (some false)) = some r := H
                        have A53 := Aside0.mk A530
                        clear A530
                        by_cases c54 : t119 = 0
                        · rw [if_pos c54] at H
                          have c54b0 : (t119 == 0) = true := beq_iff_eq.mpr c54
                          have c54b1 : (t119 != 0) = false := bne_eq_false_iff_eq.mpr c54
                          clear c54
                          obtain rfl := Option.some.inj H
                          have hcz55_0 : wc.cell? ⟨gb107, 0, none⟩ = some (.string (⟨#[97]⟩ : ByteArray)) := (blk_cell BK107.out 0).trans rfl
                          have hcz55_1 : wc.cell? ⟨gb107, 1, none⟩ = some (.int .i64 0) := (blk_cell BK107.out 1).trans rfl
                          have hcz55_2 : wc.cell? ⟨gb107, 2, none⟩ = some (.int .i64 0) := (blk_cell BK107.out 2).trans rfl
                          have hcz55_3 : wc.cell? ⟨gb107, 3, none⟩ = some (.int .i64 0) := (blk_cell BK107.out 3).trans rfl
                          have hcz55_4 : wc.cell? ⟨gb107, 4, none⟩ = some (.int .i64 0) := (blk_cell BK107.out 4).trans rfl
                          have hcz55_5 : wc.cell? ⟨gb107, 5, none⟩ = some (.string (⟨#[98]⟩ : ByteArray)) := (blk_cell BK107.out 5).trans rfl
                          have hcz55_6 : wc.cell? ⟨gb107, 6, none⟩ = some (.int .i64 0) := (blk_cell BK107.out 6).trans rfl
                          have hcz55_7 : wc.cell? ⟨gb107, 7, none⟩ = some (.int .i64 0) := (blk_cell BK107.out 7).trans rfl
                          have hcz55_8 : wc.cell? ⟨gb107, 8, none⟩ = some (.int .i64 0) := (blk_cell BK107.out 8).trans rfl
                          have hcz55_9 : wc.cell? ⟨gb107, 9, none⟩ = some (.int .i64 0) := (blk_cell BK107.out 9).trans rfl
                          have hcz55_10 : wc.cell? ⟨gb107, 10, none⟩ = some (.string (strOfNums y104)) := (blk_cell BK107.out 10).trans rfl
                          have hfz55_0 := blk_frozen BK107.out 0
                          have hfz55_1 := blk_frozen BK107.out 1
                          have hfz55_2 := blk_frozen BK107.out 2
                          have hfz55_3 := blk_frozen BK107.out 3
                          have hfz55_4 := blk_frozen BK107.out 4
                          have hfz55_5 := blk_frozen BK107.out 5
                          have hfz55_6 := blk_frozen BK107.out 6
                          have hfz55_7 := blk_frozen BK107.out 7
                          have hfz55_8 := blk_frozen BK107.out 8
                          have hfz55_9 := blk_frozen BK107.out 9
                          have hfz55_10 := blk_frozen BK107.out 10
                          go_wp2_with (first | ((with_reducible refine gate_callee (f := 10) rfl ?_); refine goesL_ (some 49) rfl rfl Try.func10 (by kernel_rfl) rfl #[.int .i64 a1, .int .i64 5] rfl (by (try simp only [List.map_toArray, List.map_cons, List.map_nil]); first | done | rfl | (simp only [List.length_drop, List.length_take]; rfl)) ?_; (with_reducible refine (donjonlaw18_within.calls a1 5 t110 _ A23.out).mono ?_); rintro e w' ⟨rfl, ⟨nd, rfl⟩⟩; refine ⟨_, rfl, ?_⟩) | ((with_reducible refine gate_callee (f := 11) rfl ?_); refine goesL_ (some 73) rfl rfl Try.func11 (by kernel_rfl) rfl #[.slice none 0 0, .agg #[.string (⟨#[97]⟩ : ByteArray), .int .i64 0, .int .i64 0, .int .i64 0, .int .i64 0, .string (⟨#[97, 98, 99, 100, 101, 102, 103, 104, 105, 106, 107, 108, 109]⟩ : ByteArray), .int .i64 0, .int .i64 0, .int .i64 0, .int .i64 0, .string (⟨#[]⟩ : ByteArray)]] rfl (by (try simp only [List.map_toArray, List.map_cons, List.map_nil]); first | done | rfl | (simp only [List.length_drop, List.length_take]; rfl)) ?_; (refine (mail_Send.calls kj10 _ _ ([] : List (S44)) (⟨#[97]⟩ : ByteArray) 0 0 0 0 (⟨#[97, 98, 99, 100, 101, 102, 103, 104, 105, 106, 107, 108, 109]⟩ : ByteArray) 0 0 0 0 (⟨#[]⟩ : ByteArray) t119 t120 _ ?side1 ?side2 A53.out).mono ?_); (case side1 => exact Kd.C_nil _ _); (case side2 => exact Nat.le_refl _); rintro e w56 ⟨rfl, hb⟩; refine ⟨_, rfl, ?_⟩; have n0_ := Aside0.mk (blk_below (g := gb107) (o := .cells #[.string (⟨#[97]⟩ : ByteArray), .int .i64 0, .int .i64 0, .int .i64 0, .int .i64 0, .string (⟨#[97, 98, 99, 100, 101, 102, 103, 104, 105, 106, 107, 108, 109]⟩ : ByteArray), .int .i64 0, .int .i64 0, .int .i64 0, .int .i64 0, .string (⟨#[]⟩ : ByteArray)] 28 (0, 0)) (by (with_reducible repeat (first | refine blk_drewN ?_ _ | refine blk_drew ?_ | refine blk_alloc ?_ _)); refine blk_put (cs := #[.string (⟨#[97]⟩ : ByteArray), .int .i64 0, .int .i64 0, .int .i64 0, .int .i64 0, .string (⟨#[98]⟩ : ByteArray), .int .i64 0, .int .i64 0, .int .i64 0, .int .i64 0, .string (⟨#[]⟩ : ByteArray)]) ?_ 5 _ rfl; (with_reducible repeat (first | refine blk_drewN ?_ _ | refine blk_drew ?_ | refine blk_alloc ?_ _)); refine blk_put (cs := #[.string (⟨#[97]⟩ : ByteArray), .int .i64 0, .int .i64 0, .int .i64 0, .int .i64 0, .string (⟨#[98]⟩ : ByteArray), .int .i64 0, .int .i64 0, .int .i64 0, .int .i64 0, .string (strOfNums y104)]) ?_ 10 _ rfl; (with_reducible repeat (first | refine blk_drewN ?_ _ | refine blk_drew ?_ | refine blk_alloc ?_ _)); exact BK107.out) hb); have n1_ := Aside0.mk (below_step (by repeat (first | (with_reducible first | exact HB.out | apply below_alloc | apply pw_below_drewN | apply below_drew1 | refine below_set ?_ GE107.out) | exact HB.out)) hb); clear BK107; clear HB; have BK107 := n0_; have HB := n1_; clear n0_ n1_; (try clear hb); (try clear hb2); (try clear hk); (try clear hi)))
                          go_ret
                          exact ⟨by first | rfl | (simp [errW_none, errW_some] <;> rfl) | (simp [*, errW_none, errW_some] <;> rfl), by repeat (first | (with_reducible first | exact HB.out | apply below_alloc | apply pw_below_drewN | apply below_drew1 | refine below_set ?_ GE107.out) | exact HB.out)⟩
                        · rw [if_neg c54] at H
                          have c54b0 : (t119 == 0) = false := beq_eq_false_iff_ne.mpr c54
                          have c54b1 : (t119 != 0) = true := bne_iff_ne.mpr c54
                          obtain rfl := Option.some.inj H
                          have hcz57_0 : wc.cell? ⟨gb107, 0, none⟩ = some (.string (⟨#[97]⟩ : ByteArray)) := (blk_cell BK107.out 0).trans rfl
                          have hcz57_1 : wc.cell? ⟨gb107, 1, none⟩ = some (.int .i64 0) := (blk_cell BK107.out 1).trans rfl
                          have hcz57_2 : wc.cell? ⟨gb107, 2, none⟩ = some (.int .i64 0) := (blk_cell BK107.out 2).trans rfl
                          have hcz57_3 : wc.cell? ⟨gb107, 3, none⟩ = some (.int .i64 0) := (blk_cell BK107.out 3).trans rfl
                          have hcz57_4 : wc.cell? ⟨gb107, 4, none⟩ = some (.int .i64 0) := (blk_cell BK107.out 4).trans rfl
                          have hcz57_5 : wc.cell? ⟨gb107, 5, none⟩ = some (.string (⟨#[98]⟩ : ByteArray)) := (blk_cell BK107.out 5).trans rfl
                          have hcz57_6 : wc.cell? ⟨gb107, 6, none⟩ = some (.int .i64 0) := (blk_cell BK107.out 6).trans rfl
                          have hcz57_7 : wc.cell? ⟨gb107, 7, none⟩ = some (.int .i64 0) := (blk_cell BK107.out 7).trans rfl
                          have hcz57_8 : wc.cell? ⟨gb107, 8, none⟩ = some (.int .i64 0) := (blk_cell BK107.out 8).trans rfl
                          have hcz57_9 : wc.cell? ⟨gb107, 9, none⟩ = some (.int .i64 0) := (blk_cell BK107.out 9).trans rfl
                          have hcz57_10 : wc.cell? ⟨gb107, 10, none⟩ = some (.string (strOfNums y104)) := (blk_cell BK107.out 10).trans rfl
                          have hfz57_0 := blk_frozen BK107.out 0
                          have hfz57_1 := blk_frozen BK107.out 1
                          have hfz57_2 := blk_frozen BK107.out 2
                          have hfz57_3 := blk_frozen BK107.out 3
                          have hfz57_4 := blk_frozen BK107.out 4
                          have hfz57_5 := blk_frozen BK107.out 5
                          have hfz57_6 := blk_frozen BK107.out 6
                          have hfz57_7 := blk_frozen BK107.out 7
                          have hfz57_8 := blk_frozen BK107.out 8
                          have hfz57_9 := blk_frozen BK107.out 9
                          have hfz57_10 := blk_frozen BK107.out 10
                          go_wp2_with (first | ((with_reducible refine gate_callee (f := 10) rfl ?_); refine goesL_ (some 49) rfl rfl Try.func10 (by kernel_rfl) rfl #[.int .i64 a1, .int .i64 5] rfl (by (try simp only [List.map_toArray, List.map_cons, List.map_nil]); first | done | rfl | (simp only [List.length_drop, List.length_take]; rfl)) ?_; (with_reducible refine (donjonlaw18_within.calls a1 5 t110 _ A23.out).mono ?_); rintro e w' ⟨rfl, ⟨nd, rfl⟩⟩; refine ⟨_, rfl, ?_⟩) | ((with_reducible refine gate_callee (f := 11) rfl ?_); refine goesL_ (some 73) rfl rfl Try.func11 (by kernel_rfl) rfl #[.slice none 0 0, .agg #[.string (⟨#[97]⟩ : ByteArray), .int .i64 0, .int .i64 0, .int .i64 0, .int .i64 0, .string (⟨#[97, 98, 99, 100, 101, 102, 103, 104, 105, 106, 107, 108, 109]⟩ : ByteArray), .int .i64 0, .int .i64 0, .int .i64 0, .int .i64 0, .string (⟨#[]⟩ : ByteArray)]] rfl (by (try simp only [List.map_toArray, List.map_cons, List.map_nil]); first | done | rfl | (simp only [List.length_drop, List.length_take]; rfl)) ?_; (refine (mail_Send.calls kj10 _ _ ([] : List (S44)) (⟨#[97]⟩ : ByteArray) 0 0 0 0 (⟨#[97, 98, 99, 100, 101, 102, 103, 104, 105, 106, 107, 108, 109]⟩ : ByteArray) 0 0 0 0 (⟨#[]⟩ : ByteArray) t119 t120 _ ?side1 ?side2 A53.out).mono ?_); (case side1 => exact Kd.C_nil _ _); (case side2 => exact Nat.le_refl _); rintro e w58 ⟨rfl, hb⟩; refine ⟨_, rfl, ?_⟩; have n0_ := Aside0.mk (blk_below (g := gb107) (o := .cells #[.string (⟨#[97]⟩ : ByteArray), .int .i64 0, .int .i64 0, .int .i64 0, .int .i64 0, .string (⟨#[97, 98, 99, 100, 101, 102, 103, 104, 105, 106, 107, 108, 109]⟩ : ByteArray), .int .i64 0, .int .i64 0, .int .i64 0, .int .i64 0, .string (⟨#[]⟩ : ByteArray)] 28 (0, 0)) (by (with_reducible repeat (first | refine blk_drewN ?_ _ | refine blk_drew ?_ | refine blk_alloc ?_ _)); refine blk_put (cs := #[.string (⟨#[97]⟩ : ByteArray), .int .i64 0, .int .i64 0, .int .i64 0, .int .i64 0, .string (⟨#[98]⟩ : ByteArray), .int .i64 0, .int .i64 0, .int .i64 0, .int .i64 0, .string (⟨#[]⟩ : ByteArray)]) ?_ 5 _ rfl; (with_reducible repeat (first | refine blk_drewN ?_ _ | refine blk_drew ?_ | refine blk_alloc ?_ _)); refine blk_put (cs := #[.string (⟨#[97]⟩ : ByteArray), .int .i64 0, .int .i64 0, .int .i64 0, .int .i64 0, .string (⟨#[98]⟩ : ByteArray), .int .i64 0, .int .i64 0, .int .i64 0, .int .i64 0, .string (strOfNums y104)]) ?_ 10 _ rfl; (with_reducible repeat (first | refine blk_drewN ?_ _ | refine blk_drew ?_ | refine blk_alloc ?_ _)); exact BK107.out) hb); have n1_ := Aside0.mk (below_step (by repeat (first | (with_reducible first | exact HB.out | apply below_alloc | apply pw_below_drewN | apply below_drew1 | refine below_set ?_ GE107.out) | exact HB.out)) hb); clear BK107; clear HB; have BK107 := n0_; have HB := n1_; clear n0_ n1_; (try clear hb); (try clear hb2); (try clear hk); (try clear hi)))
                          go_ret
                          exact ⟨by first | rfl | (simp [errW_none, errW_some] <;> rfl) | (simp [*, errW_none, errW_some] <;> rfl), by repeat (first | (with_reducible first | exact HB.out | apply below_alloc | apply pw_below_drewN | apply below_drew1 | refine below_set ?_ GE107.out) | exact HB.out)⟩
                      · rw [if_neg c52] at H
                        have c52b0 : (t110 == 4) = false := beq_eq_false_iff_ne.mpr c52
                        have c52b1 : (t110 != 4) = true := bne_iff_ne.mpr c52
                        replace H := Option.bind_eq_some_iff.mp H
                        obtain ⟨⟨t121, t122⟩, A590, H⟩ := H
                        replace H : (if t121 = 0 then (some (t122 == 1)) else (some false)) = some r := H
                        have A59 := Aside0.mk A590
                        clear A590
                        by_cases c60 : t121 = 0
                        · rw [if_pos c60] at H
                          have c60b0 : (t121 == 0) = true := beq_iff_eq.mpr c60
                          have c60b1 : (t121 != 0) = false := bne_eq_false_iff_eq.mpr c60
                          clear c60
                          obtain rfl := Option.some.inj H
                          have hcz61_0 : wc.cell? ⟨gb107, 0, none⟩ = some (.string (⟨#[97]⟩ : ByteArray)) := (blk_cell BK107.out 0).trans rfl
                          have hcz61_1 : wc.cell? ⟨gb107, 1, none⟩ = some (.int .i64 0) := (blk_cell BK107.out 1).trans rfl
                          have hcz61_2 : wc.cell? ⟨gb107, 2, none⟩ = some (.int .i64 0) := (blk_cell BK107.out 2).trans rfl
                          have hcz61_3 : wc.cell? ⟨gb107, 3, none⟩ = some (.int .i64 0) := (blk_cell BK107.out 3).trans rfl
                          have hcz61_4 : wc.cell? ⟨gb107, 4, none⟩ = some (.int .i64 0) := (blk_cell BK107.out 4).trans rfl
                          have hcz61_5 : wc.cell? ⟨gb107, 5, none⟩ = some (.string (⟨#[98]⟩ : ByteArray)) := (blk_cell BK107.out 5).trans rfl
                          have hcz61_6 : wc.cell? ⟨gb107, 6, none⟩ = some (.int .i64 0) := (blk_cell BK107.out 6).trans rfl
                          have hcz61_7 : wc.cell? ⟨gb107, 7, none⟩ = some (.int .i64 0) := (blk_cell BK107.out 7).trans rfl
                          have hcz61_8 : wc.cell? ⟨gb107, 8, none⟩ = some (.int .i64 0) := (blk_cell BK107.out 8).trans rfl
                          have hcz61_9 : wc.cell? ⟨gb107, 9, none⟩ = some (.int .i64 0) := (blk_cell BK107.out 9).trans rfl
                          have hcz61_10 : wc.cell? ⟨gb107, 10, none⟩ = some (.string (strOfNums y104)) := (blk_cell BK107.out 10).trans rfl
                          have hfz61_0 := blk_frozen BK107.out 0
                          have hfz61_1 := blk_frozen BK107.out 1
                          have hfz61_2 := blk_frozen BK107.out 2
                          have hfz61_3 := blk_frozen BK107.out 3
                          have hfz61_4 := blk_frozen BK107.out 4
                          have hfz61_5 := blk_frozen BK107.out 5
                          have hfz61_6 := blk_frozen BK107.out 6
                          have hfz61_7 := blk_frozen BK107.out 7
                          have hfz61_8 := blk_frozen BK107.out 8
                          have hfz61_9 := blk_frozen BK107.out 9
                          have hfz61_10 := blk_frozen BK107.out 10
                          go_wp2_with (first | ((with_reducible refine gate_callee (f := 10) rfl ?_); refine goesL_ (some 49) rfl rfl Try.func10 (by kernel_rfl) rfl #[.int .i64 a1, .int .i64 5] rfl (by (try simp only [List.map_toArray, List.map_cons, List.map_nil]); first | done | rfl | (simp only [List.length_drop, List.length_take]; rfl)) ?_; (with_reducible refine (donjonlaw18_within.calls a1 5 t110 _ A23.out).mono ?_); rintro e w' ⟨rfl, ⟨nd, rfl⟩⟩; refine ⟨_, rfl, ?_⟩) | ((with_reducible refine gate_callee (f := 11) rfl ?_); refine goesL_ (some 73) rfl rfl Try.func11 (by kernel_rfl) rfl #[.slice none 0 0, .agg #[.string (⟨#[97]⟩ : ByteArray), .int .i64 0, .int .i64 0, .int .i64 0, .int .i64 0, .string (⟨#[98]⟩ : ByteArray), .int .i64 0, .int .i64 0, .int .i64 0, .int .i64 0, .string (⟨#[]⟩ : ByteArray)]] rfl (by (try simp only [List.map_toArray, List.map_cons, List.map_nil]); first | done | rfl | (simp only [List.length_drop, List.length_take]; rfl)) ?_; (refine (mail_Send.calls kj10 _ _ ([] : List (S44)) (⟨#[97]⟩ : ByteArray) 0 0 0 0 (⟨#[98]⟩ : ByteArray) 0 0 0 0 (⟨#[]⟩ : ByteArray) t121 t122 _ ?side1 ?side2 A59.out).mono ?_); (case side1 => exact Kd.C_nil _ _); (case side2 => exact Nat.le_refl _); rintro e w62 ⟨rfl, hb⟩; refine ⟨_, rfl, ?_⟩; have n0_ := Aside0.mk (blk_below (g := gb107) (o := .cells #[.string (⟨#[97]⟩ : ByteArray), .int .i64 0, .int .i64 0, .int .i64 0, .int .i64 0, .string (⟨#[98]⟩ : ByteArray), .int .i64 0, .int .i64 0, .int .i64 0, .int .i64 0, .string (⟨#[]⟩ : ByteArray)] 28 (0, 0)) (by (with_reducible repeat (first | refine blk_drewN ?_ _ | refine blk_drew ?_ | refine blk_alloc ?_ _)); refine blk_put (cs := #[.string (⟨#[97]⟩ : ByteArray), .int .i64 0, .int .i64 0, .int .i64 0, .int .i64 0, .string (⟨#[98]⟩ : ByteArray), .int .i64 0, .int .i64 0, .int .i64 0, .int .i64 0, .string (strOfNums y104)]) ?_ 10 _ rfl; (with_reducible repeat (first | refine blk_drewN ?_ _ | refine blk_drew ?_ | refine blk_alloc ?_ _)); exact BK107.out) hb); have n1_ := Aside0.mk (below_step (by repeat (first | (with_reducible first | exact HB.out | apply below_alloc | apply pw_below_drewN | apply below_drew1 | refine below_set ?_ GE107.out) | exact HB.out)) hb); clear BK107; clear HB; have BK107 := n0_; have HB := n1_; clear n0_ n1_; (try clear hb); (try clear hb2); (try clear hk); (try clear hi)))
                          go_ret
                          exact ⟨by first | rfl | (simp [errW_none, errW_some] <;> rfl) | (simp [*, errW_none, errW_some] <;> rfl), by repeat (first | (with_reducible first | exact HB.out | apply below_alloc | apply pw_below_drewN | apply below_drew1 | refine below_set ?_ GE107.out) | exact HB.out)⟩
                        · rw [if_neg c60] at H
                          have c60b0 : (t121 == 0) = false := beq_eq_false_iff_ne.mpr c60
                          have c60b1 : (t121 != 0) = true := bne_iff_ne.mpr c60
                          obtain rfl := Option.some.inj H
                          have hcz63_0 : wc.cell? ⟨gb107, 0, none⟩ = some (.string (⟨#[97]⟩ : ByteArray)) := (blk_cell BK107.out 0).trans rfl
                          have hcz63_1 : wc.cell? ⟨gb107, 1, none⟩ = some (.int .i64 0) := (blk_cell BK107.out 1).trans rfl
                          have hcz63_2 : wc.cell? ⟨gb107, 2, none⟩ = some (.int .i64 0) := (blk_cell BK107.out 2).trans rfl
                          have hcz63_3 : wc.cell? ⟨gb107, 3, none⟩ = some (.int .i64 0) := (blk_cell BK107.out 3).trans rfl
                          have hcz63_4 : wc.cell? ⟨gb107, 4, none⟩ = some (.int .i64 0) := (blk_cell BK107.out 4).trans rfl
                          have hcz63_5 : wc.cell? ⟨gb107, 5, none⟩ = some (.string (⟨#[98]⟩ : ByteArray)) := (blk_cell BK107.out 5).trans rfl
                          have hcz63_6 : wc.cell? ⟨gb107, 6, none⟩ = some (.int .i64 0) := (blk_cell BK107.out 6).trans rfl
                          have hcz63_7 : wc.cell? ⟨gb107, 7, none⟩ = some (.int .i64 0) := (blk_cell BK107.out 7).trans rfl
                          have hcz63_8 : wc.cell? ⟨gb107, 8, none⟩ = some (.int .i64 0) := (blk_cell BK107.out 8).trans rfl
                          have hcz63_9 : wc.cell? ⟨gb107, 9, none⟩ = some (.int .i64 0) := (blk_cell BK107.out 9).trans rfl
                          have hcz63_10 : wc.cell? ⟨gb107, 10, none⟩ = some (.string (strOfNums y104)) := (blk_cell BK107.out 10).trans rfl
                          have hfz63_0 := blk_frozen BK107.out 0
                          have hfz63_1 := blk_frozen BK107.out 1
                          have hfz63_2 := blk_frozen BK107.out 2
                          have hfz63_3 := blk_frozen BK107.out 3
                          have hfz63_4 := blk_frozen BK107.out 4
                          have hfz63_5 := blk_frozen BK107.out 5
                          have hfz63_6 := blk_frozen BK107.out 6
                          have hfz63_7 := blk_frozen BK107.out 7
                          have hfz63_8 := blk_frozen BK107.out 8
                          have hfz63_9 := blk_frozen BK107.out 9
                          have hfz63_10 := blk_frozen BK107.out 10
                          go_wp2_with (first | ((with_reducible refine gate_callee (f := 10) rfl ?_); refine goesL_ (some 49) rfl rfl Try.func10 (by kernel_rfl) rfl #[.int .i64 a1, .int .i64 5] rfl (by (try simp only [List.map_toArray, List.map_cons, List.map_nil]); first | done | rfl | (simp only [List.length_drop, List.length_take]; rfl)) ?_; (with_reducible refine (donjonlaw18_within.calls a1 5 t110 _ A23.out).mono ?_); rintro e w' ⟨rfl, ⟨nd, rfl⟩⟩; refine ⟨_, rfl, ?_⟩) | ((with_reducible refine gate_callee (f := 11) rfl ?_); refine goesL_ (some 73) rfl rfl Try.func11 (by kernel_rfl) rfl #[.slice none 0 0, .agg #[.string (⟨#[97]⟩ : ByteArray), .int .i64 0, .int .i64 0, .int .i64 0, .int .i64 0, .string (⟨#[98]⟩ : ByteArray), .int .i64 0, .int .i64 0, .int .i64 0, .int .i64 0, .string (⟨#[]⟩ : ByteArray)]] rfl (by (try simp only [List.map_toArray, List.map_cons, List.map_nil]); first | done | rfl | (simp only [List.length_drop, List.length_take]; rfl)) ?_; (refine (mail_Send.calls kj10 _ _ ([] : List (S44)) (⟨#[97]⟩ : ByteArray) 0 0 0 0 (⟨#[98]⟩ : ByteArray) 0 0 0 0 (⟨#[]⟩ : ByteArray) t121 t122 _ ?side1 ?side2 A59.out).mono ?_); (case side1 => exact Kd.C_nil _ _); (case side2 => exact Nat.le_refl _); rintro e w64 ⟨rfl, hb⟩; refine ⟨_, rfl, ?_⟩; have n0_ := Aside0.mk (blk_below (g := gb107) (o := .cells #[.string (⟨#[97]⟩ : ByteArray), .int .i64 0, .int .i64 0, .int .i64 0, .int .i64 0, .string (⟨#[98]⟩ : ByteArray), .int .i64 0, .int .i64 0, .int .i64 0, .int .i64 0, .string (⟨#[]⟩ : ByteArray)] 28 (0, 0)) (by (with_reducible repeat (first | refine blk_drewN ?_ _ | refine blk_drew ?_ | refine blk_alloc ?_ _)); refine blk_put (cs := #[.string (⟨#[97]⟩ : ByteArray), .int .i64 0, .int .i64 0, .int .i64 0, .int .i64 0, .string (⟨#[98]⟩ : ByteArray), .int .i64 0, .int .i64 0, .int .i64 0, .int .i64 0, .string (strOfNums y104)]) ?_ 10 _ rfl; (with_reducible repeat (first | refine blk_drewN ?_ _ | refine blk_drew ?_ | refine blk_alloc ?_ _)); exact BK107.out) hb); have n1_ := Aside0.mk (below_step (by repeat (first | (with_reducible first | exact HB.out | apply below_alloc | apply pw_below_drewN | apply below_drew1 | refine below_set ?_ GE107.out) | exact HB.out)) hb); clear BK107; clear HB; have BK107 := n0_; have HB := n1_; clear n0_ n1_; (try clear hb); (try clear hb2); (try clear hk); (try clear hi)))
                          go_ret
                          exact ⟨by first | rfl | (simp [errW_none, errW_some] <;> rfl) | (simp [*, errW_none, errW_some] <;> rfl), by repeat (first | (with_reducible first | exact HB.out | apply below_alloc | apply pw_below_drewN | apply below_drew1 | refine below_set ?_ GE107.out) | exact HB.out)⟩
      · rw [if_neg c9] at H
        exact absurd H (by simp)
    · rw [if_neg c8] at H
      exact absurd H (by simp)
  · replace c5 := Bool.eq_false_iff.mpr c5
    subst c5
    have H1 : (some false) = some r := by rw [if_neg (show ¬ (false = true) by decide)] at H; exact H
    clear H
    have H := H1
    clear H1
    obtain rfl := Option.some.inj H
    go_enter Try.func3, Try.ntmps3
    go_wp2_with (first | ((with_reducible refine gate_callee (f := 9) rfl ?_); refine goesL_ (some 10) rfl rfl Try.func9 (by kernel_rfl) rfl #[] rfl (by (try simp only [List.map_toArray, List.map_cons, List.map_nil]); first | done | rfl | (simp only [List.length_drop, List.length_take]; rfl)) ?_; (with_reducible refine (donjonlaw18_known.calls k  false _ A4.out).mono ?_); rintro e w65 ⟨rfl, hb⟩; refine ⟨_, rfl, ?_⟩; have n0_ := Aside0.mk (below_step (by repeat (first | (with_reducible first | exact HB.out | apply below_alloc | apply pw_below_drewN | apply below_drew1) | exact HB.out)) hb); clear HB; have HB := n0_; clear n0_; (try clear hb); (try clear hb2); (try clear hk); (try clear hi)))
    go_ret
    exact ⟨by first | rfl | (simp [errW_none, errW_some] <;> rfl) | (simp [*, errW_none, errW_some] <;> rfl), by repeat (first | (with_reducible first | exact HB.out | apply below_alloc | apply pw_below_drewN | apply below_drew1) | exact HB.out)⟩

end Go.Proofs.Ytdbnjjkapelekaa.X
