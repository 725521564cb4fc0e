/- Written by a program of this session over the kit's print: YtdbnjjkapelekaaF7. -/
import Derived.Test.YtdbnjjkapelekaaH
import Derived.Test.YtdbnjjkapelekaaF9
import Derived.Test.YtdbnjjkapelekaaF21
import Derived.Test.YtdbnjjkapelekaaF24
import Derived.Test.YtdbnjjkapelekaaMaxAt
namespace Go.Proofs.Ytdbnjjkapelekaa.X
open Go.RowKit Go.Proofs.YtdbnjjkapelekaaW.PrintWords Go.Proofs.YtdbnjjkapelekaaW.PrintLast Go.Proofs.YtdbnjjkapelekaaW.PrintMore Go.Proofs.Ytdbnjjkapelekaa.More
attribute [local go_sem] max2_int min2_int max_two min_two max_three min_three max_four min_four binOp_string_leq binOp_string_gtr   -- for this text's walks alone
set_option linter.unusedVariables false
set_option linter.unusedSimpArgs false

/-! ### donjonlaw18_MailWords: function 7 -/
mutual
def donjonlaw18_MailWords.j0 : Nat → ByteArray → ByteArray → ByteArray → Bool → Option (Bool)
  | 0, _, _, _, _ => none
  | k + 1, x0, x1, x2, x29 => if x29 = true then (some true) else ((donjonref4_Bottom.f).bind fun bt103 => ((some (([(⟨(⟨2, 0, 1, 0⟩ : S26), (⟨bt103.1, bt103.2.1, bt103.2.2.1, bt103.2.2.2⟩ : S26), x0⟩ : S44)] : List (S44)) : List (S44))).bind fun y107 => (if x1.size + x0.size ≤ 9223372036854775807 then (if (x1 ++ x0).size + x2.size ≤ 9223372036854775807 then ((donjonref4_Bottom.f).bind fun bt111 => ((mail_Release.f k y107 (⟨#[97]⟩ : ByteArray) 2 0 1 0 (⟨#[98]⟩ : ByteArray) bt111.1 bt111.2.1 bt111.2.2.1 bt111.2.2.2 ((x1 ++ x0) ++ x2)).bind fun t115 => (if t115 = 6 then (if x1.size + x2.size ≤ 9223372036854775807 then (donjonlaw18_MailWords.l0 k x0 y107 false 0 (⟨#[97]⟩ : ByteArray) 2 0 1 0 (⟨#[98]⟩ : ByteArray) bt111.1 bt111.2.1 bt111.2.2.1 bt111.2.2.2 (x1 ++ x2)) else (none)) else (some false)))) else (none)) else (none))))
def donjonlaw18_MailWords.l0 : Nat → ByteArray → List (S44) → Bool → Int → ByteArray → Int → Int → Int → Int → ByteArray → Int → Int → Int → Int → ByteArray → Option (Bool)
  | 0, _, _, _, _, _, _, _, _, _, _, _, _, _, _, _ => none
  | k + 1, x0, x8, x10, x11, x111000, x111001, x111002, x111003, x111004, x111005, x111006, x111007, x111008, x111009, x111010 => if (wrap64 (x11 + (x0.size : Int))) ≤ (x111010.size : Int) then (if x10 = true then (donjonlaw18_MailWords.l0 k x0 x8 true (wrap64 (x11 + 1)) x111000 x111001 x111002 x111003 x111004 x111005 x111006 x111007 x111008 x111009 x111010) else (if 0 ≤ x11 then (if x11 ≤ (wrap64 (x11 + (x0.size : Int))) then (donjonlaw18_MailWords.l0 k x0 x8 ((x111010.extract (x11 : Int).toNat ((wrap64 (x11 + (x0.size : Int))) : Int).toNat).toList == x0.toList) (wrap64 (x11 + 1)) x111000 x111001 x111002 x111003 x111004 x111005 x111006 x111007 x111008 x111009 x111010) else (none)) else (none))) else ((mail_Release.f k x8 x111000 x111001 x111002 x111003 x111004 x111005 x111006 x111007 x111008 x111009 x111010).bind fun t116 => (some ((t116 == 6) == x10)))
end
def donjonlaw18_MailWords.f (k : Nat) (a0 : ByteArray) (a1 : ByteArray) (a2 : ByteArray) : Option (Bool) := (donjonlaw18_known.f k).bind fun t101 => (if t101 = true then (if (a0.size : Int) = 0 then (donjonlaw18_MailWords.j0 k a0 a1 a2 true) else (if (a0.size : Int) > 12 then (donjonlaw18_MailWords.j0 k a0 a1 a2 true) else (donjonlaw18_MailWords.j0 k a0 a1 a2 (decide ((wrap64 ((a1.size : Int) + (a2.size : Int))) > 20))))) else (some false))
theorem donjonlaw18_MailWords.mono_l : ∀ k, (∀ y0 y1 y2 y3, LeO (donjonlaw18_MailWords.j0 k y0 y1 y2 y3) (donjonlaw18_MailWords.j0 (k + 1) y0 y1 y2 y3)) ∧ (∀ y0 y1 y2 y3 y4 y5 y6 y7 y8 y9 y10 y11 y12 y13 y14, LeO (donjonlaw18_MailWords.l0 k y0 y1 y2 y3 y4 y5 y6 y7 y8 y9 y10 y11 y12 y13 y14) (donjonlaw18_MailWords.l0 (k + 1) y0 y1 y2 y3 y4 y5 y6 y7 y8 y9 y10 y11 y12 y13 y14))
  | 0 => ⟨fun _ _ _ _ r h => by simp [donjonlaw18_MailWords.j0] at h, fun _ _ _ _ _ _ _ _ _ _ _ _ _ _ _ r h => by simp [donjonlaw18_MailWords.l0] at h⟩
  | k + 1 => by
    obtain ⟨ih0, ih1⟩ := donjonlaw18_MailWords.mono_l k
    refine ⟨?_, ?_⟩
    · intro y0 y1 y2 y3
      unfold donjonlaw18_MailWords.j0
      repeat' first
      | (with_reducible exact ih0 _ _ _ _)
      | (with_reducible exact ih1 _ _ _ _ _ _ _ _ _ _ _ _ _ _ _)
      | (with_reducible exact donjonlaw18_known.mono _)
      | (with_reducible exact mail_Release.mono _ _ _ _ _ _ _ _ _ _ _ _ _)
      | (with_reducible exact LeO.refl _)
      | (with_reducible exact LeO.none _)
      | (with_reducible refine LeO.ite ?_ ?_)
      | (with_reducible refine LeO.bind ?_ (fun _ => ?_))
      | exact ih0 _ _ _ _
      | exact ih1 _ _ _ _ _ _ _ _ _ _ _ _ _ _ _
      | exact donjonlaw18_known.mono _
      | exact mail_Release.mono _ _ _ _ _ _ _ _ _ _ _ _ _
      | exact LeO.none _
      | refine LeO.ite ?_ ?_
      | refine LeO.bind ?_ (fun _ => ?_)
    · intro y0 y1 y2 y3 y4 y5 y6 y7 y8 y9 y10 y11 y12 y13 y14
      unfold donjonlaw18_MailWords.l0
      repeat' first
      | (with_reducible exact ih0 _ _ _ _)
      | (with_reducible exact ih1 _ _ _ _ _ _ _ _ _ _ _ _ _ _ _)
      | (with_reducible exact donjonlaw18_known.mono _)
      | (with_reducible exact mail_Release.mono _ _ _ _ _ _ _ _ _ _ _ _ _)
      | (with_reducible exact LeO.refl _)
      | (with_reducible exact LeO.none _)
      | (with_reducible refine LeO.ite ?_ ?_)
      | (with_reducible refine LeO.bind ?_ (fun _ => ?_))
      | exact ih0 _ _ _ _
      | exact ih1 _ _ _ _ _ _ _ _ _ _ _ _ _ _ _
      | exact donjonlaw18_known.mono _
      | exact mail_Release.mono _ _ _ _ _ _ _ _ _ _ _ _ _
      | exact LeO.none _
      | refine LeO.ite ?_ ?_
      | refine LeO.bind ?_ (fun _ => ?_)
theorem donjonlaw18_MailWords.mono : ∀ a0 a1 a2 k, LeO (donjonlaw18_MailWords.f k a0 a1 a2) (donjonlaw18_MailWords.f (k + 1) a0 a1 a2) := by
  intro a0 a1 a2 k
  obtain ⟨ih0, ih1⟩ := donjonlaw18_MailWords.mono_l k
  unfold donjonlaw18_MailWords.f
  repeat' first
      | (with_reducible exact ih0 _ _ _ _)
      | (with_reducible exact ih1 _ _ _ _ _ _ _ _ _ _ _ _ _ _ _)
      | (with_reducible exact donjonlaw18_known.mono _)
      | (with_reducible exact mail_Release.mono _ _ _ _ _ _ _ _ _ _ _ _ _)
      | (with_reducible exact LeO.refl _)
      | (with_reducible exact LeO.none _)
      | (with_reducible refine LeO.ite ?_ ?_)
      | (with_reducible refine LeO.bind ?_ (fun _ => ?_))
      | exact ih0 _ _ _ _
      | exact ih1 _ _ _ _ _ _ _ _ _ _ _ _ _ _ _
      | exact donjonlaw18_known.mono _
      | exact mail_Release.mono _ _ _ _ _ _ _ _ _ _ _ _ _
      | exact LeO.none _
      | refine LeO.ite ?_ ?_
      | refine LeO.bind ?_ (fun _ => ?_)
set_option maxHeartbeats 8000000 in
set_option maxRecDepth 100000 in
theorem donjonlaw18_MailWords.calls (k : Nat) (a0 : ByteArray) (a1 : ByteArray) (a2 : ByteArray) (r : Bool) (w : World) (hrt0 : r = true) (hG0 : MaxAt w) (h : donjonlaw18_MailWords.f k a0 a1 a2 = some r) :
    Calls Try.prog 7 #[.string a0, .string a1, .string a2] w fun e w' => e = .returned (.bool r) ∧ Below w.heap.size w w' := by
  have HRT := Aside0.mk hrt0
  clear hrt0
  have HG := Aside0.mk hG0
  clear hG0
  have hu26 := Try.underlying26
  have hu44 := Try.underlying44
  have hu28 := Try.underlying28
  have HB := Aside0.mk (Below.refl w.heap.size w)
  have H : ((donjonlaw18_known.f k).bind fun t101 => (if t101 = true then (if (a0.size : Int) = 0 then (donjonlaw18_MailWords.j0 k a0 a1 a2 true) else (if (a0.size : Int) > 12 then (donjonlaw18_MailWords.j0 k a0 a1 a2 true) else (donjonlaw18_MailWords.j0 k a0 a1 a2 (decide ((wrap64 ((a1.size : Int) + (a2.size : Int))) > 20))))) else (some false))) = some r := h
  clear h
  replace H := Option.bind_eq_some_iff.mp H
  obtain ⟨t101, A40, H⟩ := H
  replace H : (if t101 = true then (if (a0.size : Int) = 0 then (donjonlaw18_MailWords.j0 k a0 a1 a2 true) else (if (a0.size : Int) > 12 then (donjonlaw18_MailWords.j0 k a0 a1 a2 true) else (donjonlaw18_MailWords.j0 k a0 a1 a2 (decide ((wrap64 ((a1.size : Int) + (a2.size : Int))) > 20))))) else (some false)) = some r := H
  have A4 := Aside0.mk A40
  clear A40
  by_cases c5 : t101 = true
  · subst c5
    have H1 : (if (a0.size : Int) = 0 then (donjonlaw18_MailWords.j0 k a0 a1 a2 true) else (if (a0.size : Int) > 12 then (donjonlaw18_MailWords.j0 k a0 a1 a2 true) else (donjonlaw18_MailWords.j0 k a0 a1 a2 (decide ((wrap64 ((a1.size : Int) + (a2.size : Int))) > 20))))) = some r := by rw [if_pos rfl] at H; exact H
    clear H
    have H := H1
    clear H1
    have HC6 := Aside0.mk H
    clear H
    go_enter Try.func7, Try.ntmps7
    go_upto_region 3 with (first | ((with_reducible refine gate_callee (f := 9) rfl ?_); refine goesL_ (some 12) rfl rfl Try.func9 (by kernel_rfl) rfl #[] rfl (by (try simp only [List.map_toArray, List.map_cons, List.map_nil]); first | done | rfl | (simp only [List.length_drop, List.length_take]; rfl)) ?_; (with_reducible refine (donjonlaw18_known.calls k  true _ A4.out).mono ?_); rintro e w7 ⟨rfl, hb⟩; refine ⟨_, rfl, ?_⟩; have n0_ := Aside0.mk (below_step (by repeat (first | (with_reducible first | exact HB.out | apply below_alloc | apply pw_below_drewN | apply below_drew1) | exact HB.out)) hb); clear HB; have HB := n0_; clear n0_; (try clear hb); (try clear hb2); (try clear hk); (try clear hi)))
    (try simp only [Act.put, List.setIfInBounds_toArray, List.set_cons_zero, List.set_cons_succ])
    go_cut [29] (fun v29 wc => ∃ (kq : Nat) (x29_5 : Bool), v29 = .bool x29_5 ∧ Aside0 (donjonlaw18_MailWords.j0 kq a0 a1 a2 x29_5 = some r) ∧ Aside0 (kq ≤ k) ∧ Aside0 (Below w.heap.size w wc))
    case first =>
      have H := HC6.out
      clear HC6
      by_cases c8 : (a0.size : Int) = 0
      · rw [if_pos c8] at H
        have c8b0 : ((a0.size : Int) == 0) = true := beq_iff_eq.mpr c8
        have c8b1 : ((a0.size : Int) != 0) = false := bne_eq_false_iff_eq.mpr c8
        clear c8
        (first | rw [c8b0] | (simp only [i64_w, i32_w]; rw [c8b0]) | skip)
        have H' := Aside0.mk H
        clear H
        go_wp2
        go_meet
        case rel => exact ⟨_, (true), (by first | rfl | (simp; done) | (simp [*]; done)), H', ⟨by first | omega | exact Nat.le_refl _⟩, ⟨by repeat (first | (with_reducible first | exact HB.out | apply below_alloc | apply pw_below_drewN | apply below_drew1) | exact HB.out)⟩⟩
      · rw [if_neg c8] at H
        have c8b0 : ((a0.size : Int) == 0) = false := beq_eq_false_iff_ne.mpr c8
        have c8b1 : ((a0.size : Int) != 0) = true := bne_iff_ne.mpr c8
        (first | rw [c8b0] | (simp only [i64_w, i32_w]; rw [c8b0]) | skip)
        by_cases c9 : (a0.size : Int) > 12
        · rw [if_pos c9] at H
          have c9b0 : decide (12 < (a0.size : Int)) = true := decide_eq_true c9
          have c9b1 : decide (12 < a0.size) = true := decide_eq_true (by omega)
          clear c9
          have H' := Aside0.mk H
          clear H
          go_wp2
          go_meet
          case rel => exact ⟨_, (true), (by first | rfl | (simp; done) | (simp [*]; done)), H', ⟨by first | omega | exact Nat.le_refl _⟩, ⟨by repeat (first | (with_reducible first | exact HB.out | apply below_alloc | apply pw_below_drewN | apply below_drew1) | exact HB.out)⟩⟩
        · rw [if_neg c9] at H
          have c9b0 : decide (12 < (a0.size : Int)) = false := decide_eq_false c9
          have c9b1 : decide (12 < a0.size) = false := decide_eq_false (by omega)
          clear c9
          have H' := Aside0.mk H
          clear H
          go_wp2
          go_meet
          case rel => exact ⟨_, (decide ((wrap64 ((a1.size : Int) + (a2.size : Int))) > 20)), (by first | rfl | (simp; done) | (simp [*]; done)), H', ⟨by first | omega | exact Nat.le_refl _⟩, ⟨by repeat (first | (with_reducible first | exact HB.out | apply below_alloc | apply pw_below_drewN | apply below_drew1) | exact HB.out)⟩⟩
    case rest =>
      clear HC6
      try clear p2
      try clear c5
      try clear p6
      try clear c7
      try clear c8
      try clear c8b0
      try clear c8b1
      try clear c9
      try clear c9b0
      try clear c9b1
      obtain ⟨kq, x29_5, rfl, HA, HJ5, HB⟩ := hcut
      cases kq with
      | zero => exact absurd HA.out (by simp [donjonlaw18_MailWords.j0])
      | succ kj5 =>
        have H := HA.out
        clear HA
        simp only [donjonlaw18_MailWords.j0] at H
        by_cases c10 : x29_5 = true
        · subst c10
          have H1 : (some true) = some r := by rw [if_pos rfl] at H; exact H
          clear H
          have H := H1
          clear H1
          obtain rfl := Option.some.inj H
          go_wp2
          go_ret
          exact ⟨by first | rfl | (simp [errW_none, errW_some] <;> rfl) | (simp [*, errW_none, errW_some] <;> rfl), by repeat (first | (with_reducible first | exact HB.out | apply below_alloc | apply pw_below_drewN | apply below_drew1) | exact HB.out)⟩
        · replace c10 := Bool.eq_false_iff.mpr c10
          subst c10
          have H1 : ((donjonref4_Bottom.f).bind fun bt103 => ((some (([(⟨(⟨2, 0, 1, 0⟩ : S26), (⟨bt103.1, bt103.2.1, bt103.2.2.1, bt103.2.2.2⟩ : S26), a0⟩ : S44)] : List (S44)) : List (S44))).bind fun y107 => (if a1.size + a0.size ≤ 9223372036854775807 then (if (a1 ++ a0).size + a2.size ≤ 9223372036854775807 then ((donjonref4_Bottom.f).bind fun bt111 => ((mail_Release.f kj5 y107 (⟨#[97]⟩ : ByteArray) 2 0 1 0 (⟨#[98]⟩ : ByteArray) bt111.1 bt111.2.1 bt111.2.2.1 bt111.2.2.2 ((a1 ++ a0) ++ a2)).bind fun t115 => (if t115 = 6 then (if a1.size + a2.size ≤ 9223372036854775807 then (donjonlaw18_MailWords.l0 kj5 a0 y107 false 0 (⟨#[97]⟩ : ByteArray) 2 0 1 0 (⟨#[98]⟩ : ByteArray) bt111.1 bt111.2.1 bt111.2.2.1 bt111.2.2.2 (a1 ++ a2)) else (none)) else (some false)))) else (none)) else (none)))) = some r := by rw [if_neg (show ¬ (false = true) by decide)] at H; exact H
          clear H
          have H := H1
          clear H1
          replace H := Option.bind_eq_some_iff.mp H
          obtain ⟨⟨t103, t104, t105, t106⟩, A110, H⟩ := H
          replace H : ((some (([(⟨(⟨2, 0, 1, 0⟩ : S26), (⟨t103, t104, t105, t106⟩ : S26), a0⟩ : S44)] : List (S44)) : List (S44))).bind fun y107 => (if a1.size + a0.size ≤ 9223372036854775807 then (if (a1 ++ a0).size + a2.size ≤ 9223372036854775807 then ((donjonref4_Bottom.f).bind fun bt111 => ((mail_Release.f kj5 y107 (⟨#[97]⟩ : ByteArray) 2 0 1 0 (⟨#[98]⟩ : ByteArray) bt111.1 bt111.2.1 bt111.2.2.1 bt111.2.2.2 ((a1 ++ a0) ++ a2)).bind fun t115 => (if t115 = 6 then (if a1.size + a2.size ≤ 9223372036854775807 then (donjonlaw18_MailWords.l0 kj5 a0 y107 false 0 (⟨#[97]⟩ : ByteArray) 2 0 1 0 (⟨#[98]⟩ : ByteArray) bt111.1 bt111.2.1 bt111.2.2.1 bt111.2.2.2 (a1 ++ a2)) else (none)) else (some false)))) else (none)) else (none))) = some r := H
          have A11 := Aside0.mk A110
          clear A110
          obtain ⟨y107, hy107⟩ : ∃ y_ : List (S44), y_ = (([(⟨(⟨2, 0, 1, 0⟩ : S26), (⟨t103, t104, t105, t106⟩ : S26), a0⟩ : S44)] : List (S44))) := ⟨_, rfl⟩
          replace H : (if a1.size + a0.size ≤ 9223372036854775807 then (if (a1 ++ a0).size + a2.size ≤ 9223372036854775807 then ((donjonref4_Bottom.f).bind fun bt111 => ((mail_Release.f kj5 y107 (⟨#[97]⟩ : ByteArray) 2 0 1 0 (⟨#[98]⟩ : ByteArray) bt111.1 bt111.2.1 bt111.2.2.1 bt111.2.2.2 ((a1 ++ a0) ++ a2)).bind fun t115 => (if t115 = 6 then (if a1.size + a2.size ≤ 9223372036854775807 then (donjonlaw18_MailWords.l0 kj5 a0 y107 false 0 (⟨#[97]⟩ : ByteArray) 2 0 1 0 (⟨#[98]⟩ : ByteArray) bt111.1 bt111.2.1 bt111.2.2.1 bt111.2.2.2 (a1 ++ a2)) else (none)) else (some false)))) else (none)) else (none)) = some r := by first | (rw [hy107]; with_reducible exact H) | (have H2_ := (Option.bind_some _ _).symm.trans H; rw [hy107]; with_reducible exact H2_) | (have H2_ := (Option.bind_some _ _).symm.trans H; with_reducible exact H2_) | with_reducible exact H | (rw [hy107]; exact H) | exact H
          have Ny107 := Aside0.mk hy107
          clear hy107
          by_cases c12 : a1.size + a0.size ≤ 9223372036854775807
          · rw [if_pos c12] at H
            have c12b0 := eq_true c12
            have c12b1 : decide (a1.size + a0.size ≤ 9223372036854775807) = true := decide_eq_true c12
            try have c12b2 : (9223372036854775807 < a1.size + a0.size) = False := eq_false (Nat.not_lt.2 c12)
            by_cases c13 : (a1 ++ a0).size + a2.size ≤ 9223372036854775807
            · rw [if_pos c13] at H
              have c13b0 := eq_true c13
              have c13b1 : decide ((a1 ++ a0).size + a2.size ≤ 9223372036854775807) = true := decide_eq_true c13
              (try (have c13b19 := c13b1; simp only [ByteArray.size_append, Int.natCast_add] at c13b19))
              try have c13b2 : (9223372036854775807 < (a1 ++ a0).size + a2.size) = False := eq_false (Nat.not_lt.2 c13)
              replace H := Option.bind_eq_some_iff.mp H
              obtain ⟨⟨t111, t112, t113, t114⟩, A140, H⟩ := H
              replace H : ((mail_Release.f kj5 y107 (⟨#[97]⟩ : ByteArray) 2 0 1 0 (⟨#[98]⟩ : ByteArray) t111 t112 t113 t114 ((a1 ++ a0) ++ a2)).bind fun t115 => (if t115 = 6 then (if a1.size + a2.size ≤ 9223372036854775807 then (donjonlaw18_MailWords.l0 kj5 a0 y107 false 0 (⟨#[97]⟩ : ByteArray) 2 0 1 0 (⟨#[98]⟩ : ByteArray) t111 t112 t113 t114 (a1 ++ a2)) else (none)) else (some false))) = some r := H
              have A14 := Aside0.mk A140
              clear A140
              replace H := Option.bind_eq_some_iff.mp H
              obtain ⟨t115, A150, H⟩ := H
              replace H : (if t115 = 6 then (if a1.size + a2.size ≤ 9223372036854775807 then (donjonlaw18_MailWords.l0 kj5 a0 y107 false 0 (⟨#[97]⟩ : ByteArray) 2 0 1 0 (⟨#[98]⟩ : ByteArray) t111 t112 t113 t114 (a1 ++ a2)) else (none)) else (some false)) = some r := H
              have A15 := Aside0.mk A150
              clear A150
              by_cases c16 : t115 = 6
              · rw [if_pos c16] at H
                have c16b0 : (t115 == 6) = true := beq_iff_eq.mpr c16
                have c16b1 : (t115 != 6) = false := bne_eq_false_iff_eq.mpr c16
                clear c16
                by_cases c17 : a1.size + a2.size ≤ 9223372036854775807
                · rw [if_pos c17] at H
                  have c17b0 := eq_true c17
                  have c17b1 : decide (a1.size + a2.size ≤ 9223372036854775807) = true := decide_eq_true c17
                  try have c17b2 : (9223372036854775807 < a1.size + a2.size) = False := eq_false (Nat.not_lt.2 c17)
                  have H' := Aside0.mk H
                  clear H
                  try go_wp2_with (first | ((with_reducible refine gate_dst (N := 7) rfl ?_); (try (refine gate_guard (by rfl) ?_; dsimp only)); refine box_event ?hg (N := 7) ?hd (cs := #[.int .i64 0, .int .i64 0, .int .i64 0, .int .i64 0]) (t := 26) ?hr ?_; (case hd => rfl); (case hg => rfl); (case hr => first | (go_simp; done) | (go_simp; rfl)); intro gb102 hg w18 hbox hb; have n0_ := Aside0.mk (below_step (by repeat (first | (with_reducible first | exact HB.out | apply below_alloc | apply pw_below_drewN | apply below_drew1) | exact HB.out)) hb); have n1_ := Aside0.mk (hbox); have n2_ := Aside0.mk ((by rw [hg]; exact (below_size (by repeat (first | (with_reducible first | exact HB.out | apply below_alloc | apply pw_below_drewN | apply below_drew1) | exact HB.out))) : w.heap.size ≤ gb102)); have n3_ := Aside0.mk ((by rw [hg]; exact (below_size (by repeat (first | (with_reducible first | exact HB.out | apply below_alloc | apply pw_below_drewN | apply below_drew1) | exact HB.out))) : w.heap.size ≤ gb102)); clear HB; have HB := n0_; have BK102 := n1_; have GW102 := n2_; have GE102 := n3_; clear n0_ n1_ n2_ n3_; clear hb hbox hg; have hcz19_0 : w18.cell? ⟨gb102, 0, none⟩ = some (.int .i64 0) := (blk_cell BK102.out 0).trans rfl; have hcz19_1 : w18.cell? ⟨gb102, 1, none⟩ = some (.int .i64 0) := (blk_cell BK102.out 1).trans rfl; have hcz19_2 : w18.cell? ⟨gb102, 2, none⟩ = some (.int .i64 0) := (blk_cell BK102.out 2).trans rfl; have hcz19_3 : w18.cell? ⟨gb102, 3, none⟩ = some (.int .i64 0) := (blk_cell BK102.out 3).trans rfl; have hfz19_0 := blk_frozen BK102.out 0; have hfz19_1 := blk_frozen BK102.out 1; have hfz19_2 := blk_frozen BK102.out 2; have hfz19_3 := blk_frozen BK102.out 3))
                  have n0_ : Aside0 (((((w18.setCell ⟨gb102, 0, none⟩ (.int .i64 2)).setCell ⟨gb102, 1, none⟩ (.int .i64 0)).setCell ⟨gb102, 2, none⟩ (.int .i64 1)).setCell ⟨gb102, 3, none⟩ (.int .i64 0)).heap[gb102]? = some (.cells #[.int .i64 2, .int .i64 0, .int .i64 1, .int .i64 0] 26 (0, 0))) := ⟨by (with_reducible repeat (first | refine blk_drewN ?_ _ | refine blk_drew ?_ | refine blk_alloc ?_ _)); refine blk_put (cs := #[.int .i64 2, .int .i64 0, .int .i64 1, .int .i64 0]) ?_ 3 _ rfl; (with_reducible repeat (first | refine blk_drewN ?_ _ | refine blk_drew ?_ | refine blk_alloc ?_ _)); refine blk_put (cs := #[.int .i64 2, .int .i64 0, .int .i64 0, .int .i64 0]) ?_ 2 _ rfl; (with_reducible repeat (first | refine blk_drewN ?_ _ | refine blk_drew ?_ | refine blk_alloc ?_ _)); refine blk_put (cs := #[.int .i64 2, .int .i64 0, .int .i64 0, .int .i64 0]) ?_ 1 _ rfl; (with_reducible repeat (first | refine blk_drewN ?_ _ | refine blk_drew ?_ | refine blk_alloc ?_ _)); refine blk_put (cs := #[.int .i64 0, .int .i64 0, .int .i64 0, .int .i64 0]) ?_ 0 _ rfl; (with_reducible repeat (first | refine blk_drewN ?_ _ | refine blk_drew ?_ | refine blk_alloc ?_ _)); exact BK102.out⟩
                  have n1_ : Aside0 (Below w.heap.size w ((((w18.setCell ⟨gb102, 0, none⟩ (.int .i64 2)).setCell ⟨gb102, 1, none⟩ (.int .i64 0)).setCell ⟨gb102, 2, none⟩ (.int .i64 1)).setCell ⟨gb102, 3, none⟩ (.int .i64 0))) := ⟨by repeat (first | (with_reducible first | exact HB.out | apply below_alloc | apply pw_below_drewN | apply below_drew1 | refine below_set ?_ GE102.out) | exact HB.out)⟩
                  (try clear BK102)
                  (try clear HB)
                  generalize ((((w18.setCell ⟨gb102, 0, none⟩ (.int .i64 2)).setCell ⟨gb102, 1, none⟩ (.int .i64 0)).setCell ⟨gb102, 2, none⟩ (.int .i64 1)).setCell ⟨gb102, 3, none⟩ (.int .i64 0)) = w20 at n0_ n1_ ⊢
                  have BK102 := n0_
                  have HB := n1_
                  clear n0_ n1_
                  have n0_ := Aside0.mk (blk_drew BK102.out)
                  have n1_ := Aside0.mk (below_drew1 HB.out)
                  clear BK102
                  clear HB
                  have BK102 := n0_
                  have HB := n1_
                  clear n0_ n1_
                  refine start_ (n := 6) (S := fun w' => w'.cell? ⟨gb102, 0, none⟩ = some (.int .i64 2) ∧ w'.cell? ⟨gb102, 1, none⟩ = some (.int .i64 0) ∧ w'.cell? ⟨gb102, 2, none⟩ = some (.int .i64 1) ∧ w'.cell? ⟨gb102, 3, none⟩ = some (.int .i64 0)) (ds := []) #[false, false, false, false, false, false] (by kernel_rfl) rfl rfl ⟨(blk_cell BK102.out 0).trans rfl, (blk_cell BK102.out 1).trans rfl, (blk_cell BK102.out 2).trans rfl, (blk_cell BK102.out 3).trans rfl⟩ (fun hHeld => ?_)
                  generalize w20.drew = w21 at BK102 HB hHeld ⊢
                  refine pure_ (i := 2) (N := some 33) (v := ?_) (a' := ?_) #[false, false, true, false, false, false] rfl rfl (by kernel_rfl) (fun _ _ _ h => h) (Or.inl ⟨by rfl, ?_⟩) ?_ ?_
                  rotate_left
                  · intro w'
                    go_simp
                    with_reducible rfl
                  rotate_left
                  · simp only [Act.put, List.setIfInBounds_toArray, List.set_cons_zero, List.set_cons_succ, i64_w, i32_w]
                    rfl
                  refine take_ (i := 0) (N := some 31) (v := ?_) (a' := ?_) #[true, false, true, false, false, false] rfl rfl (by kernel_rfl) (fun _ _ _ h => h) (Or.inl ⟨by rfl, ?_⟩) hHeld ?_ ?_
                  rotate_left
                  · rintro w' ⟨s0, s1, s2, s3⟩
                    go_simp
                    with_reducible rfl
                  rotate_left
                  · simp only [Act.put, List.setIfInBounds_toArray, List.set_cons_zero, List.set_cons_succ, i64_w, i32_w]
                    rfl
                  refine one_ (i := 1) (N := some 32) #[true, true, true, false, false, false] rfl rfl (by kernel_rfl) (by decide) (fun K hK => ?_)
                  refine goes_ Try.func24 (by kernel_rfl) rfl #[] (by rfl) rfl rfl (by (try simp only [List.map_toArray, List.map_cons, List.map_nil]); first | done | rfl | (simp only [List.length_drop, List.length_take]; rfl)) ?_
                  with_reducible refine (donjonref4_Bottom.calls  t103 t104 t105 t106 _ A11.out).mono ?_
                  rintro e w22 ⟨rfl, hb⟩
                  refine ⟨_, rfl, ?_⟩
                  have n0_ := Aside0.mk (blk_below (g := gb102) (o := .cells #[.int .i64 2, .int .i64 0, .int .i64 1, .int .i64 0] 26 (0, 0)) (by (with_reducible repeat (first | refine blk_drewN ?_ _ | refine blk_drew ?_ | refine blk_alloc ?_ _)); exact BK102.out) hb)
                  have n1_ := Aside0.mk (below_step (by repeat (first | (with_reducible first | exact HB.out | apply below_alloc | apply pw_below_drewN | apply below_drew1 | refine below_set ?_ GE102.out) | exact HB.out)) hb)
                  clear BK102
                  clear HB
                  have BK102 := n0_
                  have HB := n1_
                  clear n0_ n1_
                  (try clear hb)
                  (try clear hb2)
                  (try clear hk)
                  (try clear hi)
                  refine hK.out _ _ ⟨(blk_cell BK102.out 0).trans rfl, (blk_cell BK102.out 1).trans rfl, (blk_cell BK102.out 2).trans rfl, (blk_cell BK102.out 3).trans rfl⟩ (fun hHeld => ?_)
                  clear hK K
                  refine norm_ (a' := ?_) ?_ ?_
                  rotate_left
                  · show Act.put _ (some 32) _ = _
                    simp only [Act.put, List.setIfInBounds_toArray, List.set_cons_zero, List.set_cons_succ, i64_w, i32_w]
                    rfl
                  refine pure_ (i := 3) (N := some 34) (v := ?_) (a' := ?_) #[true, true, true, true, false, false] rfl rfl (by kernel_rfl) (fun _ _ _ h => h) (Or.inl ⟨by rfl, ?_⟩) ?_ ?_
                  rotate_left
                  · intro w'
                    go_simp
                    with_reducible rfl
                  rotate_left
                  · simp only [Act.put, List.setIfInBounds_toArray, List.set_cons_zero, List.set_cons_succ, i64_w, i32_w]
                    rfl
                  refine one_ (i := 4) (N := some 35) #[true, true, true, true, true, false] rfl rfl (by kernel_rfl) (by decide) (fun K hK => ?_)
                  refine Kd.R_lit_step k44 _ 44 ?hg (N := 35) ?hd (xs := ([(⟨(⟨2, 0, 1, 0⟩ : S26), (⟨t103, t104, t105, t106⟩ : S26), a0⟩ : S44)] : List (S44))) (inner := [.int .i64 2, .int .i64 0, .int .i64 1, .int .i64 0, .int .i64 t103, .int .i64 t104, .int .i64 t105, .int .i64 t106, .string a0]) (ok := fun _ => True) (okp := fun _ => True) ?hr ?hp (fun _ hk => hk) trivial (Below.refl _ _) (Nat.le_refl _) (by simp) ?_; (case hd => rfl); (case hg => rfl); (case hr => first | (go_simp; done) | (go_simp; rfl)); (case hp => exact (Reps.c9 (show Kd.M k44 _ _ _ (⟨(⟨2, 0, 1, 0⟩ : S26), (⟨t103, t104, t105, t106⟩ : S26), a0⟩ : S44) [.int .i64 2, .int .i64 0, .int .i64 1, .int .i64 0, .int .i64 t103, .int .i64 t104, .int .i64 t105, .int .i64 t106, .string a0] from (k44_mkM _ _ _ (⟨(⟨2, 0, 1, 0⟩ : S26), (⟨t103, t104, t105, t106⟩ : S26), a0⟩ : S44) )) (Reps.none _ _)))
                  intro v108 w23 ho24 hb hg_ hnew_
                  clear hg_ hnew_
                  (first | rw [← Ny107.out] at ho24 | (simp only [Int.reduceToNat] at ho24; rw [← Ny107.out] at ho24))
                  have n0_ := Aside0.mk (Kd.R_lower ho24 (below_size (by repeat (first | (with_reducible first | exact HB.out | apply below_alloc | apply pw_below_drewN | apply below_drew1 | refine below_set ?_ GE102.out) | exact HB.out))))
                  have n1_ := Aside0.mk (blk_below (g := gb102) (o := .cells #[.int .i64 2, .int .i64 0, .int .i64 1, .int .i64 0] 26 (0, 0)) (by (with_reducible repeat (first | refine blk_drewN ?_ _ | refine blk_drew ?_ | refine blk_alloc ?_ _)); exact BK102.out) hb)
                  have n2_ := Aside0.mk (below_step (by repeat (first | (with_reducible first | exact HB.out | apply below_alloc | apply pw_below_drewN | apply below_drew1 | refine below_set ?_ GE102.out) | exact HB.out)) hb)
                  clear BK102
                  clear HB
                  have HO109 := n0_
                  have BK102 := n1_
                  have HB := n2_
                  clear n0_ n1_ n2_
                  clear hb ho24
                  refine hK.out _ _ ⟨(blk_cell BK102.out 0).trans rfl, (blk_cell BK102.out 1).trans rfl, (blk_cell BK102.out 2).trans rfl, (blk_cell BK102.out 3).trans rfl⟩ (fun hHeld => ?_)
                  clear hK K
                  refine norm_ (a' := ?_) ?_ ?_
                  rotate_left
                  · show Act.put _ (some 35) _ = _
                    simp only [Act.put, List.setIfInBounds_toArray, List.set_cons_zero, List.set_cons_succ, i64_w, i32_w]
                    rfl
                  refine pure_ (i := 5) (N := some 8) (v := ?_) (a' := ?_) #[true, true, true, true, true, true] rfl rfl (by kernel_rfl) (fun _ _ _ h => h) (Or.inl ⟨by rfl, ?_⟩) ?_ ?_
                  rotate_left
                  · intro w'
                    go_simp
                    with_reducible rfl
                  rotate_left
                  · simp only [Act.put, List.setIfInBounds_toArray, List.set_cons_zero, List.set_cons_succ, i64_w, i32_w]
                    rfl
                  refine done_ (by kernel_rfl) ?_
                  have hcz25_0 : w23.cell? ⟨gb102, 0, none⟩ = some (.int .i64 2) := (blk_cell BK102.out 0).trans rfl
                  have hcz25_1 : w23.cell? ⟨gb102, 1, none⟩ = some (.int .i64 0) := (blk_cell BK102.out 1).trans rfl
                  have hcz25_2 : w23.cell? ⟨gb102, 2, none⟩ = some (.int .i64 1) := (blk_cell BK102.out 2).trans rfl
                  have hcz25_3 : w23.cell? ⟨gb102, 3, none⟩ = some (.int .i64 0) := (blk_cell BK102.out 3).trans rfl
                  have hfz25_0 := blk_frozen BK102.out 0
                  have hfz25_1 := blk_frozen BK102.out 1
                  have hfz25_2 := blk_frozen BK102.out 2
                  have hfz25_3 := blk_frozen BK102.out 3
                  try go_wp2_with (first | ((with_reducible refine gate_dst (N := 9) rfl ?_); (try (refine gate_guard (by rfl) ?_; dsimp only)); refine box_event ?hg (N := 9) ?hd (cs := #[.string (⟨#[]⟩ : ByteArray), .int .i64 0, .int .i64 0, .int .i64 0, .int .i64 0, .string (⟨#[]⟩ : ByteArray), .int .i64 0, .int .i64 0, .int .i64 0, .int .i64 0, .string (⟨#[]⟩ : ByteArray)]) (t := 28) ?hr ?_; (case hd => rfl); (case hg => rfl); (case hr => first | (go_simp; done) | (go_simp; rfl)); intro gb110 hg w26 hbox hb; have n0_ := Aside0.mk (Kd.R_below (by (with_reducible repeat (first | apply Kd.R_alloc | apply Kd.R_drewN | apply Kd.R_drew)); exact HO109.out) hb); have n1_ := Aside0.mk (blk_below (g := gb102) (o := .cells #[.int .i64 2, .int .i64 0, .int .i64 1, .int .i64 0] 26 (0, 0)) (by (with_reducible repeat (first | refine blk_drewN ?_ _ | refine blk_drew ?_ | refine blk_alloc ?_ _)); exact BK102.out) hb); have n2_ := Aside0.mk (below_step (by repeat (first | (with_reducible first | exact HB.out | apply below_alloc | apply pw_below_drewN | apply below_drew1 | refine below_set ?_ GE102.out) | exact HB.out)) hb); have n3_ := Aside0.mk (hbox); have n4_ := Aside0.mk ((by rw [hg]; exact (below_size (by repeat (first | (with_reducible first | exact HB.out | apply below_alloc | apply pw_below_drewN | apply below_drew1 | refine below_set ?_ GE102.out) | exact HB.out))) : w.heap.size ≤ gb110)); have n5_ := Aside0.mk ((by rw [hg]; exact (below_size (by repeat (first | (with_reducible first | exact HB.out | apply below_alloc | apply pw_below_drewN | apply below_drew1 | refine below_set ?_ GE102.out) | exact HB.out))) : w.heap.size ≤ gb110)); have n6_ := Aside0.mk ((by rw [hg]; exact Nat.ne_of_lt (blk_lt (g := gb102) (o := .cells #[.int .i64 2, .int .i64 0, .int .i64 1, .int .i64 0] 26 (0, 0)) (by (with_reducible repeat (first | refine blk_drewN ?_ _ | refine blk_drew ?_ | refine blk_alloc ?_ _)); exact BK102.out)) : gb102 ≠ gb110)); have n7_ := Aside0.mk ((by rw [hg]; exact Nat.ne_of_gt (blk_lt (g := gb102) (o := .cells #[.int .i64 2, .int .i64 0, .int .i64 1, .int .i64 0] 26 (0, 0)) (by (with_reducible repeat (first | refine blk_drewN ?_ _ | refine blk_drew ?_ | refine blk_alloc ?_ _)); exact BK102.out)) : gb110 ≠ gb102)); clear HO109; clear BK102; clear HB; have HO109 := n0_; have BK102 := n1_; have HB := n2_; have BK110 := n3_; have GW110 := n4_; have GE110 := n5_; have NB102_110 := n6_; have NB110_102 := n7_; clear n0_ n1_ n2_ n3_ n4_ n5_ n6_ n7_; clear hb hbox hg; have hnb27 := NB110_102.out; have hnc27 := NB102_110.out; have hcz28_0 : w26.cell? ⟨gb110, 0, none⟩ = some (.string (⟨#[]⟩ : ByteArray)) := (blk_cell BK110.out 0).trans rfl; have hcz28_1 : w26.cell? ⟨gb110, 1, none⟩ = some (.int .i64 0) := (blk_cell BK110.out 1).trans rfl; have hcz28_2 : w26.cell? ⟨gb110, 2, none⟩ = some (.int .i64 0) := (blk_cell BK110.out 2).trans rfl; have hcz28_3 : w26.cell? ⟨gb110, 3, none⟩ = some (.int .i64 0) := (blk_cell BK110.out 3).trans rfl; have hcz28_4 : w26.cell? ⟨gb110, 4, none⟩ = some (.int .i64 0) := (blk_cell BK110.out 4).trans rfl; have hcz28_5 : w26.cell? ⟨gb110, 5, none⟩ = some (.string (⟨#[]⟩ : ByteArray)) := (blk_cell BK110.out 5).trans rfl; have hcz28_6 : w26.cell? ⟨gb110, 6, none⟩ = some (.int .i64 0) := (blk_cell BK110.out 6).trans rfl; have hcz28_7 : w26.cell? ⟨gb110, 7, none⟩ = some (.int .i64 0) := (blk_cell BK110.out 7).trans rfl; have hcz28_8 : w26.cell? ⟨gb110, 8, none⟩ = some (.int .i64 0) := (blk_cell BK110.out 8).trans rfl; have hcz28_9 : w26.cell? ⟨gb110, 9, none⟩ = some (.int .i64 0) := (blk_cell BK110.out 9).trans rfl; have hcz28_10 : w26.cell? ⟨gb110, 10, none⟩ = some (.string (⟨#[]⟩ : ByteArray)) := (blk_cell BK110.out 10).trans rfl; have hfz28_0 := blk_frozen BK110.out 0; have hfz28_1 := blk_frozen BK110.out 1; have hfz28_2 := blk_frozen BK110.out 2; have hfz28_3 := blk_frozen BK110.out 3; have hfz28_4 := blk_frozen BK110.out 4; have hfz28_5 := blk_frozen BK110.out 5; have hfz28_6 := blk_frozen BK110.out 6; have hfz28_7 := blk_frozen BK110.out 7; have hfz28_8 := blk_frozen BK110.out 8; have hfz28_9 := blk_frozen BK110.out 9; have hfz28_10 := blk_frozen BK110.out 10) | ((with_reducible refine gate_callee (f := 24) rfl ?_); refine goesL_ (some 43) rfl rfl Try.func24 (by kernel_rfl) rfl #[] rfl (by (try simp only [List.map_toArray, List.map_cons, List.map_nil]); first | done | rfl | (simp only [List.length_drop, List.length_take]; rfl)) ?_; (with_reducible refine (donjonref4_Bottom.calls  t111 t112 t113 t114 _ A14.out).mono ?_); rintro e w29 ⟨rfl, hb⟩; refine ⟨_, rfl, ?_⟩; have n0_ := Aside0.mk (Kd.R_below (by (with_reducible repeat (first | apply Kd.R_alloc | apply Kd.R_drewN | apply Kd.R_drew)); exact (Kd.R_mono (Kd.R_far (p := ⟨gb110, 10, none⟩) (Kd.R_far (p := ⟨gb110, 9, none⟩) (Kd.R_far (p := ⟨gb110, 8, none⟩) (Kd.R_far (p := ⟨gb110, 7, none⟩) (Kd.R_far (p := ⟨gb110, 6, none⟩) (Kd.R_far (p := ⟨gb110, 5, none⟩) (Kd.R_far (p := ⟨gb110, 4, none⟩) (Kd.R_far (p := ⟨gb110, 3, none⟩) (Kd.R_far (p := ⟨gb110, 2, none⟩) (Kd.R_far (p := ⟨gb110, 1, none⟩) (Kd.R_far (p := ⟨gb110, 0, none⟩) (Kd.R_types HO109.out BK110.out (by decide)) (fun _ hk => hk.2) (.string (⟨#[97]⟩ : ByteArray))) (fun _ hk => hk.2) (.int .i64 2)) (fun _ hk => hk.2) (.int .i64 0)) (fun _ hk => hk.2) (.int .i64 1)) (fun _ hk => hk.2) (.int .i64 0)) (fun _ hk => hk.2) (.string (⟨#[98]⟩ : ByteArray))) (fun _ hk => hk.2) (.int .i64 0)) (fun _ hk => hk.2) (.int .i64 0)) (fun _ hk => hk.2) (.int .i64 0)) (fun _ hk => hk.2) (.int .i64 0)) (fun _ hk => hk.2) (.string ((a1 ++ a0) ++ a2))) (fun _ h_ => h_.1))) hb); have n1_ := Aside0.mk (blk_below (g := gb102) (o := .cells #[.int .i64 2, .int .i64 0, .int .i64 1, .int .i64 0] 26 (0, 0)) (by (with_reducible repeat (first | refine blk_drewN ?_ _ | refine blk_drew ?_ | refine blk_alloc ?_ _)); refine blk_far ?_ NB102_110.out _; (with_reducible repeat (first | refine blk_drewN ?_ _ | refine blk_drew ?_ | refine blk_alloc ?_ _)); refine blk_far ?_ NB102_110.out _; (with_reducible repeat (first | refine blk_drewN ?_ _ | refine blk_drew ?_ | refine blk_alloc ?_ _)); refine blk_far ?_ NB102_110.out _; (with_reducible repeat (first | refine blk_drewN ?_ _ | refine blk_drew ?_ | refine blk_alloc ?_ _)); refine blk_far ?_ NB102_110.out _; (with_reducible repeat (first | refine blk_drewN ?_ _ | refine blk_drew ?_ | refine blk_alloc ?_ _)); refine blk_far ?_ NB102_110.out _; (with_reducible repeat (first | refine blk_drewN ?_ _ | refine blk_drew ?_ | refine blk_alloc ?_ _)); refine blk_far ?_ NB102_110.out _; (with_reducible repeat (first | refine blk_drewN ?_ _ | refine blk_drew ?_ | refine blk_alloc ?_ _)); refine blk_far ?_ NB102_110.out _; (with_reducible repeat (first | refine blk_drewN ?_ _ | refine blk_drew ?_ | refine blk_alloc ?_ _)); refine blk_far ?_ NB102_110.out _; (with_reducible repeat (first | refine blk_drewN ?_ _ | refine blk_drew ?_ | refine blk_alloc ?_ _)); refine blk_far ?_ NB102_110.out _; (with_reducible repeat (first | refine blk_drewN ?_ _ | refine blk_drew ?_ | refine blk_alloc ?_ _)); refine blk_far ?_ NB102_110.out _; (with_reducible repeat (first | refine blk_drewN ?_ _ | refine blk_drew ?_ | refine blk_alloc ?_ _)); refine blk_far ?_ NB102_110.out _; (with_reducible repeat (first | refine blk_drewN ?_ _ | refine blk_drew ?_ | refine blk_alloc ?_ _)); exact BK102.out) hb); have n2_ := Aside0.mk (blk_below (g := gb110) (o := .cells #[.string (⟨#[97]⟩ : ByteArray), .int .i64 2, .int .i64 0, .int .i64 1, .int .i64 0, .string (⟨#[98]⟩ : ByteArray), .int .i64 0, .int .i64 0, .int .i64 0, .int .i64 0, .string ((a1 ++ a0) ++ a2)] 28 (0, 0)) (by (with_reducible repeat (first | refine blk_drewN ?_ _ | refine blk_drew ?_ | refine blk_alloc ?_ _)); refine blk_put (cs := #[.string (⟨#[97]⟩ : ByteArray), .int .i64 2, .int .i64 0, .int .i64 1, .int .i64 0, .string (⟨#[98]⟩ : ByteArray), .int .i64 0, .int .i64 0, .int .i64 0, .int .i64 0, .string (⟨#[]⟩ : ByteArray)]) ?_ 10 _ rfl; (with_reducible repeat (first | refine blk_drewN ?_ _ | refine blk_drew ?_ | refine blk_alloc ?_ _)); refine blk_put (cs := #[.string (⟨#[97]⟩ : ByteArray), .int .i64 2, .int .i64 0, .int .i64 1, .int .i64 0, .string (⟨#[98]⟩ : ByteArray), .int .i64 0, .int .i64 0, .int .i64 0, .int .i64 0, .string (⟨#[]⟩ : ByteArray)]) ?_ 9 _ rfl; (with_reducible repeat (first | refine blk_drewN ?_ _ | refine blk_drew ?_ | refine blk_alloc ?_ _)); refine blk_put (cs := #[.string (⟨#[97]⟩ : ByteArray), .int .i64 2, .int .i64 0, .int .i64 1, .int .i64 0, .string (⟨#[98]⟩ : ByteArray), .int .i64 0, .int .i64 0, .int .i64 0, .int .i64 0, .string (⟨#[]⟩ : ByteArray)]) ?_ 8 _ rfl; (with_reducible repeat (first | refine blk_drewN ?_ _ | refine blk_drew ?_ | refine blk_alloc ?_ _)); refine blk_put (cs := #[.string (⟨#[97]⟩ : ByteArray), .int .i64 2, .int .i64 0, .int .i64 1, .int .i64 0, .string (⟨#[98]⟩ : ByteArray), .int .i64 0, .int .i64 0, .int .i64 0, .int .i64 0, .string (⟨#[]⟩ : ByteArray)]) ?_ 7 _ rfl; (with_reducible repeat (first | refine blk_drewN ?_ _ | refine blk_drew ?_ | refine blk_alloc ?_ _)); refine blk_put (cs := #[.string (⟨#[97]⟩ : ByteArray), .int .i64 2, .int .i64 0, .int .i64 1, .int .i64 0, .string (⟨#[98]⟩ : ByteArray), .int .i64 0, .int .i64 0, .int .i64 0, .int .i64 0, .string (⟨#[]⟩ : ByteArray)]) ?_ 6 _ rfl; (with_reducible repeat (first | refine blk_drewN ?_ _ | refine blk_drew ?_ | refine blk_alloc ?_ _)); refine blk_put (cs := #[.string (⟨#[97]⟩ : ByteArray), .int .i64 2, .int .i64 0, .int .i64 1, .int .i64 0, .string (⟨#[]⟩ : ByteArray), .int .i64 0, .int .i64 0, .int .i64 0, .int .i64 0, .string (⟨#[]⟩ : ByteArray)]) ?_ 5 _ rfl; (with_reducible repeat (first | refine blk_drewN ?_ _ | refine blk_drew ?_ | refine blk_alloc ?_ _)); refine blk_put (cs := #[.string (⟨#[97]⟩ : ByteArray), .int .i64 2, .int .i64 0, .int .i64 1, .int .i64 0, .string (⟨#[]⟩ : ByteArray), .int .i64 0, .int .i64 0, .int .i64 0, .int .i64 0, .string (⟨#[]⟩ : ByteArray)]) ?_ 4 _ rfl; (with_reducible repeat (first | refine blk_drewN ?_ _ | refine blk_drew ?_ | refine blk_alloc ?_ _)); refine blk_put (cs := #[.string (⟨#[97]⟩ : ByteArray), .int .i64 2, .int .i64 0, .int .i64 0, .int .i64 0, .string (⟨#[]⟩ : ByteArray), .int .i64 0, .int .i64 0, .int .i64 0, .int .i64 0, .string (⟨#[]⟩ : ByteArray)]) ?_ 3 _ rfl; (with_reducible repeat (first | refine blk_drewN ?_ _ | refine blk_drew ?_ | refine blk_alloc ?_ _)); refine blk_put (cs := #[.string (⟨#[97]⟩ : ByteArray), .int .i64 2, .int .i64 0, .int .i64 0, .int .i64 0, .string (⟨#[]⟩ : ByteArray), .int .i64 0, .int .i64 0, .int .i64 0, .int .i64 0, .string (⟨#[]⟩ : ByteArray)]) ?_ 2 _ rfl; (with_reducible repeat (first | refine blk_drewN ?_ _ | refine blk_drew ?_ | refine blk_alloc ?_ _)); refine blk_put (cs := #[.string (⟨#[97]⟩ : ByteArray), .int .i64 0, .int .i64 0, .int .i64 0, .int .i64 0, .string (⟨#[]⟩ : ByteArray), .int .i64 0, .int .i64 0, .int .i64 0, .int .i64 0, .string (⟨#[]⟩ : ByteArray)]) ?_ 1 _ rfl; (with_reducible repeat (first | refine blk_drewN ?_ _ | refine blk_drew ?_ | refine blk_alloc ?_ _)); refine blk_put (cs := #[.string (⟨#[]⟩ : ByteArray), .int .i64 0, .int .i64 0, .int .i64 0, .int .i64 0, .string (⟨#[]⟩ : ByteArray), .int .i64 0, .int .i64 0, .int .i64 0, .int .i64 0, .string (⟨#[]⟩ : ByteArray)]) ?_ 0 _ rfl; (with_reducible repeat (first | refine blk_drewN ?_ _ | refine blk_drew ?_ | refine blk_alloc ?_ _)); exact BK110.out) hb); have n3_ := Aside0.mk (below_step (by repeat (first | (with_reducible first | exact HB.out | apply below_alloc | apply pw_below_drewN | apply below_drew1 | refine below_set ?_ GE102.out | refine below_set ?_ GE110.out) | exact HB.out)) hb); clear HO109; clear BK102; clear BK110; clear HB; have HO109 := n0_; have BK102 := n1_; have BK110 := n2_; have HB := n3_; clear n0_ n1_ n2_ n3_; (try clear hb); (try clear hb2); (try clear hk); (try clear hi); have hcz30_0 : w29.cell? ⟨gb110, 0, none⟩ = some (.string (⟨#[97]⟩ : ByteArray)) := (blk_cell BK110.out 0).trans rfl; have hcz30_1 : w29.cell? ⟨gb110, 1, none⟩ = some (.int .i64 2) := (blk_cell BK110.out 1).trans rfl; have hcz30_2 : w29.cell? ⟨gb110, 2, none⟩ = some (.int .i64 0) := (blk_cell BK110.out 2).trans rfl; have hcz30_3 : w29.cell? ⟨gb110, 3, none⟩ = some (.int .i64 1) := (blk_cell BK110.out 3).trans rfl; have hcz30_4 : w29.cell? ⟨gb110, 4, none⟩ = some (.int .i64 0) := (blk_cell BK110.out 4).trans rfl; have hcz30_5 : w29.cell? ⟨gb110, 5, none⟩ = some (.string (⟨#[98]⟩ : ByteArray)) := (blk_cell BK110.out 5).trans rfl; have hcz30_6 : w29.cell? ⟨gb110, 6, none⟩ = some (.int .i64 0) := (blk_cell BK110.out 6).trans rfl; have hcz30_7 : w29.cell? ⟨gb110, 7, none⟩ = some (.int .i64 0) := (blk_cell BK110.out 7).trans rfl; have hcz30_8 : w29.cell? ⟨gb110, 8, none⟩ = some (.int .i64 0) := (blk_cell BK110.out 8).trans rfl; have hcz30_9 : w29.cell? ⟨gb110, 9, none⟩ = some (.int .i64 0) := (blk_cell BK110.out 9).trans rfl; have hcz30_10 : w29.cell? ⟨gb110, 10, none⟩ = some (.string ((a1 ++ a0) ++ a2)) := (blk_cell BK110.out 10).trans rfl; have hfz30_0 := blk_frozen BK110.out 0; have hfz30_1 := blk_frozen BK110.out 1; have hfz30_2 := blk_frozen BK110.out 2; have hfz30_3 := blk_frozen BK110.out 3; have hfz30_4 := blk_frozen BK110.out 4; have hfz30_5 := blk_frozen BK110.out 5; have hfz30_6 := blk_frozen BK110.out 6; have hfz30_7 := blk_frozen BK110.out 7; have hfz30_8 := blk_frozen BK110.out 8; have hfz30_9 := blk_frozen BK110.out 9; have hfz30_10 := blk_frozen BK110.out 10; obtain ⟨Ao31, co31, eo31⟩ := Kd.R_slice HO109.out; subst eo31) | ((with_reducible refine gate_callee (f := 21) rfl ?_); refine goesL_ (some 47) rfl rfl Try.func21 (by kernel_rfl) rfl #[.slice Ao31 y107.length co31, .agg #[.string (⟨#[97]⟩ : ByteArray), .int .i64 2, .int .i64 0, .int .i64 1, .int .i64 0, .string (⟨#[98]⟩ : ByteArray), .int .i64 t111, .int .i64 t112, .int .i64 t113, .int .i64 t114, .string ((a1 ++ a0) ++ a2)]] rfl (by (try simp only [List.map_toArray, List.map_cons, List.map_nil]); first | done | rfl | (simp only [List.length_drop, List.length_take]; rfl)) ?_; (with_reducible refine (mail_Release.calls kj5 _ _ y107 (⟨#[97]⟩ : ByteArray) 2 0 1 0 (⟨#[98]⟩ : ByteArray) t111 t112 t113 t114 ((a1 ++ a0) ++ a2) t115 _ (by first | exact HG.out | exact MaxAt.below HG.out (by repeat (first | (with_reducible first | exact HB.out | apply below_alloc | apply pw_below_drewN | apply below_drew1 | refine below_set ?_ (Aside0.out (by assumption))) | exact HB.out))) ?side1 ?side2 A15.out).mono ?_); (case side1 => refine (Kd.R_reads' (e := 44) (base := w.heap.size) (ok := fun k_ => True) (n := y107.length) (c := co31) ?_).2.2; exact (by (with_reducible repeat (first | apply Kd.R_alloc | apply Kd.R_drewN | apply Kd.R_drew)); exact (Kd.R_mono (Kd.R_far (p := ⟨gb110, 9, none⟩) (Kd.R_far (p := ⟨gb110, 8, none⟩) (Kd.R_far (p := ⟨gb110, 7, none⟩) (Kd.R_far (p := ⟨gb110, 6, none⟩) (Kd.R_types HO109.out BK110.out (by decide)) (fun _ hk => hk.2) (.int .i64 t111)) (fun _ hk => hk.2) (.int .i64 t112)) (fun _ hk => hk.2) (.int .i64 t113)) (fun _ hk => hk.2) (.int .i64 t114)) (fun _ h_ => h_.1)))); (case side2 => exact (Kd.R_reads' HO109.out).2.1); rintro e w32 ⟨rfl, hb⟩; refine ⟨_, rfl, ?_⟩; have n0_ := Aside0.mk (Kd.R_below (by (with_reducible repeat (first | apply Kd.R_alloc | apply Kd.R_drewN | apply Kd.R_drew)); exact (Kd.R_mono (Kd.R_far (p := ⟨gb110, 9, none⟩) (Kd.R_far (p := ⟨gb110, 8, none⟩) (Kd.R_far (p := ⟨gb110, 7, none⟩) (Kd.R_far (p := ⟨gb110, 6, none⟩) (Kd.R_types HO109.out BK110.out (by decide)) (fun _ hk => hk.2) (.int .i64 t111)) (fun _ hk => hk.2) (.int .i64 t112)) (fun _ hk => hk.2) (.int .i64 t113)) (fun _ hk => hk.2) (.int .i64 t114)) (fun _ h_ => h_.1))) hb); have n1_ := Aside0.mk (blk_below (g := gb102) (o := .cells #[.int .i64 2, .int .i64 0, .int .i64 1, .int .i64 0] 26 (0, 0)) (by (with_reducible repeat (first | refine blk_drewN ?_ _ | refine blk_drew ?_ | refine blk_alloc ?_ _)); refine blk_far ?_ NB102_110.out _; (with_reducible repeat (first | refine blk_drewN ?_ _ | refine blk_drew ?_ | refine blk_alloc ?_ _)); refine blk_far ?_ NB102_110.out _; (with_reducible repeat (first | refine blk_drewN ?_ _ | refine blk_drew ?_ | refine blk_alloc ?_ _)); refine blk_far ?_ NB102_110.out _; (with_reducible repeat (first | refine blk_drewN ?_ _ | refine blk_drew ?_ | refine blk_alloc ?_ _)); refine blk_far ?_ NB102_110.out _; (with_reducible repeat (first | refine blk_drewN ?_ _ | refine blk_drew ?_ | refine blk_alloc ?_ _)); exact BK102.out) hb); have n2_ := Aside0.mk (blk_below (g := gb110) (o := .cells #[.string (⟨#[97]⟩ : ByteArray), .int .i64 2, .int .i64 0, .int .i64 1, .int .i64 0, .string (⟨#[98]⟩ : ByteArray), .int .i64 t111, .int .i64 t112, .int .i64 t113, .int .i64 t114, .string ((a1 ++ a0) ++ a2)] 28 (0, 0)) (by (with_reducible repeat (first | refine blk_drewN ?_ _ | refine blk_drew ?_ | refine blk_alloc ?_ _)); refine blk_put (cs := #[.string (⟨#[97]⟩ : ByteArray), .int .i64 2, .int .i64 0, .int .i64 1, .int .i64 0, .string (⟨#[98]⟩ : ByteArray), .int .i64 t111, .int .i64 t112, .int .i64 t113, .int .i64 0, .string ((a1 ++ a0) ++ a2)]) ?_ 9 _ rfl; (with_reducible repeat (first | refine blk_drewN ?_ _ | refine blk_drew ?_ | refine blk_alloc ?_ _)); refine blk_put (cs := #[.string (⟨#[97]⟩ : ByteArray), .int .i64 2, .int .i64 0, .int .i64 1, .int .i64 0, .string (⟨#[98]⟩ : ByteArray), .int .i64 t111, .int .i64 t112, .int .i64 0, .int .i64 0, .string ((a1 ++ a0) ++ a2)]) ?_ 8 _ rfl; (with_reducible repeat (first | refine blk_drewN ?_ _ | refine blk_drew ?_ | refine blk_alloc ?_ _)); refine blk_put (cs := #[.string (⟨#[97]⟩ : ByteArray), .int .i64 2, .int .i64 0, .int .i64 1, .int .i64 0, .string (⟨#[98]⟩ : ByteArray), .int .i64 t111, .int .i64 0, .int .i64 0, .int .i64 0, .string ((a1 ++ a0) ++ a2)]) ?_ 7 _ rfl; (with_reducible repeat (first | refine blk_drewN ?_ _ | refine blk_drew ?_ | refine blk_alloc ?_ _)); refine blk_put (cs := #[.string (⟨#[97]⟩ : ByteArray), .int .i64 2, .int .i64 0, .int .i64 1, .int .i64 0, .string (⟨#[98]⟩ : ByteArray), .int .i64 0, .int .i64 0, .int .i64 0, .int .i64 0, .string ((a1 ++ a0) ++ a2)]) ?_ 6 _ rfl; (with_reducible repeat (first | refine blk_drewN ?_ _ | refine blk_drew ?_ | refine blk_alloc ?_ _)); exact BK110.out) hb); have n3_ := Aside0.mk (below_step (by repeat (first | (with_reducible first | exact HB.out | apply below_alloc | apply pw_below_drewN | apply below_drew1 | refine below_set ?_ GE102.out | refine below_set ?_ GE110.out) | exact HB.out)) hb); clear HO109; clear BK102; clear BK110; clear HB; have HO109 := n0_; have BK102 := n1_; have BK110 := n2_; have HB := n3_; clear n0_ n1_ n2_ n3_; (try clear hb); (try clear hb2); (try clear hk); (try clear hi); have hcz33_0 : w32.cell? ⟨gb110, 0, none⟩ = some (.string (⟨#[97]⟩ : ByteArray)) := (blk_cell BK110.out 0).trans rfl; have hcz33_1 : w32.cell? ⟨gb110, 1, none⟩ = some (.int .i64 2) := (blk_cell BK110.out 1).trans rfl; have hcz33_2 : w32.cell? ⟨gb110, 2, none⟩ = some (.int .i64 0) := (blk_cell BK110.out 2).trans rfl; have hcz33_3 : w32.cell? ⟨gb110, 3, none⟩ = some (.int .i64 1) := (blk_cell BK110.out 3).trans rfl; have hcz33_4 : w32.cell? ⟨gb110, 4, none⟩ = some (.int .i64 0) := (blk_cell BK110.out 4).trans rfl; have hcz33_5 : w32.cell? ⟨gb110, 5, none⟩ = some (.string (⟨#[98]⟩ : ByteArray)) := (blk_cell BK110.out 5).trans rfl; have hcz33_6 : w32.cell? ⟨gb110, 6, none⟩ = some (.int .i64 t111) := (blk_cell BK110.out 6).trans rfl; have hcz33_7 : w32.cell? ⟨gb110, 7, none⟩ = some (.int .i64 t112) := (blk_cell BK110.out 7).trans rfl; have hcz33_8 : w32.cell? ⟨gb110, 8, none⟩ = some (.int .i64 t113) := (blk_cell BK110.out 8).trans rfl; have hcz33_9 : w32.cell? ⟨gb110, 9, none⟩ = some (.int .i64 t114) := (blk_cell BK110.out 9).trans rfl; have hcz33_10 : w32.cell? ⟨gb110, 10, none⟩ = some (.string ((a1 ++ a0) ++ a2)) := (blk_cell BK110.out 10).trans rfl; have hfz33_0 := blk_frozen BK110.out 0; have hfz33_1 := blk_frozen BK110.out 1; have hfz33_2 := blk_frozen BK110.out 2; have hfz33_3 := blk_frozen BK110.out 3; have hfz33_4 := blk_frozen BK110.out 4; have hfz33_5 := blk_frozen BK110.out 5; have hfz33_6 := blk_frozen BK110.out 6; have hfz33_7 := blk_frozen BK110.out 7; have hfz33_8 := blk_frozen BK110.out 8; have hfz33_9 := blk_frozen BK110.out 9; have hfz33_10 := blk_frozen BK110.out 10))
                  go_loopg [10, 11] kj5 (fun kq v10 v11 w' => ∃ (x10_2 : Bool) (x11_2 : Int), v10 = .bool x10_2 ∧ v11 = .int .i64 x11_2 ∧ Aside0 (donjonlaw18_MailWords.l0 kq a0 y107 x10_2 x11_2 (⟨#[97]⟩ : ByteArray) 2 0 1 0 (⟨#[98]⟩ : ByteArray) t111 t112 t113 t114 (a1 ++ a2) = some r) ∧ Aside0 (kq ≤ kj5) ∧ Aside0 (Kd.R k44 44 w' w.heap.size (fun _ => True) (.slice Ao31 y107.length co31) y107) ∧ Aside0 (w'.heap[gb102]? = some (.cells #[.int .i64 2, .int .i64 0, .int .i64 1, .int .i64 0] 26 (0, 0))) ∧ Aside0 (w'.heap[gb110]? = some (.cells #[.string (⟨#[97]⟩ : ByteArray), .int .i64 2, .int .i64 0, .int .i64 1, .int .i64 0, .string (⟨#[98]⟩ : ByteArray), .int .i64 t111, .int .i64 t112, .int .i64 t113, .int .i64 t114, .string (a1 ++ a2)] 28 (0, 0))) ∧ Aside0 (Below w.heap.size w w'))
                  case atStart => exact ⟨(false), (0), (by first | rfl | (simp; done) | (simp [*]; done)), (by first | rfl | (simp; done) | (simp [*]; done)), H', ⟨Nat.le_refl _⟩, ⟨by (with_reducible repeat (first | apply Kd.R_alloc | apply Kd.R_drewN | apply Kd.R_drew)); exact Kd.R_mono (Kd.R_far (p := ⟨gb110, 10, none⟩) (Kd.R_types HO109.out BK110.out (by decide)) (fun _ hk => hk.2) (.string (a1 ++ a2))) (fun _ hk => trivial)⟩, ⟨by (with_reducible repeat (first | refine blk_drewN ?_ _ | refine blk_drew ?_ | refine blk_alloc ?_ _)); refine blk_far ?_ NB102_110.out _; (with_reducible repeat (first | refine blk_drewN ?_ _ | refine blk_drew ?_ | refine blk_alloc ?_ _)); exact BK102.out⟩, ⟨by (with_reducible repeat (first | refine blk_drewN ?_ _ | refine blk_drew ?_ | refine blk_alloc ?_ _)); refine blk_put (cs := #[.string (⟨#[97]⟩ : ByteArray), .int .i64 2, .int .i64 0, .int .i64 1, .int .i64 0, .string (⟨#[98]⟩ : ByteArray), .int .i64 t111, .int .i64 t112, .int .i64 t113, .int .i64 t114, .string ((a1 ++ a0) ++ a2)]) ?_ 10 _ rfl; (with_reducible repeat (first | refine blk_drewN ?_ _ | refine blk_drew ?_ | refine blk_alloc ?_ _)); exact BK110.out⟩, ⟨by repeat (first | (with_reducible first | exact HB.out | apply below_alloc | apply pw_below_drewN | apply below_drew1 | refine below_set ?_ GE102.out | refine below_set ?_ GE110.out) | exact HB.out)⟩⟩
                  case round =>
                    clear H'
                    try clear c1
                    try clear c2
                    try clear p2
                    try clear c5
                    try clear p6
                    try clear c7
                    try clear c8
                    try clear c8b0
                    try clear c8b1
                    try clear c9
                    try clear c9b0
                    try clear c9b1
                    try clear c10
                    try clear c12
                    try clear c12b0
                    try clear c12b1
                    try clear c12b2
                    try clear c13
                    try clear c13b0
                    try clear c13b1
                    try clear c13b2
                    try clear c16
                    try clear c16b0
                    try clear c16b1
                    try clear c17
                    try clear c17b0
                    try clear c17b1
                    try clear c17b2
                    try clear c21
                    try clear c24
                    try clear c27
                    try clear hcz19_0
                    try clear hcz19_1
                    try clear hcz19_2
                    try clear hcz19_3
                    try clear hcz25_0
                    try clear hcz25_1
                    try clear hcz25_2
                    try clear hcz25_3
                    try clear hcz28_0
                    try clear hcz28_1
                    try clear hcz28_10
                    try clear hcz28_2
                    try clear hcz28_3
                    try clear hcz28_4
                    try clear hcz28_5
                    try clear hcz28_6
                    try clear hcz28_7
                    try clear hcz28_8
                    try clear hcz28_9
                    try clear hcz30_0
                    try clear hcz30_1
                    try clear hcz30_10
                    try clear hcz30_2
                    try clear hcz30_3
                    try clear hcz30_4
                    try clear hcz30_5
                    try clear hcz30_6
                    try clear hcz30_7
                    try clear hcz30_8
                    try clear hcz30_9
                    try clear hcz33_0
                    try clear hcz33_1
                    try clear hcz33_10
                    try clear hcz33_2
                    try clear hcz33_3
                    try clear hcz33_4
                    try clear hcz33_5
                    try clear hcz33_6
                    try clear hcz33_7
                    try clear hcz33_8
                    try clear hcz33_9
                    try clear hfz19_0
                    try clear hfz19_1
                    try clear hfz19_2
                    try clear hfz19_3
                    try clear hfz25_0
                    try clear hfz25_1
                    try clear hfz25_2
                    try clear hfz25_3
                    try clear hfz28_0
                    try clear hfz28_1
                    try clear hfz28_10
                    try clear hfz28_2
                    try clear hfz28_3
                    try clear hfz28_4
                    try clear hfz28_5
                    try clear hfz28_6
                    try clear hfz28_7
                    try clear hfz28_8
                    try clear hfz28_9
                    try clear hfz30_0
                    try clear hfz30_1
                    try clear hfz30_10
                    try clear hfz30_2
                    try clear hfz30_3
                    try clear hfz30_4
                    try clear hfz30_5
                    try clear hfz30_6
                    try clear hfz30_7
                    try clear hfz30_8
                    try clear hfz30_9
                    try clear hfz33_0
                    try clear hfz33_1
                    try clear hfz33_10
                    try clear hfz33_2
                    try clear hfz33_3
                    try clear hfz33_4
                    try clear hfz33_5
                    try clear hfz33_6
                    try clear hfz33_7
                    try clear hfz33_8
                    try clear hfz33_9
                    try clear p2
                    try clear p6
                    obtain ⟨x10_2, x11_2, rfl, rfl, HA, HK2, HO_8, BK102, BK110, HB⟩ := hrel
                    cases gk with
                    | zero => exact absurd HA.out (by simp [donjonlaw18_MailWords.l0])
                    | succ k2 =>
                      have H := HA.out
                      clear HA
                      simp only [donjonlaw18_MailWords.l0] at H
                      by_cases c34 : (wrap64 (x11_2 + (a0.size : Int))) ≤ ((a1 ++ a2).size : Int)
                      · rw [if_pos c34] at H
                        have c34b0 : decide ((wrap64 (x11_2 + (a0.size : Int))) ≤ ((a1 ++ a2).size : Int)) = true := decide_eq_true c34
                        (try (have c34b09 := c34b0; simp only [ByteArray.size_append, Int.natCast_add] at c34b09))
                        clear c34
                        by_cases c35 : x10_2 = true
                        · subst c35
                          have H1 : (donjonlaw18_MailWords.l0 k2 a0 y107 true (wrap64 (x11_2 + 1)) (⟨#[97]⟩ : ByteArray) 2 0 1 0 (⟨#[98]⟩ : ByteArray) t111 t112 t113 t114 (a1 ++ a2)) = some r := by rw [if_pos rfl] at H; exact H
                          clear H
                          have H := H1
                          clear H1
                          have H' := Aside0.mk H
                          clear H
                          have hnb36 := NB110_102.out
                          have hnc36 := NB102_110.out
                          have hcz37_0 : wr.cell? ⟨gb110, 0, none⟩ = some (.string (⟨#[97]⟩ : ByteArray)) := (blk_cell BK110.out 0).trans rfl
                          have hcz37_1 : wr.cell? ⟨gb110, 1, none⟩ = some (.int .i64 2) := (blk_cell BK110.out 1).trans rfl
                          have hcz37_2 : wr.cell? ⟨gb110, 2, none⟩ = some (.int .i64 0) := (blk_cell BK110.out 2).trans rfl
                          have hcz37_3 : wr.cell? ⟨gb110, 3, none⟩ = some (.int .i64 1) := (blk_cell BK110.out 3).trans rfl
                          have hcz37_4 : wr.cell? ⟨gb110, 4, none⟩ = some (.int .i64 0) := (blk_cell BK110.out 4).trans rfl
                          have hcz37_5 : wr.cell? ⟨gb110, 5, none⟩ = some (.string (⟨#[98]⟩ : ByteArray)) := (blk_cell BK110.out 5).trans rfl
                          have hcz37_6 : wr.cell? ⟨gb110, 6, none⟩ = some (.int .i64 t111) := (blk_cell BK110.out 6).trans rfl
                          have hcz37_7 : wr.cell? ⟨gb110, 7, none⟩ = some (.int .i64 t112) := (blk_cell BK110.out 7).trans rfl
                          have hcz37_8 : wr.cell? ⟨gb110, 8, none⟩ = some (.int .i64 t113) := (blk_cell BK110.out 8).trans rfl
                          have hcz37_9 : wr.cell? ⟨gb110, 9, none⟩ = some (.int .i64 t114) := (blk_cell BK110.out 9).trans rfl
                          have hcz37_10 : wr.cell? ⟨gb110, 10, none⟩ = some (.string (a1 ++ a2)) := (blk_cell BK110.out 10).trans rfl
                          have hfz37_0 := blk_frozen BK110.out 0
                          have hfz37_1 := blk_frozen BK110.out 1
                          have hfz37_2 := blk_frozen BK110.out 2
                          have hfz37_3 := blk_frozen BK110.out 3
                          have hfz37_4 := blk_frozen BK110.out 4
                          have hfz37_5 := blk_frozen BK110.out 5
                          have hfz37_6 := blk_frozen BK110.out 6
                          have hfz37_7 := blk_frozen BK110.out 7
                          have hfz37_8 := blk_frozen BK110.out 8
                          have hfz37_9 := blk_frozen BK110.out 9
                          have hfz37_10 := blk_frozen BK110.out 10
                          go_wp2
                          go_roundg k2
                          case measure => have := HJ5.out; have := HK2.out; omega
                          case rel => exact ⟨(true), (wrap64 (x11_2 + 1)), (by first | rfl | (simp; done) | (simp [*]; done)), (by first | rfl | (simp; done) | (simp [*]; done)), H', ⟨by have := HJ5.out; have := HK2.out; omega⟩, ⟨by (with_reducible repeat (first | apply Kd.R_alloc | apply Kd.R_drewN | apply Kd.R_drew)); exact HO_8.out⟩, ⟨by (with_reducible repeat (first | refine blk_drewN ?_ _ | refine blk_drew ?_ | refine blk_alloc ?_ _)); exact BK102.out⟩, ⟨by (with_reducible repeat (first | refine blk_drewN ?_ _ | refine blk_drew ?_ | refine blk_alloc ?_ _)); exact BK110.out⟩, ⟨by repeat (first | (with_reducible first | exact HB.out | apply below_alloc | apply pw_below_drewN | apply below_drew1 | refine below_set ?_ GE102.out | refine below_set ?_ GE110.out) | exact HB.out)⟩⟩
                        · replace c35 := Bool.eq_false_iff.mpr c35
                          subst c35
                          have H1 : (if 0 ≤ x11_2 then (if x11_2 ≤ (wrap64 (x11_2 + (a0.size : Int))) then (donjonlaw18_MailWords.l0 k2 a0 y107 (((a1 ++ a2).extract (x11_2 : Int).toNat ((wrap64 (x11_2 + (a0.size : Int))) : Int).toNat).toList == a0.toList) (wrap64 (x11_2 + 1)) (⟨#[97]⟩ : ByteArray) 2 0 1 0 (⟨#[98]⟩ : ByteArray) t111 t112 t113 t114 (a1 ++ a2)) else (none)) else (none)) = some r := by rw [if_neg (show ¬ (false = true) by decide)] at H; exact H
                          clear H
                          have H := H1
                          clear H1
                          by_cases c38 : 0 ≤ x11_2
                          · rw [if_pos c38] at H
                            have c38b0 := eq_true c38
                            have c38b1 : decide (0 ≤ x11_2) = true := decide_eq_true c38
                            clear c38
                            by_cases c39 : x11_2 ≤ (wrap64 (x11_2 + (a0.size : Int)))
                            · rw [if_pos c39] at H
                              have c39b0 := eq_true c39
                              have c39b1 : decide (x11_2 ≤ (wrap64 (x11_2 + (a0.size : Int)))) = true := decide_eq_true c39
                              have c40b0 := eq_true (of_decide_eq_true (by first | (with_reducible assumption) | assumption) : (wrap64 (x11_2 + (a0.size : Int))) ≤ ((a1 ++ a2).size : Int))
                              (try (have c40b09 := c40b0; simp only [ByteArray.size_append, Int.natCast_add] at c40b09))
                              have H' := Aside0.mk H
                              clear H
                              have hnb41 := NB110_102.out
                              have hnc41 := NB102_110.out
                              have hcz42_0 : wr.cell? ⟨gb110, 0, none⟩ = some (.string (⟨#[97]⟩ : ByteArray)) := (blk_cell BK110.out 0).trans rfl
                              have hcz42_1 : wr.cell? ⟨gb110, 1, none⟩ = some (.int .i64 2) := (blk_cell BK110.out 1).trans rfl
                              have hcz42_2 : wr.cell? ⟨gb110, 2, none⟩ = some (.int .i64 0) := (blk_cell BK110.out 2).trans rfl
                              have hcz42_3 : wr.cell? ⟨gb110, 3, none⟩ = some (.int .i64 1) := (blk_cell BK110.out 3).trans rfl
                              have hcz42_4 : wr.cell? ⟨gb110, 4, none⟩ = some (.int .i64 0) := (blk_cell BK110.out 4).trans rfl
                              have hcz42_5 : wr.cell? ⟨gb110, 5, none⟩ = some (.string (⟨#[98]⟩ : ByteArray)) := (blk_cell BK110.out 5).trans rfl
                              have hcz42_6 : wr.cell? ⟨gb110, 6, none⟩ = some (.int .i64 t111) := (blk_cell BK110.out 6).trans rfl
                              have hcz42_7 : wr.cell? ⟨gb110, 7, none⟩ = some (.int .i64 t112) := (blk_cell BK110.out 7).trans rfl
                              have hcz42_8 : wr.cell? ⟨gb110, 8, none⟩ = some (.int .i64 t113) := (blk_cell BK110.out 8).trans rfl
                              have hcz42_9 : wr.cell? ⟨gb110, 9, none⟩ = some (.int .i64 t114) := (blk_cell BK110.out 9).trans rfl
                              have hcz42_10 : wr.cell? ⟨gb110, 10, none⟩ = some (.string (a1 ++ a2)) := (blk_cell BK110.out 10).trans rfl
                              have hfz42_0 := blk_frozen BK110.out 0
                              have hfz42_1 := blk_frozen BK110.out 1
                              have hfz42_2 := blk_frozen BK110.out 2
                              have hfz42_3 := blk_frozen BK110.out 3
                              have hfz42_4 := blk_frozen BK110.out 4
                              have hfz42_5 := blk_frozen BK110.out 5
                              have hfz42_6 := blk_frozen BK110.out 6
                              have hfz42_7 := blk_frozen BK110.out 7
                              have hfz42_8 := blk_frozen BK110.out 8
                              have hfz42_9 := blk_frozen BK110.out 9
                              have hfz42_10 := blk_frozen BK110.out 10
                              go_wp2
                              go_roundg k2
                              case measure => have := HJ5.out; have := HK2.out; omega
                              case rel => exact ⟨((((a1 ++ a2).extract (x11_2 : Int).toNat ((wrap64 (x11_2 + (a0.size : Int))) : Int).toNat).toList == a0.toList)), (wrap64 (x11_2 + 1)), (by first | rfl | (simp; done) | (simp [*]; done)), (by first | rfl | (simp; done) | (simp [*]; done)), H', ⟨by have := HJ5.out; have := HK2.out; omega⟩, ⟨by (with_reducible repeat (first | apply Kd.R_alloc | apply Kd.R_drewN | apply Kd.R_drew)); exact HO_8.out⟩, ⟨by (with_reducible repeat (first | refine blk_drewN ?_ _ | refine blk_drew ?_ | refine blk_alloc ?_ _)); exact BK102.out⟩, ⟨by (with_reducible repeat (first | refine blk_drewN ?_ _ | refine blk_drew ?_ | refine blk_alloc ?_ _)); exact BK110.out⟩, ⟨by repeat (first | (with_reducible first | exact HB.out | apply below_alloc | apply pw_below_drewN | apply below_drew1 | refine below_set ?_ GE102.out | refine below_set ?_ GE110.out) | exact HB.out)⟩⟩
                            · rw [if_neg c39] at H
                              exact absurd H (by simp)
                          · rw [if_neg c38] at H
                            exact absurd H (by simp)
                      · rw [if_neg c34] at H
                        have c34b0 : decide ((wrap64 (x11_2 + (a0.size : Int))) ≤ ((a1 ++ a2).size : Int)) = false := decide_eq_false c34
                        (try (have c34b09 := c34b0; simp only [ByteArray.size_append, Int.natCast_add] at c34b09))
                        clear c34
                        replace H := Option.bind_eq_some_iff.mp H
                        obtain ⟨t116, A430, H⟩ := H
                        replace H : (some ((t116 == 6) == x10_2)) = some r := H
                        have A43 := Aside0.mk A430
                        clear A430
                        obtain rfl := Option.some.inj H
                        have hnb44 := NB110_102.out
                        have hnc44 := NB102_110.out
                        have hcz45_0 : wr.cell? ⟨gb110, 0, none⟩ = some (.string (⟨#[97]⟩ : ByteArray)) := (blk_cell BK110.out 0).trans rfl
                        have hcz45_1 : wr.cell? ⟨gb110, 1, none⟩ = some (.int .i64 2) := (blk_cell BK110.out 1).trans rfl
                        have hcz45_2 : wr.cell? ⟨gb110, 2, none⟩ = some (.int .i64 0) := (blk_cell BK110.out 2).trans rfl
                        have hcz45_3 : wr.cell? ⟨gb110, 3, none⟩ = some (.int .i64 1) := (blk_cell BK110.out 3).trans rfl
                        have hcz45_4 : wr.cell? ⟨gb110, 4, none⟩ = some (.int .i64 0) := (blk_cell BK110.out 4).trans rfl
                        have hcz45_5 : wr.cell? ⟨gb110, 5, none⟩ = some (.string (⟨#[98]⟩ : ByteArray)) := (blk_cell BK110.out 5).trans rfl
                        have hcz45_6 : wr.cell? ⟨gb110, 6, none⟩ = some (.int .i64 t111) := (blk_cell BK110.out 6).trans rfl
                        have hcz45_7 : wr.cell? ⟨gb110, 7, none⟩ = some (.int .i64 t112) := (blk_cell BK110.out 7).trans rfl
                        have hcz45_8 : wr.cell? ⟨gb110, 8, none⟩ = some (.int .i64 t113) := (blk_cell BK110.out 8).trans rfl
                        have hcz45_9 : wr.cell? ⟨gb110, 9, none⟩ = some (.int .i64 t114) := (blk_cell BK110.out 9).trans rfl
                        have hcz45_10 : wr.cell? ⟨gb110, 10, none⟩ = some (.string (a1 ++ a2)) := (blk_cell BK110.out 10).trans rfl
                        have hfz45_0 := blk_frozen BK110.out 0
                        have hfz45_1 := blk_frozen BK110.out 1
                        have hfz45_2 := blk_frozen BK110.out 2
                        have hfz45_3 := blk_frozen BK110.out 3
                        have hfz45_4 := blk_frozen BK110.out 4
                        have hfz45_5 := blk_frozen BK110.out 5
                        have hfz45_6 := blk_frozen BK110.out 6
                        have hfz45_7 := blk_frozen BK110.out 7
                        have hfz45_8 := blk_frozen BK110.out 8
                        have hfz45_9 := blk_frozen BK110.out 9
                        have hfz45_10 := blk_frozen BK110.out 10
                        go_wp2_with (first | ((with_reducible refine gate_callee (f := 21) rfl ?_); refine goesL_ (some 78) rfl rfl Try.func21 (by kernel_rfl) rfl #[.slice Ao31 y107.length co31, .agg #[.string (⟨#[97]⟩ : ByteArray), .int .i64 2, .int .i64 0, .int .i64 1, .int .i64 0, .string (⟨#[98]⟩ : ByteArray), .int .i64 t111, .int .i64 t112, .int .i64 t113, .int .i64 t114, .string (a1 ++ a2)]] rfl (by (try simp only [List.map_toArray, List.map_cons, List.map_nil]); first | done | rfl | (simp only [List.length_drop, List.length_take]; rfl)) ?_; (with_reducible refine (mail_Release.calls k2 _ _ y107 (⟨#[97]⟩ : ByteArray) 2 0 1 0 (⟨#[98]⟩ : ByteArray) t111 t112 t113 t114 (a1 ++ a2) t116 _ (by first | exact HG.out | exact MaxAt.below HG.out (by repeat (first | (with_reducible first | exact HB.out | apply below_alloc | apply pw_below_drewN | apply below_drew1 | refine below_set ?_ (Aside0.out (by assumption))) | exact HB.out))) ?side1 ?side2 A43.out).mono ?_); (case side1 => repeat (first | exact (Kd.R_reads' HO_8.out).2.2 | (with_reducible refine Kd.C_alloc ?_ _) | (with_reducible refine Kd.C_drewN ?_ _) | (with_reducible refine Kd.C_drew ?_))); (case side2 => exact (Kd.R_reads' HO_8.out).2.1); rintro e w46 ⟨rfl, hb⟩; refine ⟨_, rfl, ?_⟩; have n0_ := Aside0.mk (Kd.R_below (by (with_reducible repeat (first | apply Kd.R_alloc | apply Kd.R_drewN | apply Kd.R_drew)); exact HO_8.out) hb); have n1_ := Aside0.mk (blk_below (g := gb102) (o := .cells #[.int .i64 2, .int .i64 0, .int .i64 1, .int .i64 0] 26 (0, 0)) (by (with_reducible repeat (first | refine blk_drewN ?_ _ | refine blk_drew ?_ | refine blk_alloc ?_ _)); exact BK102.out) hb); have n2_ := Aside0.mk (blk_below (g := gb110) (o := .cells #[.string (⟨#[97]⟩ : ByteArray), .int .i64 2, .int .i64 0, .int .i64 1, .int .i64 0, .string (⟨#[98]⟩ : ByteArray), .int .i64 t111, .int .i64 t112, .int .i64 t113, .int .i64 t114, .string (a1 ++ a2)] 28 (0, 0)) (by (with_reducible repeat (first | refine blk_drewN ?_ _ | refine blk_drew ?_ | refine blk_alloc ?_ _)); exact BK110.out) hb); have n3_ := Aside0.mk (below_step (by repeat (first | (with_reducible first | exact HB.out | apply below_alloc | apply pw_below_drewN | apply below_drew1 | refine below_set ?_ GE102.out | refine below_set ?_ GE110.out) | exact HB.out)) hb); clear HO_8; clear BK102; clear BK110; clear HB; have HO_8 := n0_; have BK102 := n1_; have BK110 := n2_; have HB := n3_; clear n0_ n1_ n2_ n3_; (try clear hb); (try clear hb2); (try clear hk); (try clear hi)))
                        go_ret
                        exact ⟨by first | rfl | (simp [errW_none, errW_some] <;> rfl) | (simp [*, errW_none, errW_some] <;> rfl), by repeat (first | (with_reducible first | exact HB.out | apply below_alloc | apply pw_below_drewN | apply below_drew1 | refine below_set ?_ GE102.out | refine below_set ?_ GE110.out) | exact HB.out)⟩
                · rw [if_neg c17] at H
                  exact absurd H (by simp)
              · rw [if_neg c16] at H
                have c16b0 : (t115 == 6) = false := beq_eq_false_iff_ne.mpr c16
                have c16b1 : (t115 != 6) = true := bne_iff_ne.mpr c16
                obtain rfl := Option.some.inj H
                exact absurd HRT.out (by decide)
            · rw [if_neg c13] at H
              exact absurd H (by simp)
          · rw [if_neg c12] at H
            exact absurd H (by simp)
  · replace c5 := Bool.eq_false_iff.mpr c5
    subst c5
    have H1 : (some false) = some r := by rw [if_neg (show ¬ (false = true) by decide)] at H; exact H
    clear H
    have H := H1
    clear H1
    obtain rfl := Option.some.inj H
    exact absurd HRT.out (by decide)

end Go.Proofs.Ytdbnjjkapelekaa.X
