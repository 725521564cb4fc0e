/- Written by a program of this session over the kit's print: YtcjkekdmmjfgeaaF4. -/
import Derived.Test.YtcjkekdmmjfgeaaH
import Derived.Test.YtcjkekdmmjfgeaaF15
import Derived.Test.YtcjkekdmmjfgeaaF16
import Derived.Test.YtcjkekdmmjfgeaaF17
import Derived.Test.YtcjkekdmmjfgeaaF18
import Derived.Test.YtcjkekdmmjfgeaaF19
namespace Go.Proofs.Ytcjkekdmmjfgeaa.X
open Go.RowKit Go.Proofs.YtcjkekdmmjfgeaaW.PrintWords Go.Proofs.YtcjkekdmmjfgeaaW.PrintLast Go.Proofs.YtcjkekdmmjfgeaaW.PrintMore Go.Proofs.Ytcjkekdmmjfgeaa.More
attribute [local go_sem] max2_int min2_int max_two min_two max_three min_three max_four min_four   -- for this text's walks alone
set_option linter.unusedVariables false
set_option linter.unusedSimpArgs false

/-! ### donjonlaw8_HashAsks: function 4 -/
def donjonlaw8_HashAsks.f (k : Nat) (a0 : Int) (a1 : ByteArray) (a2 : Int) (l3 : List Int) : Option (Bool) := (donjonlaw8_known.f).bind fun t101 => (if t101 = true then (if (wrap64 ((a1.size : Int) + (l3.length : Int))) > 5000 then (some true) else ((hash_Of.f k a0 a1).bind fun t102 => ((donjonref8_Of.f k a0 a1).bind fun t103 => (if t102 = t103 then ((hash_Chain.f k a2 l3).bind fun t104 => ((donjonref8_Chain.f k a2 l3).bind fun t105 => (some (t104 == t105)))) else (some false))))) else (some false))
theorem donjonlaw8_HashAsks.mono : ∀ a0 a1 a2 a3 k, LeO (donjonlaw8_HashAsks.f k a0 a1 a2 a3) (donjonlaw8_HashAsks.f (k + 1) a0 a1 a2 a3) := by
  intro a0 a1 a2 a3 k
  unfold donjonlaw8_HashAsks.f
  repeat' first
      | (with_reducible exact donjonref8_Chain.mono _ _ _)
      | (with_reducible exact donjonref8_Of.mono _ _ _)
      | (with_reducible exact hash_Chain.mono _ _ _)
      | (with_reducible exact hash_Of.mono _ _ _)
      | (with_reducible exact LeO.refl _)
      | (with_reducible exact LeO.none _)
      | (with_reducible refine LeO.ite ?_ ?_)
      | (with_reducible refine LeO.bind ?_ (fun _ => ?_))
      | exact donjonref8_Chain.mono _ _ _
      | exact donjonref8_Of.mono _ _ _
      | exact hash_Chain.mono _ _ _
      | exact hash_Of.mono _ _ _
      | exact LeO.none _
      | refine LeO.ite ?_ ?_
      | refine LeO.bind ?_ (fun _ => ?_)
set_option maxHeartbeats 8000000 in
set_option maxRecDepth 100000 in
theorem donjonlaw8_HashAsks.calls (k : Nat) (a0 : Int) (a1 : ByteArray) (a2 : Int) (A3 : Option Addr) (c3 : Nat) (l3 : List Int) (r : Bool) (w : World) (hr3 : Kd.C (Kd.int .u8) w A3 l3.length l3) (hc3 : l3.length ≤ c3) (h : donjonlaw8_HashAsks.f k a0 a1 a2 l3 = some r) :
    Calls Try.prog 4 #[.int .i64 a0, .string a1, .int .u64 a2, .slice A3 l3.length c3] w fun e w' => e = .returned (.bool r) ∧ Below w.heap.size w w' := by
  have HR3 := Aside0.mk hr3
  have HC3 := Aside0.mk hc3
  clear hr3 hc3
  have HB := Aside0.mk (Below.refl w.heap.size w)
  have H : ((donjonlaw8_known.f).bind fun t101 => (if t101 = true then (if (wrap64 ((a1.size : Int) + (l3.length : Int))) > 5000 then (some true) else ((hash_Of.f k a0 a1).bind fun t102 => ((donjonref8_Of.f k a0 a1).bind fun t103 => (if t102 = t103 then ((hash_Chain.f k a2 l3).bind fun t104 => ((donjonref8_Chain.f k a2 l3).bind fun t105 => (some (t104 == t105)))) else (some false))))) else (some false))) = some r := h
  clear h
  replace H := Option.bind_eq_some_iff.mp H
  obtain ⟨t101, A50, H⟩ := H
  replace H : (if t101 = true then (if (wrap64 ((a1.size : Int) + (l3.length : Int))) > 5000 then (some true) else ((hash_Of.f k a0 a1).bind fun t102 => ((donjonref8_Of.f k a0 a1).bind fun t103 => (if t102 = t103 then ((hash_Chain.f k a2 l3).bind fun t104 => ((donjonref8_Chain.f k a2 l3).bind fun t105 => (some (t104 == t105)))) else (some false))))) else (some false)) = some r := H
  have A5 := Aside0.mk A50
  clear A50
  by_cases c6 : t101 = true
  · subst c6
    have H1 : (if (wrap64 ((a1.size : Int) + (l3.length : Int))) > 5000 then (some true) else ((hash_Of.f k a0 a1).bind fun t102 => ((donjonref8_Of.f k a0 a1).bind fun t103 => (if t102 = t103 then ((hash_Chain.f k a2 l3).bind fun t104 => ((donjonref8_Chain.f k a2 l3).bind fun t105 => (some (t104 == t105)))) else (some false))))) = some r := by rw [if_pos rfl] at H; exact H
    clear H
    have H := H1
    clear H1
    by_cases c7 : (wrap64 ((a1.size : Int) + (l3.length : Int))) > 5000
    · rw [if_pos c7] at H
      have c7b0 : decide (5000 < (wrap64 ((a1.size : Int) + (l3.length : Int)))) = true := decide_eq_true c7
      clear c7
      obtain rfl := Option.some.inj H
      go_enter Try.func4, Try.ntmps4
      go_wp2_with (first | ((with_reducible refine gate_callee (f := 15) rfl ?_); refine goesL_ (some 9) rfl rfl Try.func15 (by kernel_rfl) rfl #[] rfl (by (try simp only [List.map_toArray, List.map_cons, List.map_nil]); first | done | rfl | (simp only [List.length_drop, List.length_take]; rfl)) ?_; (with_reducible refine (donjonlaw8_known.calls  true _ A5.out).mono ?_); rintro e w8 ⟨rfl, hb⟩; refine ⟨_, rfl, ?_⟩; have n0_ := Aside0.mk (below_step (by repeat (first | (with_reducible first | exact HB.out | apply below_alloc | apply pw_below_drewN | apply below_drew1) | exact HB.out)) hb); clear HB; have HB := n0_; clear n0_; (try clear hb); (try clear hb2); (try clear hk); (try clear hi)))
      go_ret
      exact ⟨by first | rfl | (simp [errW_none, errW_some] <;> rfl) | (simp [*, errW_none, errW_some] <;> rfl), by repeat (first | (with_reducible first | exact HB.out | apply below_alloc | apply pw_below_drewN | apply below_drew1) | exact HB.out)⟩
    · rw [if_neg c7] at H
      have c7b0 : decide (5000 < (wrap64 ((a1.size : Int) + (l3.length : Int)))) = false := decide_eq_false c7
      clear c7
      replace H := Option.bind_eq_some_iff.mp H
      obtain ⟨t102, A90, H⟩ := H
      replace H : ((donjonref8_Of.f k a0 a1).bind fun t103 => (if t102 = t103 then ((hash_Chain.f k a2 l3).bind fun t104 => ((donjonref8_Chain.f k a2 l3).bind fun t105 => (some (t104 == t105)))) else (some false))) = some r := H
      have A9 := Aside0.mk A90
      clear A90
      replace H := Option.bind_eq_some_iff.mp H
      obtain ⟨t103, A100, H⟩ := H
      replace H : (if t102 = t103 then ((hash_Chain.f k a2 l3).bind fun t104 => ((donjonref8_Chain.f k a2 l3).bind fun t105 => (some (t104 == t105)))) else (some false)) = some r := H
      have A10 := Aside0.mk A100
      clear A100
      by_cases c11 : t102 = t103
      · rw [if_pos c11] at H
        have c11b0 : (t102 == t103) = true := beq_iff_eq.mpr c11
        have c11b1 : (t102 != t103) = false := bne_eq_false_iff_eq.mpr c11
        clear c11
        replace H := Option.bind_eq_some_iff.mp H
        obtain ⟨t104, A120, H⟩ := H
        replace H : ((donjonref8_Chain.f k a2 l3).bind fun t105 => (some (t104 == t105))) = some r := H
        have A12 := Aside0.mk A120
        clear A120
        replace H := Option.bind_eq_some_iff.mp H
        obtain ⟨t105, A130, H⟩ := H
        replace H : (some (t104 == t105)) = some r := H
        have A13 := Aside0.mk A130
        clear A130
        obtain rfl := Option.some.inj H
        go_enter Try.func4, Try.ntmps4
        go_wp2_with (first | ((with_reducible refine gate_callee (f := 15) rfl ?_); refine goesL_ (some 9) rfl rfl Try.func15 (by kernel_rfl) rfl #[] rfl (by (try simp only [List.map_toArray, List.map_cons, List.map_nil]); first | done | rfl | (simp only [List.length_drop, List.length_take]; rfl)) ?_; (with_reducible refine (donjonlaw8_known.calls  true _ A5.out).mono ?_); rintro e w14 ⟨rfl, hb⟩; refine ⟨_, rfl, ?_⟩; have n0_ := Aside0.mk (below_step (by repeat (first | (with_reducible first | exact HB.out | apply below_alloc | apply pw_below_drewN | apply below_drew1) | exact HB.out)) hb); clear HB; have HB := n0_; clear n0_; (try clear hb); (try clear hb2); (try clear hk); (try clear hi)) | (go_at_call 17; (with_reducible refine (hash_Of.calls k a0 a1 t102 _ A9.out).mono ?_); rintro e w15 ⟨rfl, hb⟩; have n0_ := Aside0.mk (below_step (by repeat (first | (with_reducible first | exact HB.out | apply below_alloc | apply pw_below_drewN | apply below_drew1) | exact HB.out)) hb); clear HB; have HB := n0_; clear n0_; (try clear hb); (try clear hb2); (try clear hk); (try clear hi)) | (go_at_call 18; (with_reducible refine (donjonref8_Of.calls k a0 a1 t103 _ A10.out).mono ?_); rintro e w16 ⟨rfl, hb⟩; have n0_ := Aside0.mk (below_step (by repeat (first | (with_reducible first | exact HB.out | apply below_alloc | apply pw_below_drewN | apply below_drew1) | exact HB.out)) hb); clear HB; have HB := n0_; clear n0_; (try clear hb); (try clear hb2); (try clear hk); (try clear hi)) | (go_at_call 16; (with_reducible refine (hash_Chain.calls k a2 _ _ l3 t104 _ ?side1 ?side2 A12.out).mono ?_); (case side1 => repeat (first | exact (Kd.C_below HR3.out HB.out) | (with_reducible refine Kd.C_alloc ?_ _) | (with_reducible refine Kd.C_drewN ?_ _) | (with_reducible refine Kd.C_drew ?_))); (case side2 => exact HC3.out); rintro e w' ⟨rfl, ⟨nd, rfl⟩⟩) | (go_at_call 19; (with_reducible refine (donjonref8_Chain.calls k a2 _ _ l3 t105 _ ?side1 ?side2 A13.out).mono ?_); (case side1 => repeat (first | exact (Kd.C_below HR3.out (by repeat (first | (with_reducible first | exact HB.out | apply below_alloc | apply pw_below_drewN | apply below_drew1) | exact HB.out))) | (with_reducible refine Kd.C_alloc ?_ _) | (with_reducible refine Kd.C_drewN ?_ _) | (with_reducible refine Kd.C_drew ?_))); (case side2 => exact HC3.out); rintro e w' ⟨rfl, ⟨nd, rfl⟩⟩))
        go_ret
        exact ⟨by first | rfl | (simp [errW_none, errW_some] <;> rfl) | (simp [*, errW_none, errW_some] <;> rfl), by repeat (first | (with_reducible first | exact HB.out | apply below_alloc | apply pw_below_drewN | apply below_drew1) | exact HB.out)⟩
      · rw [if_neg c11] at H
        have c11b0 : (t102 == t103) = false := beq_eq_false_iff_ne.mpr c11
        have c11b1 : (t102 != t103) = true := bne_iff_ne.mpr c11
        obtain rfl := Option.some.inj H
        go_enter Try.func4, Try.ntmps4
        go_wp2_with (first | ((with_reducible refine gate_callee (f := 15) rfl ?_); refine goesL_ (some 9) rfl rfl Try.func15 (by kernel_rfl) rfl #[] rfl (by (try simp only [List.map_toArray, List.map_cons, List.map_nil]); first | done | rfl | (simp only [List.length_drop, List.length_take]; rfl)) ?_; (with_reducible refine (donjonlaw8_known.calls  true _ A5.out).mono ?_); rintro e w17 ⟨rfl, hb⟩; refine ⟨_, rfl, ?_⟩; have n0_ := Aside0.mk (below_step (by repeat (first | (with_reducible first | exact HB.out | apply below_alloc | apply pw_below_drewN | apply below_drew1) | exact HB.out)) hb); clear HB; have HB := n0_; clear n0_; (try clear hb); (try clear hb2); (try clear hk); (try clear hi)) | (go_at_call 17; (with_reducible refine (hash_Of.calls k a0 a1 t102 _ A9.out).mono ?_); rintro e w18 ⟨rfl, hb⟩; have n0_ := Aside0.mk (below_step (by repeat (first | (with_reducible first | exact HB.out | apply below_alloc | apply pw_below_drewN | apply below_drew1) | exact HB.out)) hb); clear HB; have HB := n0_; clear n0_; (try clear hb); (try clear hb2); (try clear hk); (try clear hi)) | (go_at_call 18; (with_reducible refine (donjonref8_Of.calls k a0 a1 t103 _ A10.out).mono ?_); rintro e w19 ⟨rfl, hb⟩; have n0_ := Aside0.mk (below_step (by repeat (first | (with_reducible first | exact HB.out | apply below_alloc | apply pw_below_drewN | apply below_drew1) | exact HB.out)) hb); clear HB; have HB := n0_; clear n0_; (try clear hb); (try clear hb2); (try clear hk); (try clear hi)))
        go_ret
        exact ⟨by first | rfl | (simp [errW_none, errW_some] <;> rfl) | (simp [*, errW_none, errW_some] <;> rfl), by repeat (first | (with_reducible first | exact HB.out | apply below_alloc | apply pw_below_drewN | apply below_drew1) | exact HB.out)⟩
  · replace c6 := Bool.eq_false_iff.mpr c6
    subst c6
    have H1 : (some false) = some r := by rw [if_neg (show ¬ (false = true) by decide)] at H; exact H
    clear H
    have H := H1
    clear H1
    obtain rfl := Option.some.inj H
    go_enter Try.func4, Try.ntmps4
    go_wp2_with (first | ((with_reducible refine gate_callee (f := 15) rfl ?_); refine goesL_ (some 9) rfl rfl Try.func15 (by kernel_rfl) rfl #[] rfl (by (try simp only [List.map_toArray, List.map_cons, List.map_nil]); first | done | rfl | (simp only [List.length_drop, List.length_take]; rfl)) ?_; (with_reducible refine (donjonlaw8_known.calls  false _ A5.out).mono ?_); rintro e w20 ⟨rfl, hb⟩; refine ⟨_, rfl, ?_⟩; have n0_ := Aside0.mk (below_step (by repeat (first | (with_reducible first | exact HB.out | apply below_alloc | apply pw_below_drewN | apply below_drew1) | exact HB.out)) hb); clear HB; have HB := n0_; clear n0_; (try clear hb); (try clear hb2); (try clear hk); (try clear hi)))
    go_ret
    exact ⟨by first | rfl | (simp [errW_none, errW_some] <;> rfl) | (simp [*, errW_none, errW_some] <;> rfl), by repeat (first | (with_reducible first | exact HB.out | apply below_alloc | apply pw_below_drewN | apply below_drew1) | exact HB.out)⟩

end Go.Proofs.Ytcjkekdmmjfgeaa.X
