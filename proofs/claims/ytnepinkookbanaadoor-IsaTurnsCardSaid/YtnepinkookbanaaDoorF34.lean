/- Written by a program of this session over the kit's print: YtnepinkookbanaaDoorF34. -/
import Derived.Test.YtnepinkookbanaaDoorH
import Derived.Test.YtnepinkookbanaaDoorF23
import Derived.Test.YtnepinkookbanaaDoorLaid
import Derived.Test.YtnepinkookbanaaDoorShelf
import Derived.Test.YtnepinkookbanaaDoorF23
import Derived.Test.YtnepinkookbanaaDoorF24
import Derived.WalkKit
import Derived.BigCall
import Derived.Lib.ItoaLen
import Derived.Laws.CopyOwn
namespace Go.Proofs.YtnepinkookbanaaDoor.X
open Go.RowKit Go.Proofs.YtnepinkookbanaaDoorW.PrintWords Go.Proofs.YtnepinkookbanaaDoorW.PrintLast Go.Proofs.YtnepinkookbanaaDoorW.PrintMore Go.Proofs.YtnepinkookbanaaDoor.More
attribute [local go_sem] max2_int min2_int max_two min_two max_three min_three max_four min_four binOp_string_leq binOp_string_gtr   -- for this text's walks alone
set_option linter.unusedVariables false
set_option linter.unusedSimpArgs false

/-! ### isa_Text: function 34 -/
/-- The operations' names. -/
def opNames : List ByteArray := [⟨#[104, 97, 108, 116]⟩, ⟨#[108, 100, 97]⟩, ⟨#[115, 116, 97]⟩, ⟨#[108, 100, 105]⟩, ⟨#[97, 100, 100]⟩, ⟨#[115, 117, 98]⟩, ⟨#[109, 117, 108]⟩, ⟨#[102, 97, 100, 100]⟩, ⟨#[102, 115, 117, 98]⟩, ⟨#[102, 109, 117, 108]⟩, ⟨#[102, 100, 105, 118]⟩, ⟨#[102, 108, 101, 115, 115]⟩, ⟨#[102, 108, 116]⟩, ⟨#[102, 105, 120]⟩, ⟨#[106, 109, 112]⟩, ⟨#[106, 122]⟩, ⟨#[106, 110]⟩, ⟨#[115, 101, 116, 112]⟩, ⟨#[108, 100, 112]⟩, ⟨#[103, 101, 116, 112]⟩, ⟨#[99, 97, 108, 108]⟩, ⟨#[114, 101, 116]⟩, ⟨#[111, 117, 116]⟩]
def opName (n : Nat) : ByteArray := opNames.getD n ⟨#[]⟩
def namesA : Array Value := #[.string ⟨#[104, 97, 108, 116]⟩, .string ⟨#[108, 100, 97]⟩, .string ⟨#[115, 116, 97]⟩, .string ⟨#[108, 100, 105]⟩, .string ⟨#[97, 100, 100]⟩, .string ⟨#[115, 117, 98]⟩, .string ⟨#[109, 117, 108]⟩, .string ⟨#[102, 97, 100, 100]⟩, .string ⟨#[102, 115, 117, 98]⟩, .string ⟨#[102, 109, 117, 108]⟩, .string ⟨#[102, 100, 105, 118]⟩, .string ⟨#[102, 108, 101, 115, 115]⟩, .string ⟨#[102, 108, 116]⟩, .string ⟨#[102, 105, 120]⟩, .string ⟨#[106, 109, 112]⟩, .string ⟨#[106, 122]⟩, .string ⟨#[106, 110]⟩, .string ⟨#[115, 101, 116, 112]⟩, .string ⟨#[108, 100, 112]⟩, .string ⟨#[103, 101, 116, 112]⟩, .string ⟨#[99, 97, 108, 108]⟩, .string ⟨#[114, 101, 116]⟩, .string ⟨#[111, 117, 116]⟩]
def itextV (a b c : Int) : ByteArray := ⟨(Lib.join ([opName a.toNat, numeralB b, numeralB c].map (·.data.toList)) (⟨#[32]⟩ : ByteArray).data.toList).toArray⟩
def isa_Text.f (a0_0 : Int) (a0_1 : Int) (a0_2 : Int) : Option ByteArray := if fits64 a0_1 ∧ fits64 a0_2 then some (if a0_0 < 0 ∨ 23 ≤ a0_0 then ⟨#[]⟩ else itextV a0_0 a0_1 a0_2) else none
set_option maxRecDepth 100000 in
set_option maxHeartbeats 8000000 in
theorem isa_names (w : World) : Calls Tryd.prog 48 #[] w fun e w' => e = .returned (.agg namesA) ∧ Below w.heap.size w w' := by
  go_enter Tryd.func48, Tryd.ntmps48
  go_wp2_with (refine wpList_store_row rfl 67 (.tmp 0) (.tmp 1) rfl w.heap.size namesA rfl rfl 67 _ (blk_new _ _) (by kernel_rfl) rfl (by kernel_rfl) ?_)
  refine bodyPost_ret (results_cell_row rfl _ _ w.heap.size 67 namesA (0, 0) _ rfl (setRow_heap _ _ _ _ _ _ (blk_new _ _)) Tryd.underlying67 rfl (by kernel_rfl)) rfl ?_
  exact ⟨rfl, below_setRow (below_alloc (Below.refl _ _) _) (Nat.le_refl _) _⟩
theorem isa_index (a : Int) (h0 : 0 ≤ a) (h1 : a < 23) : ∀ w : World, (Instr.index 67 (.agg namesA) (.int .i64 a)).run Tryd.prog w = .ok (.string (opName a.toNat)) w := by
  have h : a = 0 ∨ a = 1 ∨ a = 2 ∨ a = 3 ∨ a = 4 ∨ a = 5 ∨ a = 6 ∨ a = 7 ∨ a = 8 ∨ a = 9 ∨ a = 10 ∨ a = 11 ∨ a = 12 ∨ a = 13 ∨ a = 14 ∨ a = 15 ∨ a = 16 ∨ a = 17 ∨ a = 18 ∨ a = 19 ∨ a = 20 ∨ a = 21 ∨ a = 22 := by omega
  rcases h with rfl | rfl | rfl | rfl | rfl | rfl | rfl | rfl | rfl | rfl | rfl | rfl | rfl | rfl | rfl | rfl | rfl | rfl | rfl | rfl | rfl | rfl | rfl <;> (intro w; kernel_rfl)
theorem opName_short (a : Int) : (opName a.toNat).data.toList.length ≤ 5 := by
  by_cases h : a.toNat < 23
  · have h2 : ∀ n : Fin 23, (opName n.val).data.toList.length ≤ 5 := by decide +kernel
    exact h2 ⟨a.toNat, h⟩
  · unfold opName
    rw [List.getD_eq_getElem?_getD, List.getElem?_eq_none (by show 23 ≤ a.toNat; omega)]
    exact Nat.zero_le _
theorem isa_short (a b c : Int) (hb : fits64 b) (hc : fits64 c) : (Lib.join ([opName a.toNat, numeralB b, numeralB c].map (·.data.toList)) (⟨#[32]⟩ : ByteArray).data.toList).length ≤ 140737488355328 := by
  have h1 := opName_short a
  have h2 := Lib.itoa_length_le b hb.1 hb.2
  have h3 := Lib.itoa_length_le c hc.1 hc.2
  simp only [List.map_cons, List.map_nil, Lib.join, numeralB, List.length_append]
  simp
  simp at h1
  omega
def isa_Text.T3 : Bool × List (List Nat × List Nat) := (true, [([], []), ([], []), ([1], [1]), ([0, 2], [0, 2]), ([], []), ([4], [4]), ([5, 0], [5]), ([], []), ([7], [7]), ([8, 6], [8]), ([3, 6, 9], [3, 6, 9]), ([10, 9], [10]), ([11, 11, 0, 1, 2, 3, 4, 5, 6, 7, 8, 9, 10, 11], [11])])
def isa_Text.B3 : List Nat := [0, 0, 2, 7, 0, 16, 49, 0, 128, 497, 1023, 2047, 4095]
theorem isa_Text.tab3 : rtab .any (opsOf Tryd.f34 3) = isa_Text.T3 := by kernel_rfl
theorem isa_Text.bits3 : waitsOk isa_Text.T3.2 isa_Text.B3 = true := by kernel_rfl
set_option maxRecDepth 100000 in
set_option maxHeartbeats 8000000 in
theorem isa_Text.calls (a0_0 : Int) (a0_1 : Int) (a0_2 : Int) (r : ByteArray) (w : World) (hG : Laid w) (h : isa_Text.f a0_0 a0_1 a0_2 = some r) :
    Calls Tryd.prog 34 #[.agg #[.int .i64 a0_0, .int .i64 a0_1, .int .i64 a0_2]] w fun e w' => e = .returned (.string r) ∧ Below w.heap.size w w' := by
  have hfit : fits64 a0_1 ∧ fits64 a0_2 := by
    by_cases h1 : fits64 a0_1 ∧ fits64 a0_2
    · exact h1
    · unfold isa_Text.f at h
      rw [if_neg h1] at h
      exact absurd h (by simp)
  have hr : (if a0_0 < 0 ∨ 23 ≤ a0_0 then ⟨#[]⟩ else itextV a0_0 a0_1 a0_2) = r := by
    unfold isa_Text.f at h
    rw [if_pos hfit] at h
    exact Option.some.inj h
  have HF := Aside0.mk hfit
  have HG := Aside0.mk hG
  clear h hfit hG
  go_enter Tryd.func34, Tryd.ntmps34
  by_cases hlo : a0_0 < 0
  · rw [if_pos (.inl hlo)] at hr
    subst hr
    have c1 : decide (a0_0 < 0) = true := decide_eq_true hlo
    clear hlo
    go_wp2
    go_ret
    exact ⟨rfl, by with_reducible repeat (first | exact Below.refl _ _ | apply below_alloc | apply pw_below_drewN | apply below_drew1)⟩
  · have c1 : decide (a0_0 < 0) = false := decide_eq_false hlo
    by_cases hhi : 23 ≤ a0_0
    · rw [if_pos (.inr hhi)] at hr
      subst hr
      have c2 : decide (23 ≤ a0_0) = true := decide_eq_true hhi
      clear hlo hhi
      go_wp2
      go_ret
      exact ⟨rfl, by with_reducible repeat (first | exact Below.refl _ _ | apply below_alloc | apply pw_below_drewN | apply below_drew1)⟩
    · rw [if_neg (by omega)] at hr
      subst hr
      have c2 : decide (23 ≤ a0_0) = false := decide_eq_false hhi
      have hix := isa_index a0_0 (by omega) (by omega)
      clear hlo hhi
      go_wp2_with fail
      have HB := Aside0.mk (below_drew1 (below_alloc (Below.refl w.heap.size w) (.cells #[.int .i64 a0_0, .int .i64 a0_1, .int .i64 a0_2] 45)))
      have HV := Aside0.mk (blk_drew (blk_new w (.cells #[.int .i64 a0_0, .int .i64 a0_1, .int .i64 a0_2] 45)))
      refine start_ (n := 13) (S := fun w' => w'.cell? ⟨w.heap.size, 0, none⟩ = some (.int .i64 a0_0) ∧ w'.cell? ⟨w.heap.size, 1, none⟩ = some (.int .i64 a0_1) ∧ w'.cell? ⟨w.heap.size, 2, none⟩ = some (.int .i64 a0_2)) (ds := []) #[false, false, false, false, false, false, false, false, false, false, false, false, false] (by kernel_rfl) rfl rfl ⟨(blk_cell HV.out 0).trans rfl, (blk_cell HV.out 1).trans rfl, (blk_cell HV.out 2).trans rfl⟩ (fun hHeld => ?_)
      refine with_tabW isa_Text.tab3 isa_Text.bits3 (fun HT_ HW_ => ?_)
      generalize World.drew _ = wd at HB HV hHeld ⊢
      refine pure_ (i := 1) (N := some 12) (v := ?_) (a' := ?_) #[false, true, false, false, false, false, false, false, false, false, false, false, false] rfl rfl (any_of HT_.out (by kernel_rfl)) (fun _ _ _ h => h) (Or.inl ⟨by rfl, ?_⟩) ?_ ?_
      rotate_left
      · intro w'
        go_simp
        with_reducible rfl
      rotate_left
      · simp only [Act.put, List.setIfInBounds_toArray, List.set_cons_zero, List.set_cons_succ, i64_w, i32_w]
        rfl
      refine pure_ (i := 4) (N := some 15) (v := ?_) (a' := ?_) #[false, true, false, false, true, false, false, false, false, false, false, false, false] rfl rfl (any_of HT_.out (by kernel_rfl)) (fun _ _ _ h => h) (Or.inl ⟨by rfl, ?_⟩) ?_ ?_
      rotate_left
      · intro w'
        go_simp
        with_reducible rfl
      rotate_left
      · simp only [Act.put, List.setIfInBounds_toArray, List.set_cons_zero, List.set_cons_succ, i64_w, i32_w]
        rfl
      refine pure_ (i := 7) (N := some 18) (v := ?_) (a' := ?_) #[false, true, false, false, true, false, false, true, false, false, false, false, false] rfl rfl (any_of HT_.out (by kernel_rfl)) (fun _ _ _ h => h) (Or.inl ⟨by rfl, ?_⟩) ?_ ?_
      rotate_left
      · intro w'
        go_simp
        with_reducible rfl
      rotate_left
      · simp only [Act.put, List.setIfInBounds_toArray, List.set_cons_zero, List.set_cons_succ, i64_w, i32_w]
        rfl
      refine take_ (i := 2) (N := some 13) (v := ?_) (a' := ?_) #[false, true, true, false, true, false, false, true, false, false, false, false, false] rfl rfl (take_ofW HT_.out HW_.out (by kernel_rfl)) (fun _ _ _ h => h) (Or.inl ⟨by rfl, ?_⟩) hHeld ?_ ?_
      rotate_left
      · rintro w' ⟨s0, s1, s2⟩
        go_simp
        with_reducible rfl
      rotate_left
      · simp only [Act.put, List.setIfInBounds_toArray, List.set_cons_zero, List.set_cons_succ, i64_w, i32_w]
        rfl
      refine take_ (i := 5) (N := some 16) (v := ?_) (a' := ?_) #[false, true, true, false, true, true, false, true, false, false, false, false, false] rfl rfl (take_ofW HT_.out HW_.out (by kernel_rfl)) (fun _ _ _ h => h) (Or.inl ⟨by rfl, ?_⟩) hHeld ?_ ?_
      rotate_left
      · rintro w' ⟨s0, s1, s2⟩
        go_simp
        with_reducible rfl
      rotate_left
      · simp only [Act.put, List.setIfInBounds_toArray, List.set_cons_zero, List.set_cons_succ, i64_w, i32_w]
        rfl
      refine take_ (i := 8) (N := some 19) (v := ?_) (a' := ?_) #[false, true, true, false, true, true, false, true, true, false, false, false, false] rfl rfl (take_ofW HT_.out HW_.out (by kernel_rfl)) (fun _ _ _ h => h) (Or.inl ⟨by rfl, ?_⟩) hHeld ?_ ?_
      rotate_left
      · rintro w' ⟨s0, s1, s2⟩
        go_simp
        with_reducible rfl
      rotate_left
      · simp only [Act.put, List.setIfInBounds_toArray, List.set_cons_zero, List.set_cons_succ, i64_w, i32_w]
        rfl
      refine one_ (i := 0) (N := some 11) #[true, true, true, false, true, true, false, true, true, false, false, false, false] rfl rfl (one_of HT_.out (by kernel_rfl)) (by decide) (fun K hK => ?_)
      refine goes_ Tryd.func48 (by kernel_rfl) rfl #[] (by rfl) rfl rfl (by (try simp only [List.map_toArray, List.map_cons, List.map_nil]); first | done | rfl) ?_
      refine (isa_names wd).mono ?_
      rintro e w0 ⟨rfl, hb_⟩
      have n1_ := Aside0.mk (below_step HB.out hb_)
      have n2_ := Aside0.mk (blk_below HV.out hb_)
      clear HB HV hb_
      have HB := n1_
      have HV := n2_
      clear n1_ n2_
      refine ⟨_, rfl, ?_⟩
      refine hK.out _ _ ⟨(blk_cell HV.out 0).trans rfl, (blk_cell HV.out 1).trans rfl, (blk_cell HV.out 2).trans rfl⟩ (fun hHeld => ?_)
      clear hK K
      refine norm_ (a' := ?_) ?_ ?_
      rotate_left
      · show Act.put _ (some 11) _ = _
        simp only [Act.put, List.setIfInBounds_toArray, List.set_cons_zero, List.set_cons_succ, i64_w, i32_w]
        rfl
      refine pure_ (i := 3) (N := some 14) (v := ?_) (a' := ?_) #[true, true, true, true, true, true, false, true, true, false, false, false, false] rfl rfl (any_of HT_.out (by kernel_rfl)) (fun _ _ _ h => h) (Or.inl ⟨by rfl, ?_⟩) ?_ ?_
      rotate_left
      · intro w'
        go_simp
        with_reducible rfl
      rotate_left
      · simp only [Act.put, List.setIfInBounds_toArray, List.set_cons_zero, List.set_cons_succ, i64_w, i32_w]
        rfl
      refine one_ (i := 6) (N := some 17) #[true, true, true, true, true, true, true, true, true, false, false, false, false] rfl rfl (one_of HT_.out (by kernel_rfl)) (by decide) (fun K hK => ?_)
      refine goes_ Tryd.func43 (by kernel_rfl) rfl #[.int .i64 a0_1] (by rfl) rfl rfl (by (try simp only [List.map_toArray, List.map_cons, List.map_nil]); first | done | rfl) ?_
      refine (Tryd.strconv_Itoa a0_1 HF.out.1.1 HF.out.1.2 _ (Laid.below HG.out HB.out)).mono ?_
      rintro e w6 ⟨rfl, q6, os6, hw6⟩
      have hb_ : Below w0.heap.size w0 w6 := (by rw [hw6]; exact below_grown_sl _ w0 q6 os6 (Nat.le_refl _))
      clear hw6
      have n1_ := Aside0.mk (below_step HB.out hb_)
      have n2_ := Aside0.mk (blk_below HV.out hb_)
      clear HB HV hb_
      have HB := n1_
      have HV := n2_
      clear n1_ n2_
      refine ⟨_, rfl, ?_⟩
      refine hK.out _ _ ⟨(blk_cell HV.out 0).trans rfl, (blk_cell HV.out 1).trans rfl, (blk_cell HV.out 2).trans rfl⟩ (fun hHeld => ?_)
      clear hK K
      refine norm_ (a' := ?_) ?_ ?_
      rotate_left
      · show Act.put _ (some 17) _ = _
        simp only [Act.put, List.setIfInBounds_toArray, List.set_cons_zero, List.set_cons_succ, i64_w, i32_w]
        rfl
      refine one_ (i := 9) (N := some 20) #[true, true, true, true, true, true, true, true, true, true, false, false, false] rfl rfl (one_of HT_.out (by kernel_rfl)) (by decide) (fun K hK => ?_)
      refine goes_ Tryd.func43 (by kernel_rfl) rfl #[.int .i64 a0_2] (by rfl) rfl rfl (by (try simp only [List.map_toArray, List.map_cons, List.map_nil]); first | done | rfl) ?_
      refine (Tryd.strconv_Itoa a0_2 HF.out.2.1 HF.out.2.2 _ (Laid.below HG.out HB.out)).mono ?_
      rintro e w9 ⟨rfl, q9, os9, hw9⟩
      have hb_ : Below w6.heap.size w6 w9 := (by rw [hw9]; exact below_grown_sl _ w6 q9 os9 (Nat.le_refl _))
      clear hw9
      have n1_ := Aside0.mk (below_step HB.out hb_)
      have n2_ := Aside0.mk (blk_below HV.out hb_)
      clear HB HV hb_
      have HB := n1_
      have HV := n2_
      clear n1_ n2_
      refine ⟨_, rfl, ?_⟩
      refine hK.out _ _ ⟨(blk_cell HV.out 0).trans rfl, (blk_cell HV.out 1).trans rfl, (blk_cell HV.out 2).trans rfl⟩ (fun hHeld => ?_)
      clear hK K
      refine norm_ (a' := ?_) ?_ ?_
      rotate_left
      · show Act.put _ (some 20) _ = _
        simp only [Act.put, List.setIfInBounds_toArray, List.set_cons_zero, List.set_cons_succ, i64_w, i32_w]
        rfl
      refine one_ (i := 10) (N := some 21) #[true, true, true, true, true, true, true, true, true, true, true, false, false] rfl rfl (one_of HT_.out (by kernel_rfl)) (by decide) (fun K hK => ?_)
      refine event_step (v := .slice (some ⟨w9.heap.size, 0, none⟩) 3 3) (w1 := w9.alloc (.cells #[.string (opName a0_0.toNat), .string (numeralB a0_1), .string (numeralB a0_2)] 9)) rfl (by first | (go_simp; done) | (go_simp; rfl)) ?_
      have HV2 := Aside0.mk (blk_alloc HV.out (.cells #[.string (opName a0_0.toNat), .string (numeralB a0_1), .string (numeralB a0_2)] 9))
      have HB2 := Aside0.mk (below_alloc HB.out (.cells #[.string (opName a0_0.toNat), .string (numeralB a0_1), .string (numeralB a0_2)] 9))
      have HR := Aside0.mk (blk_new w9 (.cells #[.string (opName a0_0.toNat), .string (numeralB a0_1), .string (numeralB a0_2)] 9))
      have hzr : w9.heap.size < (w9.alloc (.cells #[.string (opName a0_0.toNat), .string (numeralB a0_1), .string (numeralB a0_2)] 9)).heap.size := blk_lt HR.out
      have HZR := Aside0.mk hzr
      clear HV HB hzr
      have HV := HV2
      have HB := HB2
      clear HV2 HB2
      refine hK.out _ _ ⟨(blk_cell HV.out 0).trans rfl, (blk_cell HV.out 1).trans rfl, (blk_cell HV.out 2).trans rfl⟩ (fun hHeld => ?_)
      clear hK K
      refine norm_ (a' := ?_) ?_ ?_
      rotate_left
      · show Act.put _ (some 21) _ = _
        simp only [Act.put, List.setIfInBounds_toArray, List.set_cons_zero, List.set_cons_succ, i64_w, i32_w]
        rfl
      generalize w9.alloc _ = wl at HV HB HR HZR hHeld ⊢
      have hcl : ∀ (j : Nat) x, [opName a0_0.toNat, numeralB a0_1, numeralB a0_2][j]? = some x → wl.cell? ⟨w9.heap.size, 0 + j, none⟩ = some (.string x) := by
        intro j x hx
        match j, hx with
        | 0, hx => obtain rfl := Option.some.inj hx; exact (blk_cell HR.out 0).trans rfl
        | 1, hx => obtain rfl := Option.some.inj hx; exact (blk_cell HR.out 1).trans rfl
        | 2, hx => obtain rfl := Option.some.inj hx; exact (blk_cell HR.out 2).trans rfl
        | j + 3, hx => exact absurd hx (by simp)
      have HCL := Aside0.mk hcl
      clear hcl
      refine one_ (i := 11) (N := some 22) #[true, true, true, true, true, true, true, true, true, true, true, true, false] rfl rfl (one_of HT_.out (by kernel_rfl)) (by decide) (fun K hK => ?_)
      refine goes_ Tryd.func44 (by kernel_rfl) rfl #[.slice (some ⟨w9.heap.size, 0, none⟩) 3 3, .string ⟨#[32]⟩] (by rfl) rfl rfl (by (try simp only [List.map_toArray, List.map_cons, List.map_nil]); first | done | rfl) ?_
      refine (Tryd.strings_Join w9.heap.size 0 3 [opName a0_0.toNat, numeralB a0_1, numeralB a0_2] ⟨#[32]⟩ wl HCL.out HZR.out (by show 3 ≤ _; omega) (by show 3 ≤ 3; omega) (isa_short a0_0 a0_1 a0_2 HF.out.1 HF.out.2)).mono ?_
      rintro e w11 ⟨rfl, hb_⟩
      have n1_ := Aside0.mk (below_step HB.out hb_)
      have n2_ := Aside0.mk (blk_below HV.out hb_)
      clear HB HV hb_
      have HB := n1_
      have HV := n2_
      clear n1_ n2_
      refine ⟨_, rfl, ?_⟩
      refine hK.out _ _ ⟨(blk_cell HV.out 0).trans rfl, (blk_cell HV.out 1).trans rfl, (blk_cell HV.out 2).trans rfl⟩ (fun hHeld => ?_)
      clear hK K
      refine norm_ (a' := ?_) ?_ ?_
      rotate_left
      · show Act.put _ (some 22) _ = _
        simp only [Act.put, List.setIfInBounds_toArray, List.set_cons_zero, List.set_cons_succ, i64_w, i32_w]
        rfl
      refine pure_ (i := 12) (N := some 2) (v := ?_) (a' := ?_) #[true, true, true, true, true, true, true, true, true, true, true, true, true] rfl rfl (any_of HT_.out (by kernel_rfl)) (fun _ _ _ h => h) (Or.inl ⟨by rfl, ?_⟩) ?_ ?_
      rotate_left
      · intro w'
        go_simp
        with_reducible rfl
      rotate_left
      · simp only [Act.put, List.setIfInBounds_toArray, List.set_cons_zero, List.set_cons_succ, i64_w, i32_w]
        rfl
      refine done_ (done_of HT_.out (by kernel_rfl)) ?_
      try go_wp2
      go_ret
      exact ⟨rfl, HB.out⟩

end Go.Proofs.YtnepinkookbanaaDoor.X
