/- Written by a program of this session over the kit's print: YtophnhmlknbmeaaF13. -/
import Derived.Test.YtophnhmlknbmeaaH
import Derived.Test.YtophnhmlknbmeaaNRow
namespace Go.Proofs.Ytophnhmlknbmeaa.X
open Go.RowKit Go.Proofs.YtophnhmlknbmeaaW.PrintWords Go.Proofs.YtophnhmlknbmeaaW.PrintLast Go.Proofs.YtophnhmlknbmeaaW.PrintMore Go.Proofs.Ytophnhmlknbmeaa.More
attribute [local go_sem] max2_int min2_int max_two min_two max_three min_three max_four min_four binOp_string_leq binOp_string_gtr   -- for this text's walks alone
set_option linter.unusedVariables false
set_option linter.unusedSimpArgs false

/-! ### node_EncodeMessage: function 13 -/
def node_EncodeMessage.f (a0_0 : ByteArray) (a0_1 : Int) (a0_2 : Int) (a0_3 : Int) (a0_4 : Int) (a0_5 : ByteArray) (a0_6 : Int) (a0_7 : Int) (a0_8 : Int) (a0_9 : Int) (a0_10 : ByteArray) : Option (List Int) := if a0_0.size + a0_5.size + a0_10.size ≤ 50000000 then some (encStr a0_0 ++ (encLab a0_1 a0_2 a0_3 a0_4 ++ (encStr a0_5 ++ (encLab a0_6 a0_7 a0_8 a0_9 ++ (encStr a0_10))))) else none
set_option maxHeartbeats 8000000 in
set_option maxRecDepth 100000 in
theorem node_EncodeMessage.calls (a0_0 : ByteArray) (a0_1 : Int) (a0_2 : Int) (a0_3 : Int) (a0_4 : Int) (a0_5 : ByteArray) (a0_6 : Int) (a0_7 : Int) (a0_8 : Int) (a0_9 : Int) (a0_10 : ByteArray) (r : List Int) (w : World) (h : node_EncodeMessage.f a0_0 a0_1 a0_2 a0_3 a0_4 a0_5 a0_6 a0_7 a0_8 a0_9 a0_10 = some r) :
    Calls Try.prog 13 #[.agg #[.string a0_0, .int .i64 a0_1, .int .i64 a0_2, .int .i64 a0_3, .int .i64 a0_4, .string a0_5, .int .i64 a0_6, .int .i64 a0_7, .int .i64 a0_8, .int .i64 a0_9, .string a0_10]] w fun e w' => ∃ v0_ : Value, e = .returned (v0_) ∧ Kd.R (Kd.int .u8) 5 w' w.heap.size (fun _ => True) v0_ r ∧ Below w.heap.size w w' := by
  unfold node_EncodeMessage.f at h
  by_cases hs : a0_0.size + a0_5.size + a0_10.size ≤ 50000000
  · rw [if_pos hs] at h
    obtain rfl := Option.some.inj h
    clear h
    have hu4 := Try.underlying42
    have hu5 := Try.underlying60
    have hu6 := Try.underlying23
    have HS := Aside0.mk hs
    clear hs
    have HB0 : Aside0 (Below w.heap.size w ((w.alloc (.cells #[.string a0_0, .int .i64 a0_1, .int .i64 a0_2, .int .i64 a0_3, .int .i64 a0_4, .string a0_5, .int .i64 a0_6, .int .i64 a0_7, .int .i64 a0_8, .int .i64 a0_9, .string a0_10] 42)).alloc (.cells #[.slice none 0 0] 60))) := ⟨below_alloc (below_alloc (Below.refl _ w) _) _⟩
    have HR0 : Aside0 (RowB ((w.alloc (.cells #[.string a0_0, .int .i64 a0_1, .int .i64 a0_2, .int .i64 a0_3, .int .i64 a0_4, .string a0_5, .int .i64 a0_6, .int .i64 a0_7, .int .i64 a0_8, .int .i64 a0_9, .string a0_10] 42)).alloc (.cells #[.slice none 0 0] 60)) w.heap.size (w.heap.size + 1) []) := ⟨by
      have h := rowB_new w (w.alloc (.cells #[.string a0_0, .int .i64 a0_1, .int .i64 a0_2, .int .i64 a0_3, .int .i64 a0_4, .string a0_5, .int .i64 a0_6, .int .i64 a0_7, .int .i64 a0_8, .int .i64 a0_9, .string a0_10] 42)) (by simp)
      rw [show (w.alloc (.cells #[.string a0_0, .int .i64 a0_1, .int .i64 a0_2, .int .i64 a0_3, .int .i64 a0_4, .string a0_5, .int .i64 a0_6, .int .i64 a0_7, .int .i64 a0_8, .int .i64 a0_9, .string a0_10] 42)).heap.size = w.heap.size + 1 by simp] at h
      exact h⟩
    have HM0 : Aside0 (((w.alloc (.cells #[.string a0_0, .int .i64 a0_1, .int .i64 a0_2, .int .i64 a0_3, .int .i64 a0_4, .string a0_5, .int .i64 a0_6, .int .i64 a0_7, .int .i64 a0_8, .int .i64 a0_9, .string a0_10] 42)).alloc (.cells #[.slice none 0 0] 60)).heap[w.heap.size]? = some (.cells #[.string a0_0, .int .i64 a0_1, .int .i64 a0_2, .int .i64 a0_3, .int .i64 a0_4, .string a0_5, .int .i64 a0_6, .int .i64 a0_7, .int .i64 a0_8, .int .i64 a0_9, .string a0_10] 42 (0, 0))) := ⟨blk_alloc (blk_new w _) _⟩
    go_enter Try.func13, Try.ntmps13
    go_wp2_with fail
    refine (row_text (w.heap.size + 1) ([] : List Int) a0_0 w _ HB0.out HR0.out (by have := HS.out; simp [encStr, encLab, bytesOf_length]; omega)).mono ?_
    rintro e w1 ⟨rfl, hR, hB, hK⟩
    have hM := hK.2 _ _ _ HM0.out (by decide) (by decide)
    have m1 : w1.cell? ⟨w.heap.size, 1, none⟩ = some (.int .i64 a0_1) := (blk_cell hM 1).trans rfl
    have m2 : w1.cell? ⟨w.heap.size, 2, none⟩ = some (.int .i64 a0_2) := (blk_cell hM 2).trans rfl
    have m3 : w1.cell? ⟨w.heap.size, 3, none⟩ = some (.int .i64 a0_3) := (blk_cell hM 3).trans rfl
    have m4 : w1.cell? ⟨w.heap.size, 4, none⟩ = some (.int .i64 a0_4) := (blk_cell hM 4).trans rfl
    have HM1 := Aside0.mk hM
    have HR1 := Aside0.mk hR
    have HB1 := Aside0.mk hB
    clear hM hR hB hK HM0 HR0 HB0
    go_wp2_with fail
    refine (row_label (w.heap.size + 1) (([] : List Int) ++ encStr a0_0) a0_1 a0_2 a0_3 a0_4 w _ HB1.out HR1.out (by have := HS.out; simp [encStr, encLab, bytesOf_length]; omega)).mono ?_
    rintro e w2 ⟨rfl, hR, hB, hK⟩
    have hM := hK.2 _ _ _ HM1.out (by decide) (by decide)
    have m5 : w2.cell? ⟨w.heap.size, 5, none⟩ = some (.string a0_5) := (blk_cell hM 5).trans rfl
    have HM2 := Aside0.mk hM
    have HR2 := Aside0.mk hR
    have HB2 := Aside0.mk hB
    clear hM hR hB hK HM1 HR1 HB1
    go_wp2_with fail
    refine (row_text (w.heap.size + 1) (([] : List Int) ++ encStr a0_0 ++ encLab a0_1 a0_2 a0_3 a0_4) a0_5 w _ HB2.out HR2.out (by have := HS.out; simp [encStr, encLab, bytesOf_length]; omega)).mono ?_
    rintro e w3 ⟨rfl, hR, hB, hK⟩
    have hM := hK.2 _ _ _ HM2.out (by decide) (by decide)
    have m6 : w3.cell? ⟨w.heap.size, 6, none⟩ = some (.int .i64 a0_6) := (blk_cell hM 6).trans rfl
    have m7 : w3.cell? ⟨w.heap.size, 7, none⟩ = some (.int .i64 a0_7) := (blk_cell hM 7).trans rfl
    have m8 : w3.cell? ⟨w.heap.size, 8, none⟩ = some (.int .i64 a0_8) := (blk_cell hM 8).trans rfl
    have m9 : w3.cell? ⟨w.heap.size, 9, none⟩ = some (.int .i64 a0_9) := (blk_cell hM 9).trans rfl
    have HM3 := Aside0.mk hM
    have HR3 := Aside0.mk hR
    have HB3 := Aside0.mk hB
    clear hM hR hB hK HM2 HR2 HB2
    go_wp2_with fail
    refine (row_label (w.heap.size + 1) (([] : List Int) ++ encStr a0_0 ++ encLab a0_1 a0_2 a0_3 a0_4 ++ encStr a0_5) a0_6 a0_7 a0_8 a0_9 w _ HB3.out HR3.out (by have := HS.out; simp [encStr, encLab, bytesOf_length]; omega)).mono ?_
    rintro e w4 ⟨rfl, hR, hB, hK⟩
    have hM := hK.2 _ _ _ HM3.out (by decide) (by decide)
    have m10 : w4.cell? ⟨w.heap.size, 10, none⟩ = some (.string a0_10) := (blk_cell hM 10).trans rfl
    have HM4 := Aside0.mk hM
    have HR4 := Aside0.mk hR
    have HB4 := Aside0.mk hB
    clear hM hR hB hK HM3 HR3 HB3
    go_wp2_with fail
    refine (row_text (w.heap.size + 1) (([] : List Int) ++ encStr a0_0 ++ encLab a0_1 a0_2 a0_3 a0_4 ++ encStr a0_5 ++ encLab a0_6 a0_7 a0_8 a0_9) a0_10 w _ HB4.out HR4.out (by have := HS.out; simp [encStr, encLab, bytesOf_length]; omega)).mono ?_
    rintro e w5 ⟨rfl, hR, hB, hK⟩
    have e : ([] : List Int) ++ encStr a0_0 ++ encLab a0_1 a0_2 a0_3 a0_4 ++ encStr a0_5 ++ encLab a0_6 a0_7 a0_8 a0_9 ++ (((a0_10.size : Int) % 256) :: bytesOf a0_10) = encStr a0_0 ++ (encLab a0_1 a0_2 a0_3 a0_4 ++ (encStr a0_5 ++ (encLab a0_6 a0_7 a0_8 a0_9 ++ (encStr a0_10)))) := by simp [List.append_assoc, encStr, encLab]
    have hR' : RowB w5 w.heap.size (w.heap.size + 1) (([] : List Int) ++ encStr a0_0 ++ encLab a0_1 a0_2 a0_3 a0_4 ++ encStr a0_5 ++ encLab a0_6 a0_7 a0_8 a0_9 ++ (((a0_10.size : Int) % 256) :: bytesOf a0_10)) := hR
    rw [e] at hR'
    obtain ⟨L_, hL_⟩ : ∃ L_, L_ = encStr a0_0 ++ (encLab a0_1 a0_2 a0_3 a0_4 ++ (encStr a0_5 ++ (encLab a0_6 a0_7 a0_8 a0_9 ++ (encStr a0_10)))) := ⟨_, rfl⟩
    rw [← hL_] at hR'
    have HL_ := Aside0.mk hL_
    clear hL_ e
    obtain ⟨A_, c_, hc, hRR⟩ := rowB_out hR'
    clear hR'
    have HRR := Aside0.mk hRR
    have HB5 := Aside0.mk hB
    clear hRR hR hB hK
    go_wp2
    go_ret
    refine ⟨_, rfl, ?_, HB5.out⟩
    rw [← HL_.out]
    exact HRR.out
  · rw [if_neg hs] at h
    exact absurd h (by simp)

end Go.Proofs.Ytophnhmlknbmeaa.X
