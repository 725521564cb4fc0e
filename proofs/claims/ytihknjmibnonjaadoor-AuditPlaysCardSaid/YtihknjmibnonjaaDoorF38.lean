/- Written by a program of this session over the kit's print: YtihknjmibnonjaaDoorF38. -/
import Derived.Test.YtihknjmibnonjaaDoorH
import Derived.Test.YtihknjmibnonjaaDoorNRow
namespace Go.Proofs.YtihknjmibnonjaaDoor.X
open Go.RowKit Go.Proofs.YtihknjmibnonjaaDoorW.PrintWords Go.Proofs.YtihknjmibnonjaaDoorW.PrintLast Go.Proofs.YtihknjmibnonjaaDoorW.PrintMore Go.Proofs.YtihknjmibnonjaaDoor.More
attribute [local go_sem] max2_int min2_int max_two min_two max_three min_three max_four min_four binOp_string_leq binOp_string_gtr   -- for this text's walks alone
set_option linter.unusedVariables false
set_option linter.unusedSimpArgs false

/-! ### node_EncodeEntry: function 38 -/
def node_EncodeEntry.f (a0_0 : Int) (a0_1 : Int) (a0_2 : Int) (a0_3 : Int) (a0_4 : Int) (a0_5 : ByteArray) (a0_6 : Int) (a0_7 : ByteArray) (a0_8 : Int) : Option (List Int) := if a0_5.size + a0_7.size ≤ 50000000 then some (numB a0_0 ++ (encLab a0_1 a0_2 a0_3 a0_4 ++ (encStr a0_5 ++ (encB a0_6 ++ (encStr a0_7 ++ (encB a0_8)))))) else none
set_option maxHeartbeats 8000000 in
set_option maxRecDepth 100000 in
theorem node_EncodeEntry.calls (a0_0 : Int) (a0_1 : Int) (a0_2 : Int) (a0_3 : Int) (a0_4 : Int) (a0_5 : ByteArray) (a0_6 : Int) (a0_7 : ByteArray) (a0_8 : Int) (r : List Int) (w : World) (h : node_EncodeEntry.f a0_0 a0_1 a0_2 a0_3 a0_4 a0_5 a0_6 a0_7 a0_8 = some r) :
  Calls Tryd.prog 38 #[.agg #[.int .i64 a0_0, .int .i64 a0_1, .int .i64 a0_2, .int .i64 a0_3, .int .i64 a0_4, .string a0_5, .int .i64 a0_6, .string a0_7, .int .i64 a0_8]] w fun e w' => ∃ v0_ : Value, e = .returned (v0_) ∧ Kd.R (Kd.int .u8) 5 w' w.heap.size (fun _ => True) v0_ r ∧ Below w.heap.size w w' := by
 unfold node_EncodeEntry.f at h
 by_cases hs : a0_5.size + a0_7.size ≤ 50000000
 ·rw [if_pos hs] at h
  obtain rfl := Option.some.inj h
  clear h
  have hu4 := Tryd.underlying26
  have hu5 := Tryd.underlying77
  have hu6 := Tryd.underlying23
  have HS := Aside0.mk hs
  clear hs
  have HB0 : Aside0 (Below w.heap.size w ((w.alloc (.cells #[.int .i64 a0_0, .int .i64 a0_1, .int .i64 a0_2, .int .i64 a0_3, .int .i64 a0_4, .string a0_5, .int .i64 a0_6, .string a0_7, .int .i64 a0_8] 26)).alloc (.cells #[.slice none 0 0] 77))) := ⟨below_alloc (below_alloc (Below.refl _ w) _) _⟩
  have HR0 : Aside0 (RowB ((w.alloc (.cells #[.int .i64 a0_0, .int .i64 a0_1, .int .i64 a0_2, .int .i64 a0_3, .int .i64 a0_4, .string a0_5, .int .i64 a0_6, .string a0_7, .int .i64 a0_8] 26)).alloc (.cells #[.slice none 0 0] 77)) w.heap.size (w.heap.size + 1) []) := ⟨by
   have h := rowB_new w (w.alloc (.cells #[.int .i64 a0_0, .int .i64 a0_1, .int .i64 a0_2, .int .i64 a0_3, .int .i64 a0_4, .string a0_5, .int .i64 a0_6, .string a0_7, .int .i64 a0_8] 26)) (by simp)
   rw [show (w.alloc (.cells #[.int .i64 a0_0, .int .i64 a0_1, .int .i64 a0_2, .int .i64 a0_3, .int .i64 a0_4, .string a0_5, .int .i64 a0_6, .string a0_7, .int .i64 a0_8] 26)).heap.size = w.heap.size + 1 by simp] at h
   exact h⟩
  have HM0 : Aside0 (((w.alloc (.cells #[.int .i64 a0_0, .int .i64 a0_1, .int .i64 a0_2, .int .i64 a0_3, .int .i64 a0_4, .string a0_5, .int .i64 a0_6, .string a0_7, .int .i64 a0_8] 26)).alloc (.cells #[.slice none 0 0] 77)).heap[w.heap.size]? = some (.cells #[.int .i64 a0_0, .int .i64 a0_1, .int .i64 a0_2, .int .i64 a0_3, .int .i64 a0_4, .string a0_5, .int .i64 a0_6, .string a0_7, .int .i64 a0_8] 26 (0, 0))) := ⟨blk_alloc (blk_new w _) _⟩
  go_enter Tryd.func38, Tryd.ntmps38
  go_wp2_with fail
  refine (row_number (w.heap.size + 1) (([] : List Int)) a0_0 w _ HB0.out HR0.out (by have := HS.out; simp [encStr, encLab, encB, numB, bytesOf_length] <;> omega)).mono ?_
  rintro e w1 ⟨rfl, hR, hB, hK⟩
  have hM := hK.2 _ _ _ HM0.out (by decide) (by decide)
  have m1 : w1.cell? ⟨w.heap.size, 1, none⟩ = some (.int .i64 a0_1) := (blk_cell hM 1).trans rfl
  have m2 : w1.cell? ⟨w.heap.size, 2, none⟩ = some (.int .i64 a0_2) := (blk_cell hM 2).trans rfl
  have m3 : w1.cell? ⟨w.heap.size, 3, none⟩ = some (.int .i64 a0_3) := (blk_cell hM 3).trans rfl
  have m4 : w1.cell? ⟨w.heap.size, 4, none⟩ = some (.int .i64 a0_4) := (blk_cell hM 4).trans rfl
  have HM1 := Aside0.mk hM
  have HR1 := Aside0.mk hR
  have HB1 := Aside0.mk hB
  clear hM hR hB hK HM0 HR0 HB0
  go_wp2_with fail
  refine (row_label (w.heap.size + 1) (([] : List Int) ++ numB a0_0) a0_1 a0_2 a0_3 a0_4 w _ HB1.out HR1.out (by have := HS.out; simp [encStr, encLab, encB, numB, bytesOf_length] <;> omega)).mono ?_
  rintro e w2 ⟨rfl, hR, hB, hK⟩
  have hM := hK.2 _ _ _ HM1.out (by decide) (by decide)
  have m5 : w2.cell? ⟨w.heap.size, 5, none⟩ = some (.string a0_5) := (blk_cell hM 5).trans rfl
  have HM2 := Aside0.mk hM
  have HR2 := Aside0.mk hR
  have HB2 := Aside0.mk hB
  clear hM hR hB hK HM1 HR1 HB1
  go_wp2_with fail
  refine (row_text (w.heap.size + 1) (([] : List Int) ++ numB a0_0 ++ encLab a0_1 a0_2 a0_3 a0_4) a0_5 w _ HB2.out HR2.out (by have := HS.out; simp [encStr, encLab, encB, numB, bytesOf_length] <;> omega)).mono ?_
  rintro e w3 ⟨rfl, hR, hB, hK⟩
  have hM := hK.2 _ _ _ HM2.out (by decide) (by decide)
  have m6 : w3.cell? ⟨w.heap.size, 6, none⟩ = some (.int .i64 a0_6) := (blk_cell hM 6).trans rfl
  have HM3 := Aside0.mk hM
  have HR3 := Aside0.mk hR
  have HB3 := Aside0.mk hB
  clear hM hR hB hK HM2 HR2 HB2
  go_wp2_with fail
  refine (row_byte (w.heap.size + 1) w3.heap.size (([] : List Int) ++ numB a0_0 ++ encLab a0_1 a0_2 a0_3 a0_4 ++ encStr a0_5) [a0_6] w _ (below_alloc HB3.out _) (HR3.out.alloc _) (blk_new w3 _) (by have := HS.out; simp [encStr, encLab, encB, numB, bytesOf_length] <;> omega)).mono ?_
  rintro e w4 ⟨rfl, hR, hB, hK⟩
  have hM := hK.2 _ _ _ (blk_alloc HM3.out _) (by decide) (by decide)
  have m7 : w4.cell? ⟨w.heap.size, 7, none⟩ = some (.string a0_7) := (blk_cell hM 7).trans rfl
  have HM4 := Aside0.mk hM
  have HR4 := Aside0.mk hR
  have HB4 := Aside0.mk hB
  clear hM hR hB hK HM3 HR3 HB3
  go_wp2_with fail
  refine (row_text (w.heap.size + 1) (([] : List Int) ++ numB a0_0 ++ encLab a0_1 a0_2 a0_3 a0_4 ++ encStr a0_5 ++ encB a0_6) a0_7 w _ HB4.out HR4.out (by have := HS.out; simp [encStr, encLab, encB, numB, bytesOf_length] <;> omega)).mono ?_
  rintro e w5 ⟨rfl, hR, hB, hK⟩
  have hM := hK.2 _ _ _ HM4.out (by decide) (by decide)
  have m8 : w5.cell? ⟨w.heap.size, 8, none⟩ = some (.int .i64 a0_8) := (blk_cell hM 8).trans rfl
  have HM5 := Aside0.mk hM
  have HR5 := Aside0.mk hR
  have HB5 := Aside0.mk hB
  clear hM hR hB hK HM4 HR4 HB4
  go_wp2_with fail
  refine (row_byte (w.heap.size + 1) w5.heap.size (([] : List Int) ++ numB a0_0 ++ encLab a0_1 a0_2 a0_3 a0_4 ++ encStr a0_5 ++ encB a0_6 ++ encStr a0_7) [a0_8] w _ (below_alloc HB5.out _) (HR5.out.alloc _) (blk_new w5 _) (by have := HS.out; simp [encStr, encLab, encB, numB, bytesOf_length] <;> omega)).mono ?_
  rintro e w6 ⟨rfl, hR, hB, hK⟩
  have e : (([] : List Int) ++ numB a0_0 ++ encLab a0_1 a0_2 a0_3 a0_4 ++ encStr a0_5 ++ encB a0_6 ++ encStr a0_7 ++ encB a0_8) = numB a0_0 ++ (encLab a0_1 a0_2 a0_3 a0_4 ++ (encStr a0_5 ++ (encB a0_6 ++ (encStr a0_7 ++ (encB a0_8))))) := by simp [List.append_assoc, encStr, encLab, encB, numB]
  have hR' : RowB w6 w.heap.size (w.heap.size + 1) ((([] : List Int) ++ numB a0_0 ++ encLab a0_1 a0_2 a0_3 a0_4 ++ encStr a0_5 ++ encB a0_6 ++ encStr a0_7 ++ encB a0_8)) := hR
  rw [e] at hR'
  obtain ⟨L_, hL_⟩ : ∃ L_, L_ = numB a0_0 ++ (encLab a0_1 a0_2 a0_3 a0_4 ++ (encStr a0_5 ++ (encB a0_6 ++ (encStr a0_7 ++ (encB a0_8))))) := ⟨_, rfl⟩
  rw [← hL_] at hR'
  have HL_ := Aside0.mk hL_
  clear hL_ e
  obtain ⟨A_, c_, hc, hRR⟩ := rowB_out hR'
  clear hR'
  have HRR := Aside0.mk hRR
  have HB6 := Aside0.mk hB
  clear hRR hR hB hK
  go_wp2
  go_ret
  refine ⟨_, rfl, ?_, HB6.out⟩
  rw [← HL_.out]
  exact HRR.out
 ·rw [if_neg hs] at h
  exact absurd h (by simp)

end Go.Proofs.YtihknjmibnonjaaDoor.X
