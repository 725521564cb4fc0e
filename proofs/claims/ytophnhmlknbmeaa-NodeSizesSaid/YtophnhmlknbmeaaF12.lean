/- Written by a program of this session over the kit's print: YtophnhmlknbmeaaF12. -/
import Derived.Test.YtophnhmlknbmeaaH
import Derived.Test.YtophnhmlknbmeaaNRow
namespace Go.Proofs.Ytophnhmlknbmeaa.X
open Go.RowKit Go.Proofs.YtophnhmlknbmeaaW.PrintWords Go.Proofs.YtophnhmlknbmeaaW.PrintLast Go.Proofs.YtophnhmlknbmeaaW.PrintMore Go.Proofs.Ytophnhmlknbmeaa.More
attribute [local go_sem] max2_int min2_int max_two min_two max_three min_three max_four min_four binOp_string_leq binOp_string_gtr   -- for this text's walks alone
set_option linter.unusedVariables false
set_option linter.unusedSimpArgs false

/-! ### node_Encode: function 12 -/
def encAcl (l : List S35) : List Int := l.flatMap (fun g => encStr g.f0 ++ encB g.f1)
def encWords (l : List Int) : List Int := l.flatMap numB
def encHead (p : ByteArray) (d : Int) (a b c e a' b' c' e' : Int) (n : Nat) : List Int := encStr p ++ (encB d ++ (encLab a b c e ++ (encLab a' b' c' e' ++ encB (n : Int))))
def encMid (a b c d : Int) (n : Nat) : List Int := encLab a b c d ++ encB (n : Int)
theorem encAcl_snoc (l : List S35) {i : Nat} (h : i < l.length) : encAcl (l.take (i + 1)) = encAcl (l.take i) ++ (encStr l[i].f0 ++ encB l[i].f1) := by
  rw [show l.take (i + 1) = l.take i ++ [l[i]] by rw [List.take_add_one, List.getElem?_eq_getElem h]; rfl]
  unfold encAcl
  rw [List.flatMap_append, List.flatMap_singleton]
theorem encWords_snoc (l : List Int) {i : Nat} (h : i < l.length) : encWords (l.take (i + 1)) = encWords (l.take i) ++ numB l[i] := by
  rw [show l.take (i + 1) = l.take i ++ [l[i]] by rw [List.take_add_one, List.getElem?_eq_getElem h]; rfl]
  unfold encWords
  rw [List.flatMap_append, List.flatMap_singleton]
theorem encAcl_le : ∀ (l : List S35), (∀ g ∈ l, g.f0.size ≤ 255) → (encAcl l).length ≤ 257 * l.length
  | [], _ => by simp [encAcl]
  | x :: r, h => by
    have h1 := encAcl_le r (fun g hg => h g (List.mem_cons_of_mem _ hg))
    have h2 := h x List.mem_cons_self
    have e : encAcl (x :: r) = (encStr x.f0 ++ encB x.f1) ++ encAcl r := by simp [encAcl]
    rw [e, List.length_append, List.length_append, encStr_length, List.length_cons]
    have h3 : (encB x.f1).length = 1 := rfl
    omega
theorem encWords_len : ∀ (l : List Int), (encWords l).length = 8 * l.length
  | [] => rfl
  | x :: r => by
    have e : encWords (x :: r) = numB x ++ encWords r := by simp [encWords]
    rw [e, List.length_append, encWords_len r, List.length_cons]
    have h3 : (numB x).length = 8 := rfl
    omega
theorem rdG_get {l : List S35} {i : Nat} (h : i < l.length) : rd_T35 l (i : Int) = l[i] := by
  unfold rd_T35
  rw [Int.toNat_natCast, List.getD_eq_getElem?_getD, List.getElem?_eq_getElem h]
  rfl
theorem rdI_get {l : List Int} {i : Nat} (h : i < l.length) : rd l (i : Int) = l[i] := by
  unfold rd
  rw [Int.toNat_natCast, List.getD_eq_getElem?_getD, List.getElem?_eq_getElem h]
  rfl
def encNode (a0_0 : ByteArray) (a0_1 : Bool) (a0_2 a0_3 a0_4 a0_5 : Int) (l0_6 : List S35) (a0_7 a0_8 a0_9 a0_10 : Int) (l0_11 : List Int) (a0_12 a0_13 a0_14 a0_15 : Int) : List Int := encHead a0_0 (if a0_1 = true then 1 else 0) a0_2 a0_3 a0_4 a0_5 a0_12 a0_13 a0_14 a0_15 l0_6.length ++ (encAcl l0_6 ++ (encMid a0_7 a0_8 a0_9 a0_10 l0_11.length ++ encWords l0_11))
def node_Encode.f (a0_0 : ByteArray) (a0_1 : Bool) (a0_2 a0_3 a0_4 a0_5 : Int) (l0_6 : List S35) (a0_7 a0_8 a0_9 a0_10 : Int) (l0_11 : List Int) (a0_12 a0_13 a0_14 a0_15 : Int) : Option (List Int) := if a0_0.size ≤ 255 ∧ l0_6.length ≤ 100 ∧ (∀ g ∈ l0_6, g.f0.size ≤ 255) ∧ l0_11.length ≤ 200 then some (encNode a0_0 a0_1 a0_2 a0_3 a0_4 a0_5 l0_6 a0_7 a0_8 a0_9 a0_10 l0_11 a0_12 a0_13 a0_14 a0_15) else none
set_option maxHeartbeats 16000000 in
set_option maxRecDepth 100000 in
theorem node_Encode.calls_true (a0_0 : ByteArray) (a0_2 a0_3 a0_4 a0_5 : Int) (A0_6 : Option Addr) (c0_6 : Nat) (l0_6 : List S35) (a0_7 a0_8 a0_9 a0_10 : Int) (A0_11 : Option Addr) (c0_11 : Nat) (l0_11 : List Int) (a0_12 a0_13 a0_14 a0_15 : Int) (w : World) (hr0_6 : Kd.C k35 w A0_6 l0_6.length l0_6) (hr0_11 : Kd.C (Kd.int .i64) w A0_11 l0_11.length l0_11) (hs : a0_0.size ≤ 255 ∧ l0_6.length ≤ 100 ∧ (∀ g ∈ l0_6, g.f0.size ≤ 255) ∧ l0_11.length ≤ 200) :
    Calls Try.prog 12 #[.agg #[.string a0_0, .bool true, .int .i64 a0_2, .int .i64 a0_3, .int .i64 a0_4, .int .i64 a0_5, .slice A0_6 l0_6.length c0_6, .int .i64 a0_7, .int .i64 a0_8, .int .i64 a0_9, .int .i64 a0_10, .slice A0_11 l0_11.length c0_11, .int .i64 a0_12, .int .i64 a0_13, .int .i64 a0_14, .int .i64 a0_15]] w fun e w' => ∃ v0_ : Value, e = .returned (v0_) ∧ Kd.R (Kd.int .u8) 5 w' w.heap.size (fun _ => True) v0_ (encNode a0_0 true a0_2 a0_3 a0_4 a0_5 l0_6 a0_7 a0_8 a0_9 a0_10 l0_11 a0_12 a0_13 a0_14 a0_15) ∧ Below w.heap.size w w' := by
  obtain ⟨hs1, hs2, hs3, hs4⟩ := hs
  have hu4 := Try.underlying29
  have hu5 := Try.underlying60
  have hu6 := Try.underlying23
  have hu7 := Try.underlying35
  have hu8 := Try.underlying26
  have hu9 := Try.underlying24
  have hu10 := Try.underlying27
  have hu11 := Try.underlying2
  have HS1 := Aside0.mk hs1
  have HS2 := Aside0.mk hs2
  have HS3 := Aside0.mk hs3
  have HS4 := Aside0.mk hs4
  have HCA := Aside0.mk hr0_6
  have HCW := Aside0.mk hr0_11
  have hlen1 : l0_6.length ≤ 9223372036854775807 := by omega
  have hlen2 : l0_11.length ≤ 9223372036854775807 := by omega
  clear hs1 hs2 hs3 hs4 hr0_6 hr0_11
  have HB0 : Aside0 (Below w.heap.size w ((w.alloc (.cells #[.string a0_0, .bool true, .int .i64 a0_2, .int .i64 a0_3, .int .i64 a0_4, .int .i64 a0_5, .slice A0_6 l0_6.length c0_6, .int .i64 a0_7, .int .i64 a0_8, .int .i64 a0_9, .int .i64 a0_10, .slice A0_11 l0_11.length c0_11, .int .i64 a0_12, .int .i64 a0_13, .int .i64 a0_14, .int .i64 a0_15] 29)).alloc (.cells #[.slice none 0 0] 60))) := ⟨below_alloc (below_alloc (Below.refl _ w) _) _⟩
  have HR0 : Aside0 (RowB ((w.alloc (.cells #[.string a0_0, .bool true, .int .i64 a0_2, .int .i64 a0_3, .int .i64 a0_4, .int .i64 a0_5, .slice A0_6 l0_6.length c0_6, .int .i64 a0_7, .int .i64 a0_8, .int .i64 a0_9, .int .i64 a0_10, .slice A0_11 l0_11.length c0_11, .int .i64 a0_12, .int .i64 a0_13, .int .i64 a0_14, .int .i64 a0_15] 29)).alloc (.cells #[.slice none 0 0] 60)) w.heap.size (w.heap.size + 1) []) := ⟨by
    have h := rowB_new w (w.alloc (.cells #[.string a0_0, .bool true, .int .i64 a0_2, .int .i64 a0_3, .int .i64 a0_4, .int .i64 a0_5, .slice A0_6 l0_6.length c0_6, .int .i64 a0_7, .int .i64 a0_8, .int .i64 a0_9, .int .i64 a0_10, .slice A0_11 l0_11.length c0_11, .int .i64 a0_12, .int .i64 a0_13, .int .i64 a0_14, .int .i64 a0_15] 29)) (by simp)
    rw [show (w.alloc (.cells #[.string a0_0, .bool true, .int .i64 a0_2, .int .i64 a0_3, .int .i64 a0_4, .int .i64 a0_5, .slice A0_6 l0_6.length c0_6, .int .i64 a0_7, .int .i64 a0_8, .int .i64 a0_9, .int .i64 a0_10, .slice A0_11 l0_11.length c0_11, .int .i64 a0_12, .int .i64 a0_13, .int .i64 a0_14, .int .i64 a0_15] 29)).heap.size = w.heap.size + 1 by simp] at h
    exact h⟩
  have HM0 : Aside0 (((w.alloc (.cells #[.string a0_0, .bool true, .int .i64 a0_2, .int .i64 a0_3, .int .i64 a0_4, .int .i64 a0_5, .slice A0_6 l0_6.length c0_6, .int .i64 a0_7, .int .i64 a0_8, .int .i64 a0_9, .int .i64 a0_10, .slice A0_11 l0_11.length c0_11, .int .i64 a0_12, .int .i64 a0_13, .int .i64 a0_14, .int .i64 a0_15] 29)).alloc (.cells #[.slice none 0 0] 60)).heap[w.heap.size]? = some (.cells #[.string a0_0, .bool true, .int .i64 a0_2, .int .i64 a0_3, .int .i64 a0_4, .int .i64 a0_5, .slice A0_6 l0_6.length c0_6, .int .i64 a0_7, .int .i64 a0_8, .int .i64 a0_9, .int .i64 a0_10, .slice A0_11 l0_11.length c0_11, .int .i64 a0_12, .int .i64 a0_13, .int .i64 a0_14, .int .i64 a0_15] 29 (0, 0))) := ⟨blk_alloc (blk_new w _) _⟩
  go_enter Try.func12, Try.ntmps12
  go_wp2_with fail
  refine (row_text (w.heap.size + 1) (([] : List Int)) a0_0 w _ HB0.out HR0.out (by have := HS1.out; simp [encStr, encLab, encB, numB, bytesOf_length] <;> omega)).mono ?_
  rintro e w1 ⟨rfl, hR, hB, hK⟩
  have hM := hK.2 _ _ _ HM0.out (by decide) (by decide)
  have m1 : w1.cell? ⟨w.heap.size, 1, none⟩ = some (.bool true) := (blk_cell hM 1).trans rfl
  have HM1 := Aside0.mk hM
  have HR1 := Aside0.mk hR
  have HB1 := Aside0.mk hB
  clear hM hR hB hK HM0 HR0 HB0
  go_wp2_with fail
  refine (row_byte (w.heap.size + 1) w1.heap.size (([] : List Int) ++ encStr a0_0) [(1 : Int)] w _ (below_alloc HB1.out _) (HR1.out.alloc _) (blk_new w1 _) (by have := HS1.out; simp [encStr, encLab, encB, numB, bytesOf_length] <;> omega)).mono ?_
  rintro e w2 ⟨rfl, hR, hB, hK⟩
  have hM := hK.2 _ _ _ (blk_alloc HM1.out _) (by decide) (by decide)
  have m2 : w2.cell? ⟨w.heap.size, 2, none⟩ = some (.int .i64 a0_2) := (blk_cell hM 2).trans rfl
  have m3 : w2.cell? ⟨w.heap.size, 3, none⟩ = some (.int .i64 a0_3) := (blk_cell hM 3).trans rfl
  have m4 : w2.cell? ⟨w.heap.size, 4, none⟩ = some (.int .i64 a0_4) := (blk_cell hM 4).trans rfl
  have m5 : w2.cell? ⟨w.heap.size, 5, none⟩ = some (.int .i64 a0_5) := (blk_cell hM 5).trans rfl
  have HM2 := Aside0.mk hM
  have HR2 := Aside0.mk hR
  have HB2 := Aside0.mk hB
  clear hM hR hB hK HM1 HR1 HB1
  go_wp2_with fail
  refine (row_label (w.heap.size + 1) (([] : List Int) ++ encStr a0_0 ++ [(1 : Int)].map (· % 256)) a0_2 a0_3 a0_4 a0_5 w _ HB2.out HR2.out (by have := HS1.out; simp [encStr, encLab, encB, numB, bytesOf_length] <;> omega)).mono ?_
  rintro e w3 ⟨rfl, hR, hB, hK⟩
  have hM := hK.2 _ _ _ HM2.out (by decide) (by decide)
  have m12 : w3.cell? ⟨w.heap.size, 12, none⟩ = some (.int .i64 a0_12) := (blk_cell hM 12).trans rfl
  have m13 : w3.cell? ⟨w.heap.size, 13, none⟩ = some (.int .i64 a0_13) := (blk_cell hM 13).trans rfl
  have m14 : w3.cell? ⟨w.heap.size, 14, none⟩ = some (.int .i64 a0_14) := (blk_cell hM 14).trans rfl
  have m15 : w3.cell? ⟨w.heap.size, 15, none⟩ = some (.int .i64 a0_15) := (blk_cell hM 15).trans rfl
  have HM3 := Aside0.mk hM
  have HR3 := Aside0.mk hR
  have HB3 := Aside0.mk hB
  clear hM hR hB hK HM2 HR2 HB2
  go_wp2_with fail
  refine (row_label (w.heap.size + 1) (([] : List Int) ++ encStr a0_0 ++ [(1 : Int)].map (· % 256) ++ encLab a0_2 a0_3 a0_4 a0_5) a0_12 a0_13 a0_14 a0_15 w _ HB3.out HR3.out (by have := HS1.out; simp [encStr, encLab, encB, numB, bytesOf_length] <;> omega)).mono ?_
  rintro e w4 ⟨rfl, hR, hB, hK⟩
  have hM := hK.2 _ _ _ HM3.out (by decide) (by decide)
  have m6 : w4.cell? ⟨w.heap.size, 6, none⟩ = some (.slice A0_6 l0_6.length c0_6) := (blk_cell hM 6).trans rfl
  have HM4 := Aside0.mk hM
  have HR4 := Aside0.mk hR
  have HB4 := Aside0.mk hB
  clear hM hR hB hK HM3 HR3 HB3
  go_wp2_with fail
  refine (row_byte (w.heap.size + 1) w4.heap.size (([] : List Int) ++ encStr a0_0 ++ [(1 : Int)].map (· % 256) ++ encLab a0_2 a0_3 a0_4 a0_5 ++ encLab a0_12 a0_13 a0_14 a0_15) [(l0_6.length : Int)] w _ (below_alloc HB4.out _) (HR4.out.alloc _) (blk_new w4 _) (by have := HS1.out; simp [encStr, encLab, encB, numB, bytesOf_length] <;> omega)).mono ?_
  rintro e w5 ⟨rfl, hR, hB, hK⟩
  have hM := hK.2 _ _ _ (blk_alloc HM4.out _) (by decide) (by decide)
  have m6 : w5.cell? ⟨w.heap.size, 6, none⟩ = some (.slice A0_6 l0_6.length c0_6) := (blk_cell hM 6).trans rfl
  have HM5 := Aside0.mk hM
  have HR5 := Aside0.mk hR
  have HB5 := Aside0.mk hB
  clear hM hR hB hK HM4 HR4 HB4
  obtain ⟨P, hP⟩ : ∃ P, P = encHead a0_0 1 a0_2 a0_3 a0_4 a0_5 a0_12 a0_13 a0_14 a0_15 l0_6.length := ⟨_, rfl⟩
  have HRP : Aside0 (RowB w5 w.heap.size (w.heap.size + 1) P) := ⟨by
    have h := HR5.out
    have e : (([] : List Int) ++ encStr a0_0 ++ [(1 : Int)].map (· % 256) ++ encLab a0_2 a0_3 a0_4 a0_5 ++ encLab a0_12 a0_13 a0_14 a0_15 ++ [(l0_6.length : Int)].map (· % 256)) = P := by rw [hP]; simp [encHead, encStr, encLab, encB]
    exact e ▸ h⟩
  have HPL : Aside0 (P.length ≤ 300) := ⟨by have := HS1.out; rw [hP]; simp [encHead, encStr, encLab, encB, bytesOf_length]; omega⟩
  have HP := Aside0.mk hP
  clear hP HR5
  go_wp2_with fail
  go_loopg [38] l0_6.length (fun kq v38 W => ∃ i : Nat, v38 = .int .i64 (i : Int) ∧ Aside0 (i + kq = l0_6.length) ∧ Aside0 (RowB W w.heap.size (w.heap.size + 1) (P ++ encAcl (l0_6.take i))) ∧ Aside0 (Below w.heap.size w W) ∧ Aside0 (W.heap[w.heap.size]? = some (.cells #[.string a0_0, .bool true, .int .i64 a0_2, .int .i64 a0_3, .int .i64 a0_4, .int .i64 a0_5, .slice A0_6 l0_6.length c0_6, .int .i64 a0_7, .int .i64 a0_8, .int .i64 a0_9, .int .i64 a0_10, .slice A0_11 l0_11.length c0_11, .int .i64 a0_12, .int .i64 a0_13, .int .i64 a0_14, .int .i64 a0_15] 29 (0, 0))))
  case atStart => exact ⟨0, rfl, ⟨by omega⟩, ⟨by have := HRP.out; simpa [encAcl] using this⟩, HB5, HM5⟩
  case round =>
    obtain ⟨i, rfl, HI, HR1, HB1, HM1⟩ := hrel
    clear HRP HB5 HM5 m6
    by_cases hlt : i < l0_6.length
    · obtain ⟨ad, eA, x0, x1⟩ := at_T35 (Kd.C_below HCA.out HB1.out) (i : Int) (by omega) (by omega)
      simp only [Int.toNat_natCast] at x0 x1
      rw [rdG_get hlt] at x0 x1
      have HEA := Aside0.mk eA
      clear eA
      have hlt' : (i : Int) < (l0_6.length : Int) := by omega
      have h00 : (0 : Int) ≤ (i : Int) := by omega
      obtain ⟨L, hL⟩ : ∃ L, L = P ++ encAcl (l0_6.take i) := ⟨_, rfl⟩
      have hR1 := HR1.out
      rw [← hL] at hR1
      have HR1 := Aside0.mk hR1
      have HLL : Aside0 (L.length ≤ 30000) := ⟨by
        have h1 := encAcl_le (l0_6.take i) (fun g hg => HS3.out g (List.mem_of_mem_take hg))
        have h2 := HPL.out
        have h3 := HS2.out
        rw [List.length_take] at h1
        rw [hL, List.length_append]
        omega⟩
      have HG : Aside0 (l0_6[i].f0.size ≤ 255) := ⟨HS3.out _ (List.getElem_mem hlt)⟩
      have HL := Aside0.mk hL
      clear hL hR1
      have eA := HEA.out
      subst eA
      clear HEA
      go_wp2_with fail
      refine (row_text (w.heap.size + 1) L l0_6[i].f0 w _ (below_alloc HB1.out _) (HR1.out.alloc _) (by have := HLL.out; have := HG.out; omega)).mono ?_
      rintro e w6 ⟨rfl, hR, hB, hK⟩
      have hx := hK.2 _ _ _ (blk_new wr _) (by decide) (by decide)
      have y1 : w6.cell? ⟨wr.heap.size, 1, none⟩ = some (.int .i64 l0_6[i].f1) := (blk_cell hx 1).trans rfl
      have HM2 := Aside0.mk (hK.2 _ _ _ (blk_alloc HM1.out _) (by decide) (by decide))
      have HR2 := Aside0.mk hR
      have HB2 := Aside0.mk hB
      clear hx hR hB hK x0 x1
      go_wp2_with fail
      refine (row_byte (w.heap.size + 1) w6.heap.size (L ++ (((l0_6[i].f0.size : Int) % 256) :: bytesOf l0_6[i].f0)) [l0_6[i].f1] w _ (below_alloc HB2.out _) (HR2.out.alloc _) (blk_new w6 _) (by have := HLL.out; have := HG.out; simp [bytesOf_length]; omega)).mono ?_
      rintro e w7 ⟨rfl, hR, hB, hK⟩
      have HM3 := Aside0.mk (hK.2 _ _ _ (blk_alloc HM2.out _) (by decide) (by decide))
      have HR3 := Aside0.mk hR
      have HB3 := Aside0.mk hB
      clear hR hB hK y1
      go_wp2
      go_roundg (gk - 1)
      case measure => have := HI.out; omega
      case rel => exact ⟨i + 1, by go_num, ⟨by have := HI.out; omega⟩, ⟨by
        have e : P ++ encAcl (l0_6.take (i + 1)) = L ++ (((l0_6[i].f0.size : Int) % 256) :: bytesOf l0_6[i].f0) ++ [l0_6[i].f1].map (· % 256) := by
          rw [encAcl_snoc l0_6 hlt, HL.out]
          simp [encStr, encB]
        rw [e]
        exact HR3.out⟩, HB3, HM3⟩
    · have hle : (l0_6.length : Int) ≤ (i : Int) := by omega
      have hI := HI.out
      have hieq : i = l0_6.length := by omega
      have HRQ : Aside0 (RowB wr w.heap.size (w.heap.size + 1) (P ++ encAcl l0_6)) := ⟨by have h := HR1.out; rwa [hieq, List.take_of_length_le (Nat.le_refl _)] at h⟩
      clear hieq hI HR1
      have m7 : wr.cell? ⟨w.heap.size, 7, none⟩ = some (.int .i64 a0_7) := (blk_cell HM1.out 7).trans rfl
      have m8 : wr.cell? ⟨w.heap.size, 8, none⟩ = some (.int .i64 a0_8) := (blk_cell HM1.out 8).trans rfl
      have m9 : wr.cell? ⟨w.heap.size, 9, none⟩ = some (.int .i64 a0_9) := (blk_cell HM1.out 9).trans rfl
      have m10 : wr.cell? ⟨w.heap.size, 10, none⟩ = some (.int .i64 a0_10) := (blk_cell HM1.out 10).trans rfl
      have m11 : wr.cell? ⟨w.heap.size, 11, none⟩ = some (.slice A0_11 l0_11.length c0_11) := (blk_cell HM1.out 11).trans rfl
      obtain ⟨L, hL⟩ : ∃ L, L = P ++ encAcl l0_6 := ⟨_, rfl⟩
      have hRQ := HRQ.out
      rw [← hL] at hRQ
      have HRQ := Aside0.mk hRQ
      have HLL : Aside0 (L.length ≤ 30000) := ⟨by
        have h1 := encAcl_le l0_6 HS3.out
        have h2 := HPL.out
        have h3 := HS2.out
        rw [hL, List.length_append]
        omega⟩
      have HL := Aside0.mk hL
      clear hL hRQ
      go_wp2_with fail
      refine (row_byte (w.heap.size + 1) wr.heap.size L [a0_7, a0_8, a0_9, a0_10, (l0_11.length : Int)] w _ (below_alloc HB1.out _) (HRQ.out.alloc _) (blk_new wr _) (by have := HLL.out; simp; omega)).mono ?_
      rintro e w8 ⟨rfl, hR, hB, hK⟩
      have hM := hK.2 _ _ _ (blk_alloc HM1.out _) (by decide) (by decide)
      have n11 : w8.cell? ⟨w.heap.size, 11, none⟩ = some (.slice A0_11 l0_11.length c0_11) := (blk_cell hM 11).trans rfl
      obtain ⟨Q, hQ⟩ : ∃ Q, Q = L ++ encMid a0_7 a0_8 a0_9 a0_10 l0_11.length := ⟨_, rfl⟩
      have HR8 : Aside0 (RowB w8 w.heap.size (w.heap.size + 1) Q) := ⟨by rw [hQ]; exact hR⟩
      have HQL : Aside0 (Q.length ≤ 31000) := ⟨by have := HLL.out; rw [hQ]; simp [encMid, encLab, encB]; omega⟩
      have HQ := Aside0.mk hQ
      have HB8 := Aside0.mk hB
      clear hM hR hB hK hQ m7 m8 m9 m10 m11
      go_wp2_with fail
      go_loopg [73] l0_11.length (fun kq v73 W => ∃ i : Nat, v73 = .int .i64 (i : Int) ∧ Aside0 (i + kq = l0_11.length) ∧ Aside0 (RowB W w.heap.size (w.heap.size + 1) (Q ++ encWords (l0_11.take i))) ∧ Aside0 (Below w.heap.size w W))
      case atStart => exact ⟨0, rfl, ⟨by omega⟩, ⟨by have := HR8.out; simpa [encWords] using this⟩, HB8⟩
      case round =>
        obtain ⟨j, rfl, HJ, HR9, HB9⟩ := hrel
        clear HR8 HB8 n11
        by_cases hlt2 : j < l0_11.length
        · obtain ⟨ad, eA, x0⟩ := Kd.at_int (Kd.C_below HCW.out HB9.out) (j : Int) (by omega) (by omega)
          simp only [Int.toNat_natCast] at x0
          rw [rdI_get hlt2] at x0
          subst eA
          have hlt' : (j : Int) < (l0_11.length : Int) := by omega
          have h00 : (0 : Int) ≤ (j : Int) := by omega
          obtain ⟨L2, hL2⟩ : ∃ L2, L2 = Q ++ encWords (l0_11.take j) := ⟨_, rfl⟩
          have hR9 := HR9.out
          rw [← hL2] at hR9
          have HR9 := Aside0.mk hR9
          have HLL2 : Aside0 (L2.length ≤ 40000) := ⟨by
            have h1 := encWords_len (l0_11.take j)
            have h2 := HQL.out
            have h3 := HS4.out
            rw [List.length_take] at h1
            rw [hL2, List.length_append]
            omega⟩
          have HL2 := Aside0.mk hL2
          clear hL2 hR9
          go_wp2_with fail
          refine (row_number (w.heap.size + 1) L2 l0_11[j] w _ HB9.out HR9.out (by have := HLL2.out; omega)).mono ?_
          rintro e w10 ⟨rfl, hR, hB, hK⟩
          have HR10 := Aside0.mk hR
          have HB10 := Aside0.mk hB
          clear hR hB hK x0
          go_wp2
          go_roundg (gk - 1)
          case measure => have := HJ.out; omega
          case rel => exact ⟨j + 1, by go_num, ⟨by have := HJ.out; omega⟩, ⟨by
            rw [encWords_snoc l0_11 hlt2, ← List.append_assoc, ← HL2.out]
            exact HR10.out⟩, HB10⟩
        · have hle2 : (l0_11.length : Int) ≤ (j : Int) := by omega
          have hJ := HJ.out
          have hjeq : j = l0_11.length := by omega
          have HRZ : Aside0 (RowB wr w.heap.size (w.heap.size + 1) (encNode a0_0 true a0_2 a0_3 a0_4 a0_5 l0_6 a0_7 a0_8 a0_9 a0_10 l0_11 a0_12 a0_13 a0_14 a0_15)) := ⟨by
            have h := HR9.out
            rw [hjeq, List.take_of_length_le (Nat.le_refl _), HQ.out, HL.out, HP.out, List.append_assoc, List.append_assoc] at h
            exact h⟩
          clear hjeq hJ HR9
          obtain ⟨Z, hZ⟩ : ∃ Z, Z = encNode a0_0 true a0_2 a0_3 a0_4 a0_5 l0_6 a0_7 a0_8 a0_9 a0_10 l0_11 a0_12 a0_13 a0_14 a0_15 := ⟨_, rfl⟩
          have hRZ := HRZ.out
          rw [← hZ] at hRZ
          have HZ := Aside0.mk hZ
          clear hZ
          obtain ⟨A_, c_, hc, hRR⟩ := rowB_out hRZ
          have HRR := Aside0.mk hRR
          clear hRZ hRR
          go_wp2
          go_ret
          refine ⟨_, rfl, ?_, HB9.out⟩
          rw [← HZ.out]
          exact HRR.out
set_option maxHeartbeats 16000000 in
set_option maxRecDepth 100000 in
theorem node_Encode.calls_false (a0_0 : ByteArray) (a0_2 a0_3 a0_4 a0_5 : Int) (A0_6 : Option Addr) (c0_6 : Nat) (l0_6 : List S35) (a0_7 a0_8 a0_9 a0_10 : Int) (A0_11 : Option Addr) (c0_11 : Nat) (l0_11 : List Int) (a0_12 a0_13 a0_14 a0_15 : Int) (w : World) (hr0_6 : Kd.C k35 w A0_6 l0_6.length l0_6) (hr0_11 : Kd.C (Kd.int .i64) w A0_11 l0_11.length l0_11) (hs : a0_0.size ≤ 255 ∧ l0_6.length ≤ 100 ∧ (∀ g ∈ l0_6, g.f0.size ≤ 255) ∧ l0_11.length ≤ 200) :
    Calls Try.prog 12 #[.agg #[.string a0_0, .bool false, .int .i64 a0_2, .int .i64 a0_3, .int .i64 a0_4, .int .i64 a0_5, .slice A0_6 l0_6.length c0_6, .int .i64 a0_7, .int .i64 a0_8, .int .i64 a0_9, .int .i64 a0_10, .slice A0_11 l0_11.length c0_11, .int .i64 a0_12, .int .i64 a0_13, .int .i64 a0_14, .int .i64 a0_15]] w fun e w' => ∃ v0_ : Value, e = .returned (v0_) ∧ Kd.R (Kd.int .u8) 5 w' w.heap.size (fun _ => True) v0_ (encNode a0_0 false a0_2 a0_3 a0_4 a0_5 l0_6 a0_7 a0_8 a0_9 a0_10 l0_11 a0_12 a0_13 a0_14 a0_15) ∧ Below w.heap.size w w' := by
  obtain ⟨hs1, hs2, hs3, hs4⟩ := hs
  have hu4 := Try.underlying29
  have hu5 := Try.underlying60
  have hu6 := Try.underlying23
  have hu7 := Try.underlying35
  have hu8 := Try.underlying26
  have hu9 := Try.underlying24
  have hu10 := Try.underlying27
  have hu11 := Try.underlying2
  have HS1 := Aside0.mk hs1
  have HS2 := Aside0.mk hs2
  have HS3 := Aside0.mk hs3
  have HS4 := Aside0.mk hs4
  have HCA := Aside0.mk hr0_6
  have HCW := Aside0.mk hr0_11
  have hlen1 : l0_6.length ≤ 9223372036854775807 := by omega
  have hlen2 : l0_11.length ≤ 9223372036854775807 := by omega
  clear hs1 hs2 hs3 hs4 hr0_6 hr0_11
  have HB0 : Aside0 (Below w.heap.size w ((w.alloc (.cells #[.string a0_0, .bool false, .int .i64 a0_2, .int .i64 a0_3, .int .i64 a0_4, .int .i64 a0_5, .slice A0_6 l0_6.length c0_6, .int .i64 a0_7, .int .i64 a0_8, .int .i64 a0_9, .int .i64 a0_10, .slice A0_11 l0_11.length c0_11, .int .i64 a0_12, .int .i64 a0_13, .int .i64 a0_14, .int .i64 a0_15] 29)).alloc (.cells #[.slice none 0 0] 60))) := ⟨below_alloc (below_alloc (Below.refl _ w) _) _⟩
  have HR0 : Aside0 (RowB ((w.alloc (.cells #[.string a0_0, .bool false, .int .i64 a0_2, .int .i64 a0_3, .int .i64 a0_4, .int .i64 a0_5, .slice A0_6 l0_6.length c0_6, .int .i64 a0_7, .int .i64 a0_8, .int .i64 a0_9, .int .i64 a0_10, .slice A0_11 l0_11.length c0_11, .int .i64 a0_12, .int .i64 a0_13, .int .i64 a0_14, .int .i64 a0_15] 29)).alloc (.cells #[.slice none 0 0] 60)) w.heap.size (w.heap.size + 1) []) := ⟨by
    have h := rowB_new w (w.alloc (.cells #[.string a0_0, .bool false, .int .i64 a0_2, .int .i64 a0_3, .int .i64 a0_4, .int .i64 a0_5, .slice A0_6 l0_6.length c0_6, .int .i64 a0_7, .int .i64 a0_8, .int .i64 a0_9, .int .i64 a0_10, .slice A0_11 l0_11.length c0_11, .int .i64 a0_12, .int .i64 a0_13, .int .i64 a0_14, .int .i64 a0_15] 29)) (by simp)
    rw [show (w.alloc (.cells #[.string a0_0, .bool false, .int .i64 a0_2, .int .i64 a0_3, .int .i64 a0_4, .int .i64 a0_5, .slice A0_6 l0_6.length c0_6, .int .i64 a0_7, .int .i64 a0_8, .int .i64 a0_9, .int .i64 a0_10, .slice A0_11 l0_11.length c0_11, .int .i64 a0_12, .int .i64 a0_13, .int .i64 a0_14, .int .i64 a0_15] 29)).heap.size = w.heap.size + 1 by simp] at h
    exact h⟩
  have HM0 : Aside0 (((w.alloc (.cells #[.string a0_0, .bool false, .int .i64 a0_2, .int .i64 a0_3, .int .i64 a0_4, .int .i64 a0_5, .slice A0_6 l0_6.length c0_6, .int .i64 a0_7, .int .i64 a0_8, .int .i64 a0_9, .int .i64 a0_10, .slice A0_11 l0_11.length c0_11, .int .i64 a0_12, .int .i64 a0_13, .int .i64 a0_14, .int .i64 a0_15] 29)).alloc (.cells #[.slice none 0 0] 60)).heap[w.heap.size]? = some (.cells #[.string a0_0, .bool false, .int .i64 a0_2, .int .i64 a0_3, .int .i64 a0_4, .int .i64 a0_5, .slice A0_6 l0_6.length c0_6, .int .i64 a0_7, .int .i64 a0_8, .int .i64 a0_9, .int .i64 a0_10, .slice A0_11 l0_11.length c0_11, .int .i64 a0_12, .int .i64 a0_13, .int .i64 a0_14, .int .i64 a0_15] 29 (0, 0))) := ⟨blk_alloc (blk_new w _) _⟩
  go_enter Try.func12, Try.ntmps12
  go_wp2_with fail
  refine (row_text (w.heap.size + 1) (([] : List Int)) a0_0 w _ HB0.out HR0.out (by have := HS1.out; simp [encStr, encLab, encB, numB, bytesOf_length] <;> omega)).mono ?_
  rintro e w1 ⟨rfl, hR, hB, hK⟩
  have hM := hK.2 _ _ _ HM0.out (by decide) (by decide)
  have m1 : w1.cell? ⟨w.heap.size, 1, none⟩ = some (.bool false) := (blk_cell hM 1).trans rfl
  have HM1 := Aside0.mk hM
  have HR1 := Aside0.mk hR
  have HB1 := Aside0.mk hB
  clear hM hR hB hK HM0 HR0 HB0
  go_wp2_with fail
  refine (row_byte (w.heap.size + 1) w1.heap.size (([] : List Int) ++ encStr a0_0) [(0 : Int)] w _ (below_alloc HB1.out _) (HR1.out.alloc _) (blk_new w1 _) (by have := HS1.out; simp [encStr, encLab, encB, numB, bytesOf_length] <;> omega)).mono ?_
  rintro e w2 ⟨rfl, hR, hB, hK⟩
  have hM := hK.2 _ _ _ (blk_alloc HM1.out _) (by decide) (by decide)
  have m2 : w2.cell? ⟨w.heap.size, 2, none⟩ = some (.int .i64 a0_2) := (blk_cell hM 2).trans rfl
  have m3 : w2.cell? ⟨w.heap.size, 3, none⟩ = some (.int .i64 a0_3) := (blk_cell hM 3).trans rfl
  have m4 : w2.cell? ⟨w.heap.size, 4, none⟩ = some (.int .i64 a0_4) := (blk_cell hM 4).trans rfl
  have m5 : w2.cell? ⟨w.heap.size, 5, none⟩ = some (.int .i64 a0_5) := (blk_cell hM 5).trans rfl
  have HM2 := Aside0.mk hM
  have HR2 := Aside0.mk hR
  have HB2 := Aside0.mk hB
  clear hM hR hB hK HM1 HR1 HB1
  go_wp2_with fail
  refine (row_label (w.heap.size + 1) (([] : List Int) ++ encStr a0_0 ++ [(0 : Int)].map (· % 256)) a0_2 a0_3 a0_4 a0_5 w _ HB2.out HR2.out (by have := HS1.out; simp [encStr, encLab, encB, numB, bytesOf_length] <;> omega)).mono ?_
  rintro e w3 ⟨rfl, hR, hB, hK⟩
  have hM := hK.2 _ _ _ HM2.out (by decide) (by decide)
  have m12 : w3.cell? ⟨w.heap.size, 12, none⟩ = some (.int .i64 a0_12) := (blk_cell hM 12).trans rfl
  have m13 : w3.cell? ⟨w.heap.size, 13, none⟩ = some (.int .i64 a0_13) := (blk_cell hM 13).trans rfl
  have m14 : w3.cell? ⟨w.heap.size, 14, none⟩ = some (.int .i64 a0_14) := (blk_cell hM 14).trans rfl
  have m15 : w3.cell? ⟨w.heap.size, 15, none⟩ = some (.int .i64 a0_15) := (blk_cell hM 15).trans rfl
  have HM3 := Aside0.mk hM
  have HR3 := Aside0.mk hR
  have HB3 := Aside0.mk hB
  clear hM hR hB hK HM2 HR2 HB2
  go_wp2_with fail
  refine (row_label (w.heap.size + 1) (([] : List Int) ++ encStr a0_0 ++ [(0 : Int)].map (· % 256) ++ encLab a0_2 a0_3 a0_4 a0_5) a0_12 a0_13 a0_14 a0_15 w _ HB3.out HR3.out (by have := HS1.out; simp [encStr, encLab, encB, numB, bytesOf_length] <;> omega)).mono ?_
  rintro e w4 ⟨rfl, hR, hB, hK⟩
  have hM := hK.2 _ _ _ HM3.out (by decide) (by decide)
  have m6 : w4.cell? ⟨w.heap.size, 6, none⟩ = some (.slice A0_6 l0_6.length c0_6) := (blk_cell hM 6).trans rfl
  have HM4 := Aside0.mk hM
  have HR4 := Aside0.mk hR
  have HB4 := Aside0.mk hB
  clear hM hR hB hK HM3 HR3 HB3
  go_wp2_with fail
  refine (row_byte (w.heap.size + 1) w4.heap.size (([] : List Int) ++ encStr a0_0 ++ [(0 : Int)].map (· % 256) ++ encLab a0_2 a0_3 a0_4 a0_5 ++ encLab a0_12 a0_13 a0_14 a0_15) [(l0_6.length : Int)] w _ (below_alloc HB4.out _) (HR4.out.alloc _) (blk_new w4 _) (by have := HS1.out; simp [encStr, encLab, encB, numB, bytesOf_length] <;> omega)).mono ?_
  rintro e w5 ⟨rfl, hR, hB, hK⟩
  have hM := hK.2 _ _ _ (blk_alloc HM4.out _) (by decide) (by decide)
  have m6 : w5.cell? ⟨w.heap.size, 6, none⟩ = some (.slice A0_6 l0_6.length c0_6) := (blk_cell hM 6).trans rfl
  have HM5 := Aside0.mk hM
  have HR5 := Aside0.mk hR
  have HB5 := Aside0.mk hB
  clear hM hR hB hK HM4 HR4 HB4
  obtain ⟨P, hP⟩ : ∃ P, P = encHead a0_0 0 a0_2 a0_3 a0_4 a0_5 a0_12 a0_13 a0_14 a0_15 l0_6.length := ⟨_, rfl⟩
  have HRP : Aside0 (RowB w5 w.heap.size (w.heap.size + 1) P) := ⟨by
    have h := HR5.out
    have e : (([] : List Int) ++ encStr a0_0 ++ [(0 : Int)].map (· % 256) ++ encLab a0_2 a0_3 a0_4 a0_5 ++ encLab a0_12 a0_13 a0_14 a0_15 ++ [(l0_6.length : Int)].map (· % 256)) = P := by rw [hP]; simp [encHead, encStr, encLab, encB]
    exact e ▸ h⟩
  have HPL : Aside0 (P.length ≤ 300) := ⟨by have := HS1.out; rw [hP]; simp [encHead, encStr, encLab, encB, bytesOf_length]; omega⟩
  have HP := Aside0.mk hP
  clear hP HR5
  go_wp2_with fail
  go_loopg [38] l0_6.length (fun kq v38 W => ∃ i : Nat, v38 = .int .i64 (i : Int) ∧ Aside0 (i + kq = l0_6.length) ∧ Aside0 (RowB W w.heap.size (w.heap.size + 1) (P ++ encAcl (l0_6.take i))) ∧ Aside0 (Below w.heap.size w W) ∧ Aside0 (W.heap[w.heap.size]? = some (.cells #[.string a0_0, .bool false, .int .i64 a0_2, .int .i64 a0_3, .int .i64 a0_4, .int .i64 a0_5, .slice A0_6 l0_6.length c0_6, .int .i64 a0_7, .int .i64 a0_8, .int .i64 a0_9, .int .i64 a0_10, .slice A0_11 l0_11.length c0_11, .int .i64 a0_12, .int .i64 a0_13, .int .i64 a0_14, .int .i64 a0_15] 29 (0, 0))))
  case atStart => exact ⟨0, rfl, ⟨by omega⟩, ⟨by have := HRP.out; simpa [encAcl] using this⟩, HB5, HM5⟩
  case round =>
    obtain ⟨i, rfl, HI, HR1, HB1, HM1⟩ := hrel
    clear HRP HB5 HM5 m6
    by_cases hlt : i < l0_6.length
    · obtain ⟨ad, eA, x0, x1⟩ := at_T35 (Kd.C_below HCA.out HB1.out) (i : Int) (by omega) (by omega)
      simp only [Int.toNat_natCast] at x0 x1
      rw [rdG_get hlt] at x0 x1
      have HEA := Aside0.mk eA
      clear eA
      have hlt' : (i : Int) < (l0_6.length : Int) := by omega
      have h00 : (0 : Int) ≤ (i : Int) := by omega
      obtain ⟨L, hL⟩ : ∃ L, L = P ++ encAcl (l0_6.take i) := ⟨_, rfl⟩
      have hR1 := HR1.out
      rw [← hL] at hR1
      have HR1 := Aside0.mk hR1
      have HLL : Aside0 (L.length ≤ 30000) := ⟨by
        have h1 := encAcl_le (l0_6.take i) (fun g hg => HS3.out g (List.mem_of_mem_take hg))
        have h2 := HPL.out
        have h3 := HS2.out
        rw [List.length_take] at h1
        rw [hL, List.length_append]
        omega⟩
      have HG : Aside0 (l0_6[i].f0.size ≤ 255) := ⟨HS3.out _ (List.getElem_mem hlt)⟩
      have HL := Aside0.mk hL
      clear hL hR1
      have eA := HEA.out
      subst eA
      clear HEA
      go_wp2_with fail
      refine (row_text (w.heap.size + 1) L l0_6[i].f0 w _ (below_alloc HB1.out _) (HR1.out.alloc _) (by have := HLL.out; have := HG.out; omega)).mono ?_
      rintro e w6 ⟨rfl, hR, hB, hK⟩
      have hx := hK.2 _ _ _ (blk_new wr _) (by decide) (by decide)
      have y1 : w6.cell? ⟨wr.heap.size, 1, none⟩ = some (.int .i64 l0_6[i].f1) := (blk_cell hx 1).trans rfl
      have HM2 := Aside0.mk (hK.2 _ _ _ (blk_alloc HM1.out _) (by decide) (by decide))
      have HR2 := Aside0.mk hR
      have HB2 := Aside0.mk hB
      clear hx hR hB hK x0 x1
      go_wp2_with fail
      refine (row_byte (w.heap.size + 1) w6.heap.size (L ++ (((l0_6[i].f0.size : Int) % 256) :: bytesOf l0_6[i].f0)) [l0_6[i].f1] w _ (below_alloc HB2.out _) (HR2.out.alloc _) (blk_new w6 _) (by have := HLL.out; have := HG.out; simp [bytesOf_length]; omega)).mono ?_
      rintro e w7 ⟨rfl, hR, hB, hK⟩
      have HM3 := Aside0.mk (hK.2 _ _ _ (blk_alloc HM2.out _) (by decide) (by decide))
      have HR3 := Aside0.mk hR
      have HB3 := Aside0.mk hB
      clear hR hB hK y1
      go_wp2
      go_roundg (gk - 1)
      case measure => have := HI.out; omega
      case rel => exact ⟨i + 1, by go_num, ⟨by have := HI.out; omega⟩, ⟨by
        have e : P ++ encAcl (l0_6.take (i + 1)) = L ++ (((l0_6[i].f0.size : Int) % 256) :: bytesOf l0_6[i].f0) ++ [l0_6[i].f1].map (· % 256) := by
          rw [encAcl_snoc l0_6 hlt, HL.out]
          simp [encStr, encB]
        rw [e]
        exact HR3.out⟩, HB3, HM3⟩
    · have hle : (l0_6.length : Int) ≤ (i : Int) := by omega
      have hI := HI.out
      have hieq : i = l0_6.length := by omega
      have HRQ : Aside0 (RowB wr w.heap.size (w.heap.size + 1) (P ++ encAcl l0_6)) := ⟨by have h := HR1.out; rwa [hieq, List.take_of_length_le (Nat.le_refl _)] at h⟩
      clear hieq hI HR1
      have m7 : wr.cell? ⟨w.heap.size, 7, none⟩ = some (.int .i64 a0_7) := (blk_cell HM1.out 7).trans rfl
      have m8 : wr.cell? ⟨w.heap.size, 8, none⟩ = some (.int .i64 a0_8) := (blk_cell HM1.out 8).trans rfl
      have m9 : wr.cell? ⟨w.heap.size, 9, none⟩ = some (.int .i64 a0_9) := (blk_cell HM1.out 9).trans rfl
      have m10 : wr.cell? ⟨w.heap.size, 10, none⟩ = some (.int .i64 a0_10) := (blk_cell HM1.out 10).trans rfl
      have m11 : wr.cell? ⟨w.heap.size, 11, none⟩ = some (.slice A0_11 l0_11.length c0_11) := (blk_cell HM1.out 11).trans rfl
      obtain ⟨L, hL⟩ : ∃ L, L = P ++ encAcl l0_6 := ⟨_, rfl⟩
      have hRQ := HRQ.out
      rw [← hL] at hRQ
      have HRQ := Aside0.mk hRQ
      have HLL : Aside0 (L.length ≤ 30000) := ⟨by
        have h1 := encAcl_le l0_6 HS3.out
        have h2 := HPL.out
        have h3 := HS2.out
        rw [hL, List.length_append]
        omega⟩
      have HL := Aside0.mk hL
      clear hL hRQ
      go_wp2_with fail
      refine (row_byte (w.heap.size + 1) wr.heap.size L [a0_7, a0_8, a0_9, a0_10, (l0_11.length : Int)] w _ (below_alloc HB1.out _) (HRQ.out.alloc _) (blk_new wr _) (by have := HLL.out; simp; omega)).mono ?_
      rintro e w8 ⟨rfl, hR, hB, hK⟩
      have hM := hK.2 _ _ _ (blk_alloc HM1.out _) (by decide) (by decide)
      have n11 : w8.cell? ⟨w.heap.size, 11, none⟩ = some (.slice A0_11 l0_11.length c0_11) := (blk_cell hM 11).trans rfl
      obtain ⟨Q, hQ⟩ : ∃ Q, Q = L ++ encMid a0_7 a0_8 a0_9 a0_10 l0_11.length := ⟨_, rfl⟩
      have HR8 : Aside0 (RowB w8 w.heap.size (w.heap.size + 1) Q) := ⟨by rw [hQ]; exact hR⟩
      have HQL : Aside0 (Q.length ≤ 31000) := ⟨by have := HLL.out; rw [hQ]; simp [encMid, encLab, encB]; omega⟩
      have HQ := Aside0.mk hQ
      have HB8 := Aside0.mk hB
      clear hM hR hB hK hQ m7 m8 m9 m10 m11
      go_wp2_with fail
      go_loopg [73] l0_11.length (fun kq v73 W => ∃ i : Nat, v73 = .int .i64 (i : Int) ∧ Aside0 (i + kq = l0_11.length) ∧ Aside0 (RowB W w.heap.size (w.heap.size + 1) (Q ++ encWords (l0_11.take i))) ∧ Aside0 (Below w.heap.size w W))
      case atStart => exact ⟨0, rfl, ⟨by omega⟩, ⟨by have := HR8.out; simpa [encWords] using this⟩, HB8⟩
      case round =>
        obtain ⟨j, rfl, HJ, HR9, HB9⟩ := hrel
        clear HR8 HB8 n11
        by_cases hlt2 : j < l0_11.length
        · obtain ⟨ad, eA, x0⟩ := Kd.at_int (Kd.C_below HCW.out HB9.out) (j : Int) (by omega) (by omega)
          simp only [Int.toNat_natCast] at x0
          rw [rdI_get hlt2] at x0
          subst eA
          have hlt' : (j : Int) < (l0_11.length : Int) := by omega
          have h00 : (0 : Int) ≤ (j : Int) := by omega
          obtain ⟨L2, hL2⟩ : ∃ L2, L2 = Q ++ encWords (l0_11.take j) := ⟨_, rfl⟩
          have hR9 := HR9.out
          rw [← hL2] at hR9
          have HR9 := Aside0.mk hR9
          have HLL2 : Aside0 (L2.length ≤ 40000) := ⟨by
            have h1 := encWords_len (l0_11.take j)
            have h2 := HQL.out
            have h3 := HS4.out
            rw [List.length_take] at h1
            rw [hL2, List.length_append]
            omega⟩
          have HL2 := Aside0.mk hL2
          clear hL2 hR9
          go_wp2_with fail
          refine (row_number (w.heap.size + 1) L2 l0_11[j] w _ HB9.out HR9.out (by have := HLL2.out; omega)).mono ?_
          rintro e w10 ⟨rfl, hR, hB, hK⟩
          have HR10 := Aside0.mk hR
          have HB10 := Aside0.mk hB
          clear hR hB hK x0
          go_wp2
          go_roundg (gk - 1)
          case measure => have := HJ.out; omega
          case rel => exact ⟨j + 1, by go_num, ⟨by have := HJ.out; omega⟩, ⟨by
            rw [encWords_snoc l0_11 hlt2, ← List.append_assoc, ← HL2.out]
            exact HR10.out⟩, HB10⟩
        · have hle2 : (l0_11.length : Int) ≤ (j : Int) := by omega
          have hJ := HJ.out
          have hjeq : j = l0_11.length := by omega
          have HRZ : Aside0 (RowB wr w.heap.size (w.heap.size + 1) (encNode a0_0 false a0_2 a0_3 a0_4 a0_5 l0_6 a0_7 a0_8 a0_9 a0_10 l0_11 a0_12 a0_13 a0_14 a0_15)) := ⟨by
            have h := HR9.out
            rw [hjeq, List.take_of_length_le (Nat.le_refl _), HQ.out, HL.out, HP.out, List.append_assoc, List.append_assoc] at h
            exact h⟩
          clear hjeq hJ HR9
          obtain ⟨Z, hZ⟩ : ∃ Z, Z = encNode a0_0 false a0_2 a0_3 a0_4 a0_5 l0_6 a0_7 a0_8 a0_9 a0_10 l0_11 a0_12 a0_13 a0_14 a0_15 := ⟨_, rfl⟩
          have hRZ := HRZ.out
          rw [← hZ] at hRZ
          have HZ := Aside0.mk hZ
          clear hZ
          obtain ⟨A_, c_, hc, hRR⟩ := rowB_out hRZ
          have HRR := Aside0.mk hRR
          clear hRZ hRR
          go_wp2
          go_ret
          refine ⟨_, rfl, ?_, HB9.out⟩
          rw [← HZ.out]
          exact HRR.out
theorem node_Encode.calls (a0_0 : ByteArray) (a0_1 : Bool) (a0_2 a0_3 a0_4 a0_5 : Int) (A0_6 : Option Addr) (c0_6 : Nat) (l0_6 : List S35) (a0_7 a0_8 a0_9 a0_10 : Int) (A0_11 : Option Addr) (c0_11 : Nat) (l0_11 : List Int) (a0_12 a0_13 a0_14 a0_15 : Int) (r : List Int) (w : World) (hr0_6 : Kd.C k35 w A0_6 l0_6.length l0_6) (hc0_6 : l0_6.length ≤ c0_6) (hr0_11 : Kd.C (Kd.int .i64) w A0_11 l0_11.length l0_11) (hc0_11 : l0_11.length ≤ c0_11) (h : node_Encode.f a0_0 a0_1 a0_2 a0_3 a0_4 a0_5 l0_6 a0_7 a0_8 a0_9 a0_10 l0_11 a0_12 a0_13 a0_14 a0_15 = some r) :
    Calls Try.prog 12 #[.agg #[.string a0_0, .bool a0_1, .int .i64 a0_2, .int .i64 a0_3, .int .i64 a0_4, .int .i64 a0_5, .slice A0_6 l0_6.length c0_6, .int .i64 a0_7, .int .i64 a0_8, .int .i64 a0_9, .int .i64 a0_10, .slice A0_11 l0_11.length c0_11, .int .i64 a0_12, .int .i64 a0_13, .int .i64 a0_14, .int .i64 a0_15]] w fun e w' => ∃ v0_ : Value, e = .returned (v0_) ∧ Kd.R (Kd.int .u8) 5 w' w.heap.size (fun _ => True) v0_ r ∧ Below w.heap.size w w' := by
  unfold node_Encode.f at h
  by_cases hs : a0_0.size ≤ 255 ∧ l0_6.length ≤ 100 ∧ (∀ g ∈ l0_6, g.f0.size ≤ 255) ∧ l0_11.length ≤ 200
  · rw [if_pos hs] at h
    obtain rfl := Option.some.inj h
    cases a0_1
    · exact node_Encode.calls_false a0_0 a0_2 a0_3 a0_4 a0_5 A0_6 c0_6 l0_6 a0_7 a0_8 a0_9 a0_10 A0_11 c0_11 l0_11 a0_12 a0_13 a0_14 a0_15 w hr0_6 hr0_11 hs
    · exact node_Encode.calls_true a0_0 a0_2 a0_3 a0_4 a0_5 A0_6 c0_6 l0_6 a0_7 a0_8 a0_9 a0_10 A0_11 c0_11 l0_11 a0_12 a0_13 a0_14 a0_15 w hr0_6 hr0_11 hs
  · rw [if_neg hs] at h
    exact absurd h (by simp)

end Go.Proofs.Ytophnhmlknbmeaa.X
