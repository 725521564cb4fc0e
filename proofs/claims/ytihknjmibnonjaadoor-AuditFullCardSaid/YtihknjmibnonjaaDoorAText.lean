/- audit.Text: an entry's text. -/
import Derived.Test.YtihknjmibnonjaaDoorAAdd
import Derived.Test.YtihknjmibnonjaaDoorBigSt
import Derived.Test.YtihknjmibnonjaaDoorLib
import Derived.Test.YtihknjmibnonjaaDoorF47
import Derived.Test.YtihknjmibnonjaaDoorF48
import Derived.Test.YtihknjmibnonjaaDoorF49
namespace Go.Proofs.YtihknjmibnonjaaDoor.X
open Go.RowKit Go.Proofs.YtihknjmibnonjaaDoorW.PrintWords Go.Proofs.YtihknjmibnonjaaDoorW.PrintLast Go.Proofs.YtihknjmibnonjaaDoorW.PrintMore Go.Proofs.YtihknjmibnonjaaDoor.More
set_option linter.unusedVariables false
set_option linter.unusedSimpArgs false
set_option maxRecDepth 100000
def verbsL : List ByteArray := [⟨#[108, 111, 103, 105, 110]⟩, ⟨#[115, 101, 103]⟩, ⟨#[100, 105, 114]⟩, ⟨#[100, 101, 108]⟩, ⟨#[97, 99, 108]⟩, ⟨#[114, 105, 110, 103, 115]⟩, ⟨#[112, 117, 116]⟩, ⟨#[103, 101, 116]⟩, ⟨#[108, 105, 115, 116]⟩, ⟨#[114, 117, 110]⟩, ⟨#[115, 101, 110, 100]⟩, ⟨#[116, 97, 107, 101]⟩, ⟨#[114, 101, 108, 101, 97, 115, 101]⟩, ⟨#[100, 101, 110, 121]⟩]
def verbsA : Array Value := #[.string ⟨#[108, 111, 103, 105, 110]⟩, .string ⟨#[115, 101, 103]⟩, .string ⟨#[100, 105, 114]⟩, .string ⟨#[100, 101, 108]⟩, .string ⟨#[97, 99, 108]⟩, .string ⟨#[114, 105, 110, 103, 115]⟩, .string ⟨#[112, 117, 116]⟩, .string ⟨#[103, 101, 116]⟩, .string ⟨#[108, 105, 115, 116]⟩, .string ⟨#[114, 117, 110]⟩, .string ⟨#[115, 101, 110, 100]⟩, .string ⟨#[116, 97, 107, 101]⟩, .string ⟨#[114, 101, 108, 101, 97, 115, 101]⟩, .string ⟨#[100, 101, 110, 121]⟩]
def verbW (v : Int) : ByteArray := if 1 ≤ v ∧ v ≤ 14 then verbsL.getD (v - 1).toNat ⟨#[]⟩ else ⟨#[]⟩
def wordB (s : ByteArray) : ByteArray := if s.toList = ([] : List UInt8) then ⟨#[45]⟩ else s
def partsE (x : SE) (ew : ByteArray) : List ByteArray := [numeralB x.f0, textV x.f1.f0 x.f1.f1 x.f1.f2 x.f1.f3, wordB x.f2, wordB (verbW x.f3), wordB x.f4, ew]
def textE (x : SE) (ew : ByteArray) : ByteArray := ⟨(Lib.join ((partsE x ew).map (·.data.toList)) (⟨#[32]⟩ : ByteArray).data.toList).toArray⟩
theorem word_f (s : ByteArray) : audit_word.f s = some (wordB s) := by
  unfold audit_word.f wordB
  split <;> rfl
theorem verb_cell {W : World} {g : Nat} (h : W.heap[g]? = some (.cells verbsA 67 (0, 0))) (v : Int) (h0 : 1 ≤ v) (h1 : v ≤ 14) : W.cell? ⟨g, (v - 1).toNat, none⟩ = some (.string (verbW v)) := by
  have e : verbsA[(v - 1).toNat]? = some (.string (verbW v)) := by
    have hv : v = 1 ∨ v = 2 ∨ v = 3 ∨ v = 4 ∨ v = 5 ∨ v = 6 ∨ v = 7 ∨ v = 8 ∨ v = 9 ∨ v = 10 ∨ v = 11 ∨ v = 12 ∨ v = 13 ∨ v = 14 := by omega
    rcases hv with rfl | rfl | rfl | rfl | rfl | rfl | rfl | rfl | rfl | rfl | rfl | rfl | rfl | rfl <;> rfl
  rw [blk_cell h]
  exact e
theorem verb_short (v : Int) : (verbW v).data.toList.length ≤ 7 := by
  unfold verbW
  split
  · rename_i h
    have hv : v = 1 ∨ v = 2 ∨ v = 3 ∨ v = 4 ∨ v = 5 ∨ v = 6 ∨ v = 7 ∨ v = 8 ∨ v = 9 ∨ v = 10 ∨ v = 11 ∨ v = 12 ∨ v = 13 ∨ v = 14 := by omega
    rcases hv with rfl | rfl | rfl | rfl | rfl | rfl | rfl | rfl | rfl | rfl | rfl | rfl | rfl | rfl <;> decide +kernel
  · exact Nat.zero_le _
theorem word_short (s : ByteArray) : (wordB s).data.toList.length ≤ s.data.toList.length + 1 := by
  unfold wordB
  split
  · simp
  · exact Nat.le_succ _
theorem partsE_short (x : SE) (ew : ByteArray) (h0 : fits64 x.f0) (h1 : okL x.f1) (h2 : x.f2.size ≤ 1000000) (h4 : x.f4.size ≤ 1000000) (he : ew.size ≤ 1000000) : (Lib.join ((partsE x ew).map (·.data.toList)) (⟨#[32]⟩ : ByteArray).data.toList).length ≤ 140737488355328 := by
  have a0 := Lib.itoa_length_le x.f0 h0.1 h0.2
  obtain ⟨w0, w1, w2, w3⟩ := h1
  have a1 := label_Text.short x.f1.f0 x.f1.f1 x.f1.f2 x.f1.f3 (Lib.wf_i64 w0) (Lib.wf_i64 w1) (Lib.wf_i64 w2) (Lib.wf_i64 w3)
  have a2 := word_short x.f2
  have a3 := word_short (verbW x.f3)
  have a3b := verb_short x.f3
  have a4 := word_short x.f4
  have e2 : x.f2.data.toList.length = x.f2.size := Array.length_toList
  have e4 : x.f4.data.toList.length = x.f4.size := Array.length_toList
  have ee : ew.data.toList.length = ew.size := Array.length_toList
  have b1 : (textV x.f1.f0 x.f1.f1 x.f1.f2 x.f1.f3).data.toList.length ≤ 100 := by
    have h1 := Lib.itoa_length_le x.f1.f0 (Lib.wf_i64 w0).1 (Lib.wf_i64 w0).2
    have h2 := Lib.itoa_length_le x.f1.f1 (Lib.wf_i64 w1).1 (Lib.wf_i64 w1).2
    have h3 := Lib.itoa_length_le x.f1.f2 (Lib.wf_i64 w2).1 (Lib.wf_i64 w2).2
    have h4 := Lib.itoa_length_le x.f1.f3 (Lib.wf_i64 w3).1 (Lib.wf_i64 w3).2
    simp only [textV, firstT, nth4, numeralB, List.nil_append, List.cons_append, List.map_cons, List.map_nil, Lib.join]
    simp
    omega
  have a0' : (numeralB x.f0).data.toList.length ≤ 21 := a0
  have e1 : (⟨#[32]⟩ : ByteArray).data.toList.length = 1 := rfl
  simp only [partsE, List.map_cons, List.map_nil, Lib.join, List.intercalate, List.intersperse, List.flatten_cons, List.flatten_nil, List.length_append, List.length_nil, List.length_cons]
  omega
theorem below_of_drawn0_ {w w' : World} (h : Drawn0 w w') : Below w.heap.size w w' := by
  obtain ⟨n, rfl⟩ := h
  exact pw_below_drewN (Below.refl _ _) n
def audit_Text.T5 : Bool × List (List Nat × List Nat) := (true, [([], []), ([0], [0]), ([1], [1]), ([], []), ([3], [3]), ([4, 2], [4]), ([], []), ([6], [6]), ([7, 5], [7]), ([], []), ([9, 8], [9]), ([], []), ([11], [11]), ([12, 10], [12]), ([], []), ([14], [14]), ([15, 13], [15]), ([2, 5, 8, 10, 13, 16], [2, 5, 8, 10, 13, 16]), ([17, 16], [17]), ([18, 18, 0, 1, 2, 3, 4, 5, 6, 7, 8, 9, 10, 11, 12, 13, 14, 15, 16, 17, 18], [18])])
def audit_Text.B5 : List Nat := [0, 1, 3, 0, 8, 31, 0, 64, 255, 0, 1023, 0, 2048, 8191, 0, 16384, 65535, 131071, 262143, 524287]
theorem audit_Text.tab5 : rtab .any (opsOf Tryd.f28 5) = audit_Text.T5 := by kernel_rfl
theorem audit_Text.bits5 : waitsOk audit_Text.T5.2 audit_Text.B5 = true := by kernel_rfl
set_option maxHeartbeats 8000000 in
theorem audit_Text.yes (x : SE) (ew : ByteArray) (w : World) (hG : Laid w) (hf0 : fits64 x.f0) (hl : okL x.f1) (h2 : x.f2.size ≤ 1000000) (h4 : x.f4.size ≤ 1000000) (hes : ew.size ≤ 1000000) (hew : api_Errno_Error.f x.f5 = some ew) (hv : 1 ≤ x.f3 ∧ x.f3 ≤ 14) :
    Calls Tryd.prog 28 #[ev x] w fun r w' => r = .returned (.string (textE x ew)) ∧ Below w.heap.size w w' := by
  have dv := hv
  have HV := Aside0.mk hv
  obtain ⟨tt, htt⟩ : ∃ tt, x.f3 - 1 = tt := ⟨_, rfl⟩
  have HF := Aside0.mk hf0
  have HG := Aside0.mk hG
  have HEW := Aside0.mk hew
  have HLT : Aside0 (label_Text.f x.f1.f0 x.f1.f1 x.f1.f2 x.f1.f3 = some (textV x.f1.f0 x.f1.f1 x.f1.f2 x.f1.f3)) := ⟨by unfold label_Text.f; exact if_pos ⟨Lib.wf_i64 hl.1, Lib.wf_i64 hl.2.1, Lib.wf_i64 hl.2.2.1, Lib.wf_i64 hl.2.2.2⟩⟩
  have hsh := partsE_short x ew hf0 hl h2 h4 hes
  unfold textE
  unfold partsE at hsh ⊢
  clear hf0 hG hew hl h2 h4 hes
  have d1 : decide (1 ≤ x.f3) = true := decide_eq_true dv.1
  have d2 : decide (x.f3 ≤ 14) = true := decide_eq_true dv.2
  have ew1 : wrap64 (x.f3 - 1) = tt := by unfold wrap64; omega
  have t0 : 0 ≤ tt := by omega
  have t1 : tt < 14 := by omega
  have HTT := Aside0.mk htt
  obtain ⟨VV, hVV⟩ : ∃ VV, verbW x.f3 = VV := ⟨_, rfl⟩
  have HVV := Aside0.mk hVV
  rw [hVV] at hsh ⊢
  have HSH := Aside0.mk hsh
  clear dv hv htt hVV hsh
  unfold ev
  go_enter Tryd.func28, Tryd.ntmps28
  go_wp2_with (refine bigstore_ rfl 67 (.tmp 3) (.tmp 5) rfl (w.heap.size + 1) verbsA rfl rfl 67 _ ((congrArg (fun k => (_ : Array Obj)[k]?) (by simp)).trans (blk_new _ _)) (by kernel_rfl) rfl (by kernel_rfl) ?_; intro w1 hv_ hk_ hj_ hB_; have BV1 := Aside0.mk hv_; have HB1 := Aside0.mk (hB_ w.heap.size w (below_alloc (below_alloc (Below.refl _ w) _) _) (by omega)); have BE1 := Aside0.mk (hj_ w.heap.size _ (blk_alloc (blk_new w (.cells #[.int .i64 x.f0, .int .i64 x.f1.f0, .int .i64 x.f1.f1, .int .i64 x.f1.f2, .int .i64 x.f1.f3, .string x.f2, .int .i64 x.f3, .string x.f4, .int .i64 x.f5] 26)) _) (by omega)); clear hv_ hk_ hj_ hB_; have c0 : w1.cell? ⟨w.heap.size, 0, none⟩ = some (.int .i64 x.f0) := (blk_cell BE1.out 0).trans rfl; have c1 : w1.cell? ⟨w.heap.size, 1, none⟩ = some (.int .i64 x.f1.f0) := (blk_cell BE1.out 1).trans rfl; have c2 : w1.cell? ⟨w.heap.size, 2, none⟩ = some (.int .i64 x.f1.f1) := (blk_cell BE1.out 2).trans rfl; have c3 : w1.cell? ⟨w.heap.size, 3, none⟩ = some (.int .i64 x.f1.f2) := (blk_cell BE1.out 3).trans rfl; have c4 : w1.cell? ⟨w.heap.size, 4, none⟩ = some (.int .i64 x.f1.f3) := (blk_cell BE1.out 4).trans rfl; have c5 : w1.cell? ⟨w.heap.size, 5, none⟩ = some (.string x.f2) := (blk_cell BE1.out 5).trans rfl; have c6 : w1.cell? ⟨w.heap.size, 6, none⟩ = some (.int .i64 x.f3) := (blk_cell BE1.out 6).trans rfl; have c7 : w1.cell? ⟨w.heap.size, 7, none⟩ = some (.string x.f4) := (blk_cell BE1.out 7).trans rfl; have c8 : w1.cell? ⟨w.heap.size, 8, none⟩ = some (.int .i64 x.f5) := (blk_cell BE1.out 8).trans rfl; have cv : w1.cell? ⟨w.heap.size + 1, tt.toNat, none⟩ = some (.string VV) := (HTT.out ▸ HVV.out ▸ verb_cell BV1.out x.f3 HV.out.1 HV.out.2))
  clear cv BV1 t0 t1 ew1 d1 d2
  have HBd := Aside0.mk (below_drew1 HB1.out)
  have BEd := Aside0.mk (blk_drew BE1.out)
  clear HB1 BE1 c0 c1 c2 c3 c4 c5 c6 c7 c8
  refine start_ (n := 20) (S := fun w' => w'.cell? ⟨w.heap.size, 0, none⟩ = some (.int .i64 x.f0) ∧ w'.cell? ⟨w.heap.size, 1, none⟩ = some (.int .i64 x.f1.f0) ∧ w'.cell? ⟨w.heap.size, 2, none⟩ = some (.int .i64 x.f1.f1) ∧ w'.cell? ⟨w.heap.size, 3, none⟩ = some (.int .i64 x.f1.f2) ∧ w'.cell? ⟨w.heap.size, 4, none⟩ = some (.int .i64 x.f1.f3) ∧ w'.cell? ⟨w.heap.size, 5, none⟩ = some (.string x.f2) ∧ w'.cell? ⟨w.heap.size, 6, none⟩ = some (.int .i64 x.f3) ∧ w'.cell? ⟨w.heap.size, 7, none⟩ = some (.string x.f4) ∧ w'.cell? ⟨w.heap.size, 8, none⟩ = some (.int .i64 x.f5)) (ds := []) #[false, false, false, false, false, false, false, false, false, false, false, false, false, false, false, false, false, false, false, false] (by kernel_rfl) rfl rfl ⟨(blk_cell BEd.out 0).trans rfl, (blk_cell BEd.out 1).trans rfl, (blk_cell BEd.out 2).trans rfl, (blk_cell BEd.out 3).trans rfl, (blk_cell BEd.out 4).trans rfl, (blk_cell BEd.out 5).trans rfl, (blk_cell BEd.out 6).trans rfl, (blk_cell BEd.out 7).trans rfl, (blk_cell BEd.out 8).trans rfl⟩ (fun hHeld => ?_)
  refine with_tabW audit_Text.tab5 audit_Text.bits5 (fun HT_ HW_ => ?_)
  generalize World.drew _ = wd at HBd BEd hHeld ⊢
  refine pure_ (i := 0) (N := some 19) (v := ?_) (a' := ?_) #[true, false, false, false, false, false, false, false, false, false, false, false, false, false, false, false, false, false, false, false] rfl rfl (any_of HT_.out (by kernel_rfl)) (fun _ _ _ h => h) (Or.inl ⟨by rfl, ?_⟩) ?_ ?_
  rotate_left
  · intro w'
    go_simp
    with_reducible rfl
  rotate_left
  · simp only [Act.put, List.setIfInBounds_toArray, List.set_cons_zero, List.set_cons_succ, i64_w, i32_w]
    rfl
  refine pure_ (i := 3) (N := some 22) (v := ?_) (a' := ?_) #[true, false, false, true, false, false, false, false, false, false, false, false, false, false, false, false, false, false, false, false] rfl rfl (any_of HT_.out (by kernel_rfl)) (fun _ _ _ h => h) (Or.inl ⟨by rfl, ?_⟩) ?_ ?_
  rotate_left
  · intro w'
    go_simp
    with_reducible rfl
  rotate_left
  · simp only [Act.put, List.setIfInBounds_toArray, List.set_cons_zero, List.set_cons_succ, i64_w, i32_w]
    rfl
  refine pure_ (i := 6) (N := some 25) (v := ?_) (a' := ?_) #[true, false, false, true, false, false, true, false, false, false, false, false, false, false, false, false, false, false, false, false] rfl rfl (any_of HT_.out (by kernel_rfl)) (fun _ _ _ h => h) (Or.inl ⟨by rfl, ?_⟩) ?_ ?_
  rotate_left
  · intro w'
    go_simp
    with_reducible rfl
  rotate_left
  · simp only [Act.put, List.setIfInBounds_toArray, List.set_cons_zero, List.set_cons_succ, i64_w, i32_w]
    rfl
  refine pure_ (i := 9) (N := some 28) (v := ?_) (a' := ?_) #[true, false, false, true, false, false, true, false, false, true, false, false, false, false, false, false, false, false, false, false] rfl rfl (any_of HT_.out (by kernel_rfl)) (fun _ _ _ h => h) (Or.inl ⟨by rfl, ?_⟩) ?_ ?_
  rotate_left
  · intro w'
    go_simp
    with_reducible rfl
  rotate_left
  · simp only [Act.put, List.setIfInBounds_toArray, List.set_cons_zero, List.set_cons_succ, i64_w, i32_w]
    rfl
  refine pure_ (i := 11) (N := some 30) (v := ?_) (a' := ?_) #[true, false, false, true, false, false, true, false, false, true, false, true, false, false, false, false, false, false, false, false] rfl rfl (any_of HT_.out (by kernel_rfl)) (fun _ _ _ h => h) (Or.inl ⟨by rfl, ?_⟩) ?_ ?_
  rotate_left
  · intro w'
    go_simp
    with_reducible rfl
  rotate_left
  · simp only [Act.put, List.setIfInBounds_toArray, List.set_cons_zero, List.set_cons_succ, i64_w, i32_w]
    rfl
  refine pure_ (i := 14) (N := some 33) (v := ?_) (a' := ?_) #[true, false, false, true, false, false, true, false, false, true, false, true, false, false, true, false, false, false, false, false] rfl rfl (any_of HT_.out (by kernel_rfl)) (fun _ _ _ h => h) (Or.inl ⟨by rfl, ?_⟩) ?_ ?_
  rotate_left
  · intro w'
    go_simp
    with_reducible rfl
  rotate_left
  · simp only [Act.put, List.setIfInBounds_toArray, List.set_cons_zero, List.set_cons_succ, i64_w, i32_w]
    rfl
  refine take_ (i := 1) (N := some 20) (v := ?_) (a' := ?_) #[true, true, false, true, false, false, true, false, false, true, false, true, false, false, true, false, false, false, false, false] rfl rfl (take_ofW HT_.out HW_.out (by kernel_rfl)) (fun _ _ _ h => h) (Or.inl ⟨by rfl, ?_⟩) hHeld ?_ ?_
  rotate_left
  · rintro w' ⟨s0, s1, s2, s3, s4, s5, s6, s7, s8⟩
    go_simp
    with_reducible rfl
  rotate_left
  · simp only [Act.put, List.setIfInBounds_toArray, List.set_cons_zero, List.set_cons_succ, i64_w, i32_w]
    rfl
  refine take_ (i := 4) (N := some 23) (v := ?_) (a' := ?_) #[true, true, false, true, true, false, true, false, false, true, false, true, false, false, true, false, false, false, false, false] rfl rfl (take_ofW HT_.out HW_.out (by kernel_rfl)) (fun _ _ _ h => h) (Or.inl ⟨by rfl, ?_⟩) hHeld ?_ ?_
  rotate_left
  · rintro w' ⟨s0, s1, s2, s3, s4, s5, s6, s7, s8⟩
    go_simp
    with_reducible rfl
  rotate_left
  · simp only [Act.put, List.setIfInBounds_toArray, List.set_cons_zero, List.set_cons_succ, i64_w, i32_w]
    rfl
  refine take_ (i := 7) (N := some 26) (v := ?_) (a' := ?_) #[true, true, false, true, true, false, true, true, false, true, false, true, false, false, true, false, false, false, false, false] rfl rfl (take_ofW HT_.out HW_.out (by kernel_rfl)) (fun _ _ _ h => h) (Or.inl ⟨by rfl, ?_⟩) hHeld ?_ ?_
  rotate_left
  · rintro w' ⟨s0, s1, s2, s3, s4, s5, s6, s7, s8⟩
    go_simp
    with_reducible rfl
  rotate_left
  · simp only [Act.put, List.setIfInBounds_toArray, List.set_cons_zero, List.set_cons_succ, i64_w, i32_w]
    rfl
  refine take_ (i := 12) (N := some 31) (v := ?_) (a' := ?_) #[true, true, false, true, true, false, true, true, false, true, false, true, true, false, true, false, false, false, false, false] rfl rfl (take_ofW HT_.out HW_.out (by kernel_rfl)) (fun _ _ _ h => h) (Or.inl ⟨by rfl, ?_⟩) hHeld ?_ ?_
  rotate_left
  · rintro w' ⟨s0, s1, s2, s3, s4, s5, s6, s7, s8⟩
    go_simp
    with_reducible rfl
  rotate_left
  · simp only [Act.put, List.setIfInBounds_toArray, List.set_cons_zero, List.set_cons_succ, i64_w, i32_w]
    rfl
  refine take_ (i := 15) (N := some 34) (v := ?_) (a' := ?_) #[true, true, false, true, true, false, true, true, false, true, false, true, true, false, true, true, false, false, false, false] rfl rfl (take_ofW HT_.out HW_.out (by kernel_rfl)) (fun _ _ _ h => h) (Or.inl ⟨by rfl, ?_⟩) hHeld ?_ ?_
  rotate_left
  · rintro w' ⟨s0, s1, s2, s3, s4, s5, s6, s7, s8⟩
    go_simp
    with_reducible rfl
  rotate_left
  · simp only [Act.put, List.setIfInBounds_toArray, List.set_cons_zero, List.set_cons_succ, i64_w, i32_w]
    rfl
  refine one_ (i := 2) (N := some 21) #[true, true, true, true, true, false, true, true, false, true, false, true, true, false, true, true, false, false, false, false] rfl rfl (one_of HT_.out (by kernel_rfl)) (by decide) (fun K hK => ?_)
  refine goes_ Tryd.func46 (by kernel_rfl) rfl #[.int .i64 x.f0] (by rfl) rfl rfl (by (try simp only [List.map_toArray, List.map_cons, List.map_nil]); first | done | rfl) ?_
  refine (Tryd.strconv_Itoa x.f0 HF.out.1 HF.out.2 _ (Laid.below HG.out HBd.out)).mono ?_
  rintro e wq ⟨rfl, q2, os2, hw2⟩
  have hb_ : Below _ _ wq := (by rw [hw2]; exact below_grown_sl _ _ q2 os2 (Nat.le_refl _))
  clear hw2
  refine ⟨_, rfl, ?_⟩
  have n1_ := Aside0.mk (below_step HBd.out hb_)
  have n2_ := Aside0.mk (blk_below BEd.out hb_)
  clear HBd BEd hb_
  have HBd := n1_
  have BEd := n2_
  clear n1_ n2_
  rename World => wd
  refine hK.out _ _ ⟨(blk_cell BEd.out 0).trans rfl, (blk_cell BEd.out 1).trans rfl, (blk_cell BEd.out 2).trans rfl, (blk_cell BEd.out 3).trans rfl, (blk_cell BEd.out 4).trans rfl, (blk_cell BEd.out 5).trans rfl, (blk_cell BEd.out 6).trans rfl, (blk_cell BEd.out 7).trans rfl, (blk_cell BEd.out 8).trans rfl⟩ (fun hHeld => ?_)
  clear hK K
  refine norm_ (a' := ?_) ?_ ?_
  rotate_left
  · show Act.put _ (some 21) _ = _
    simp only [Act.put, List.setIfInBounds_toArray, List.set_cons_zero, List.set_cons_succ, i64_w, i32_w]
    rfl
  refine one_ (i := 5) (N := some 24) #[true, true, true, true, true, true, true, true, false, true, false, true, true, false, true, true, false, false, false, false] rfl rfl (one_of HT_.out (by kernel_rfl)) (by decide) (fun K hK => ?_)
  refine goes_ Tryd.func47 (by kernel_rfl) rfl #[.agg #[.int .i64 x.f1.f0, .int .i64 x.f1.f1, .int .i64 x.f1.f2, .int .i64 x.f1.f3]] (by rfl) rfl rfl (by (try simp only [List.map_toArray, List.map_cons, List.map_nil]); first | done | rfl) ?_
  refine (label_Text.calls x.f1.f0 x.f1.f1 x.f1.f2 x.f1.f3 _ _ (Laid.below HG.out HBd.out) HLT.out).mono ?_
  rintro e wq ⟨rfl, hb_⟩
  refine ⟨_, rfl, ?_⟩
  have n1_ := Aside0.mk (below_step HBd.out hb_)
  have n2_ := Aside0.mk (blk_below BEd.out hb_)
  clear HBd BEd hb_
  have HBd := n1_
  have BEd := n2_
  clear n1_ n2_
  rename World => wd
  refine hK.out _ _ ⟨(blk_cell BEd.out 0).trans rfl, (blk_cell BEd.out 1).trans rfl, (blk_cell BEd.out 2).trans rfl, (blk_cell BEd.out 3).trans rfl, (blk_cell BEd.out 4).trans rfl, (blk_cell BEd.out 5).trans rfl, (blk_cell BEd.out 6).trans rfl, (blk_cell BEd.out 7).trans rfl, (blk_cell BEd.out 8).trans rfl⟩ (fun hHeld => ?_)
  clear hK K
  refine norm_ (a' := ?_) ?_ ?_
  rotate_left
  · show Act.put _ (some 24) _ = _
    simp only [Act.put, List.setIfInBounds_toArray, List.set_cons_zero, List.set_cons_succ, i64_w, i32_w]
    rfl
  refine one_ (i := 8) (N := some 27) #[true, true, true, true, true, true, true, true, true, true, false, true, true, false, true, true, false, false, false, false] rfl rfl (one_of HT_.out (by kernel_rfl)) (by decide) (fun K hK => ?_)
  refine goes_ Tryd.func48 (by kernel_rfl) rfl #[.string x.f2] (by rfl) rfl rfl (by (try simp only [List.map_toArray, List.map_cons, List.map_nil]); first | done | rfl) ?_
  refine (audit_word.calls x.f2 _ _ (word_f _)).mono ?_
  rintro e wq ⟨rfl, hd_⟩
  have hb_ := below_of_drawn0_ hd_
  clear hd_
  refine ⟨_, rfl, ?_⟩
  have n1_ := Aside0.mk (below_step HBd.out hb_)
  have n2_ := Aside0.mk (blk_below BEd.out hb_)
  clear HBd BEd hb_
  have HBd := n1_
  have BEd := n2_
  clear n1_ n2_
  rename World => wd
  refine hK.out _ _ ⟨(blk_cell BEd.out 0).trans rfl, (blk_cell BEd.out 1).trans rfl, (blk_cell BEd.out 2).trans rfl, (blk_cell BEd.out 3).trans rfl, (blk_cell BEd.out 4).trans rfl, (blk_cell BEd.out 5).trans rfl, (blk_cell BEd.out 6).trans rfl, (blk_cell BEd.out 7).trans rfl, (blk_cell BEd.out 8).trans rfl⟩ (fun hHeld => ?_)
  clear hK K
  refine norm_ (a' := ?_) ?_ ?_
  rotate_left
  · show Act.put _ (some 27) _ = _
    simp only [Act.put, List.setIfInBounds_toArray, List.set_cons_zero, List.set_cons_succ, i64_w, i32_w]
    rfl
  refine one_ (i := 10) (N := some 29) #[true, true, true, true, true, true, true, true, true, true, true, true, true, false, true, true, false, false, false, false] rfl rfl (one_of HT_.out (by kernel_rfl)) (by decide) (fun K hK => ?_)
  refine goes_ Tryd.func48 (by kernel_rfl) rfl #[.string VV] (by rfl) rfl rfl (by (try simp only [List.map_toArray, List.map_cons, List.map_nil]); first | done | rfl) ?_
  refine (audit_word.calls VV _ _ (word_f _)).mono ?_
  rintro e wq ⟨rfl, hd_⟩
  have hb_ := below_of_drawn0_ hd_
  clear hd_
  refine ⟨_, rfl, ?_⟩
  have n1_ := Aside0.mk (below_step HBd.out hb_)
  have n2_ := Aside0.mk (blk_below BEd.out hb_)
  clear HBd BEd hb_
  have HBd := n1_
  have BEd := n2_
  clear n1_ n2_
  rename World => wd
  refine hK.out _ _ ⟨(blk_cell BEd.out 0).trans rfl, (blk_cell BEd.out 1).trans rfl, (blk_cell BEd.out 2).trans rfl, (blk_cell BEd.out 3).trans rfl, (blk_cell BEd.out 4).trans rfl, (blk_cell BEd.out 5).trans rfl, (blk_cell BEd.out 6).trans rfl, (blk_cell BEd.out 7).trans rfl, (blk_cell BEd.out 8).trans rfl⟩ (fun hHeld => ?_)
  clear hK K
  refine norm_ (a' := ?_) ?_ ?_
  rotate_left
  · show Act.put _ (some 29) _ = _
    simp only [Act.put, List.setIfInBounds_toArray, List.set_cons_zero, List.set_cons_succ, i64_w, i32_w]
    rfl
  refine one_ (i := 13) (N := some 32) #[true, true, true, true, true, true, true, true, true, true, true, true, true, true, true, true, false, false, false, false] rfl rfl (one_of HT_.out (by kernel_rfl)) (by decide) (fun K hK => ?_)
  refine goes_ Tryd.func48 (by kernel_rfl) rfl #[.string x.f4] (by rfl) rfl rfl (by (try simp only [List.map_toArray, List.map_cons, List.map_nil]); first | done | rfl) ?_
  refine (audit_word.calls x.f4 _ _ (word_f _)).mono ?_
  rintro e wq ⟨rfl, hd_⟩
  have hb_ := below_of_drawn0_ hd_
  clear hd_
  refine ⟨_, rfl, ?_⟩
  have n1_ := Aside0.mk (below_step HBd.out hb_)
  have n2_ := Aside0.mk (blk_below BEd.out hb_)
  clear HBd BEd hb_
  have HBd := n1_
  have BEd := n2_
  clear n1_ n2_
  rename World => wd
  refine hK.out _ _ ⟨(blk_cell BEd.out 0).trans rfl, (blk_cell BEd.out 1).trans rfl, (blk_cell BEd.out 2).trans rfl, (blk_cell BEd.out 3).trans rfl, (blk_cell BEd.out 4).trans rfl, (blk_cell BEd.out 5).trans rfl, (blk_cell BEd.out 6).trans rfl, (blk_cell BEd.out 7).trans rfl, (blk_cell BEd.out 8).trans rfl⟩ (fun hHeld => ?_)
  clear hK K
  refine norm_ (a' := ?_) ?_ ?_
  rotate_left
  · show Act.put _ (some 32) _ = _
    simp only [Act.put, List.setIfInBounds_toArray, List.set_cons_zero, List.set_cons_succ, i64_w, i32_w]
    rfl
  refine one_ (i := 16) (N := some 35) #[true, true, true, true, true, true, true, true, true, true, true, true, true, true, true, true, true, false, false, false] rfl rfl (one_of HT_.out (by kernel_rfl)) (by decide) (fun K hK => ?_)
  refine goes_ Tryd.func49 (by kernel_rfl) rfl #[.int .i64 x.f5] (by rfl) rfl rfl (by (try simp only [List.map_toArray, List.map_cons, List.map_nil]); first | done | rfl) ?_
  refine (api_Errno_Error.calls x.f5 ew _ HEW.out).mono ?_
  rintro e wq ⟨rfl, hd_⟩
  have hb_ := below_of_drawn0_ hd_
  clear hd_
  refine ⟨_, rfl, ?_⟩
  have n1_ := Aside0.mk (below_step HBd.out hb_)
  have n2_ := Aside0.mk (blk_below BEd.out hb_)
  clear HBd BEd hb_
  have HBd := n1_
  have BEd := n2_
  clear n1_ n2_
  rename World => wd
  refine hK.out _ _ ⟨(blk_cell BEd.out 0).trans rfl, (blk_cell BEd.out 1).trans rfl, (blk_cell BEd.out 2).trans rfl, (blk_cell BEd.out 3).trans rfl, (blk_cell BEd.out 4).trans rfl, (blk_cell BEd.out 5).trans rfl, (blk_cell BEd.out 6).trans rfl, (blk_cell BEd.out 7).trans rfl, (blk_cell BEd.out 8).trans rfl⟩ (fun hHeld => ?_)
  clear hK K
  refine norm_ (a' := ?_) ?_ ?_
  rotate_left
  · show Act.put _ (some 35) _ = _
    simp only [Act.put, List.setIfInBounds_toArray, List.set_cons_zero, List.set_cons_succ, i64_w, i32_w]
    rfl
  refine one_ (i := 17) (N := some 36) #[true, true, true, true, true, true, true, true, true, true, true, true, true, true, true, true, true, true, false, false] rfl rfl (one_of HT_.out (by kernel_rfl)) (by decide) (fun K hK => ?_)
  refine value_ (v := .slice (some ⟨wd.heap.size, 0, none⟩) 6 6) (w1 := wd.alloc (.cells #[.string (numeralB x.f0), .string (textV x.f1.f0 x.f1.f1 x.f1.f2 x.f1.f3), .string (wordB x.f2), .string (wordB VV), .string (wordB x.f4), .string (ew)] 9)) (by rfl) rfl (by go_simp; rfl) ?_
  have BR := Aside0.mk (blk_new wd (.cells #[.string (numeralB x.f0), .string (textV x.f1.f0 x.f1.f1 x.f1.f2 x.f1.f3), .string (wordB x.f2), .string (wordB VV), .string (wordB x.f4), .string (ew)] 9))
  have n1_ := Aside0.mk (below_alloc HBd.out (.cells #[.string (numeralB x.f0), .string (textV x.f1.f0 x.f1.f1 x.f1.f2 x.f1.f3), .string (wordB x.f2), .string (wordB VV), .string (wordB x.f4), .string (ew)] 9))
  have n2_ := Aside0.mk (blk_alloc BEd.out (.cells #[.string (numeralB x.f0), .string (textV x.f1.f0 x.f1.f1 x.f1.f2 x.f1.f3), .string (wordB x.f2), .string (wordB VV), .string (wordB x.f4), .string (ew)] 9))
  clear HBd BEd
  have HBd := n1_
  have BEd := n2_
  clear n1_ n2_
  generalize wd.heap.size = gs at BR ⊢
  generalize wd.alloc _ = we at HBd BEd BR ⊢
  refine hK.out _ _ ⟨(blk_cell BEd.out 0).trans rfl, (blk_cell BEd.out 1).trans rfl, (blk_cell BEd.out 2).trans rfl, (blk_cell BEd.out 3).trans rfl, (blk_cell BEd.out 4).trans rfl, (blk_cell BEd.out 5).trans rfl, (blk_cell BEd.out 6).trans rfl, (blk_cell BEd.out 7).trans rfl, (blk_cell BEd.out 8).trans rfl⟩ (fun hHeld => ?_)
  clear hK K
  refine norm_ (a' := ?_) ?_ ?_
  rotate_left
  · show Act.put _ (some 36) _ = _
    simp only [Act.put, List.setIfInBounds_toArray, List.set_cons_zero, List.set_cons_succ, i64_w, i32_w]
    rfl
  refine one_ (i := 18) (N := some 37) #[true, true, true, true, true, true, true, true, true, true, true, true, true, true, true, true, true, true, true, false] rfl rfl (one_of HT_.out (by kernel_rfl)) (by decide) (fun K hK => ?_)
  refine goes_ Tryd.func45 (by kernel_rfl) rfl #[.slice (some ⟨gs, 0, none⟩) 6 6, .string ⟨#[32]⟩] (by rfl) rfl rfl (by (try simp only [List.map_toArray, List.map_cons, List.map_nil]); first | done | rfl) ?_
  have hcl : ∀ (j : Nat) x_, [numeralB x.f0, textV x.f1.f0 x.f1.f1 x.f1.f2 x.f1.f3, wordB x.f2, wordB VV, wordB x.f4, ew][j]? = some x_ → we.cell? ⟨gs, 0 + j, none⟩ = some (.string x_) := by
    intro j x_ hx
    match j, hx with
    | 0, hx => obtain rfl := Option.some.inj hx; exact (blk_cell BR.out 0).trans rfl
    | 1, hx => obtain rfl := Option.some.inj hx; exact (blk_cell BR.out 1).trans rfl
    | 2, hx => obtain rfl := Option.some.inj hx; exact (blk_cell BR.out 2).trans rfl
    | 3, hx => obtain rfl := Option.some.inj hx; exact (blk_cell BR.out 3).trans rfl
    | 4, hx => obtain rfl := Option.some.inj hx; exact (blk_cell BR.out 4).trans rfl
    | 5, hx => obtain rfl := Option.some.inj hx; exact (blk_cell BR.out 5).trans rfl
    | j + 6, hx => exact absurd hx (by simp)
  refine (Tryd.strings_Join gs 0 6 [numeralB x.f0, textV x.f1.f0 x.f1.f1 x.f1.f2 x.f1.f3, wordB x.f2, wordB VV, wordB x.f4, ew] ⟨#[32]⟩ we hcl (blk_lt BR.out) (by show 6 ≤ _; omega) (by show 6 ≤ 6; omega) HSH.out).mono ?_
  rintro e wq ⟨rfl, hb_⟩
  refine ⟨_, rfl, ?_⟩
  have n1_ := Aside0.mk (below_step HBd.out hb_)
  have n2_ := Aside0.mk (blk_below BEd.out hb_)
  clear HBd BEd hb_ hcl
  have HBd := n1_
  have BEd := n2_
  clear n1_ n2_
  refine hK.out _ _ ⟨(blk_cell BEd.out 0).trans rfl, (blk_cell BEd.out 1).trans rfl, (blk_cell BEd.out 2).trans rfl, (blk_cell BEd.out 3).trans rfl, (blk_cell BEd.out 4).trans rfl, (blk_cell BEd.out 5).trans rfl, (blk_cell BEd.out 6).trans rfl, (blk_cell BEd.out 7).trans rfl, (blk_cell BEd.out 8).trans rfl⟩ (fun hHeld => ?_)
  clear hK K
  refine norm_ (a' := ?_) ?_ ?_
  rotate_left
  · show Act.put _ (some 37) _ = _
    simp only [Act.put, List.setIfInBounds_toArray, List.set_cons_zero, List.set_cons_succ, i64_w, i32_w]
    rfl
  refine pure_ (i := 19) (N := some 2) (v := ?_) (a' := ?_) #[true, true, true, true, true, true, true, true, true, true, true, true, true, true, true, true, true, true, true, true] rfl rfl (any_of HT_.out (by kernel_rfl)) (fun _ _ _ h => h) (Or.inl ⟨by rfl, ?_⟩) ?_ ?_
  rotate_left
  · intro w'
    go_simp
    with_reducible rfl
  rotate_left
  · simp only [Act.put, List.setIfInBounds_toArray, List.set_cons_zero, List.set_cons_succ, i64_w, i32_w]
    rfl
  refine done_ (done_of HT_.out (by kernel_rfl)) ?_
  try go_wp2
  go_ret
  exact ⟨rfl, HBd.out⟩
set_option maxHeartbeats 8000000 in
theorem audit_Text.low (x : SE) (ew : ByteArray) (w : World) (hG : Laid w) (hf0 : fits64 x.f0) (hl : okL x.f1) (h2 : x.f2.size ≤ 1000000) (h4 : x.f4.size ≤ 1000000) (hes : ew.size ≤ 1000000) (hew : api_Errno_Error.f x.f5 = some ew) (hv : ¬ 1 ≤ x.f3) :
    Calls Tryd.prog 28 #[ev x] w fun r w' => r = .returned (.string (textE x ew)) ∧ Below w.heap.size w w' := by
  have HVV : Aside0 (verbW x.f3 = ⟨#[]⟩) := ⟨if_neg (fun h => hv h.1)⟩
  have d1 : decide (1 ≤ x.f3) = false := decide_eq_false hv
  clear hv
  have HF := Aside0.mk hf0
  have HG := Aside0.mk hG
  have HEW := Aside0.mk hew
  have HLT : Aside0 (label_Text.f x.f1.f0 x.f1.f1 x.f1.f2 x.f1.f3 = some (textV x.f1.f0 x.f1.f1 x.f1.f2 x.f1.f3)) := ⟨by unfold label_Text.f; exact if_pos ⟨Lib.wf_i64 hl.1, Lib.wf_i64 hl.2.1, Lib.wf_i64 hl.2.2.1, Lib.wf_i64 hl.2.2.2⟩⟩
  have hsh := partsE_short x ew hf0 hl h2 h4 hes
  unfold textE
  unfold partsE at hsh ⊢
  clear hf0 hG hew hl h2 h4 hes
  rw [HVV.out] at hsh ⊢
  have HSH := Aside0.mk hsh
  clear hsh
  unfold ev
  go_enter Tryd.func28, Tryd.ntmps28
  go_wp2_with (refine bigstore_ rfl 67 (.tmp 3) (.tmp 5) rfl (w.heap.size + 1) verbsA rfl rfl 67 _ ((congrArg (fun k => (_ : Array Obj)[k]?) (by simp)).trans (blk_new _ _)) (by kernel_rfl) rfl (by kernel_rfl) ?_; intro w1 hv_ hk_ hj_ hB_; have BV1 := Aside0.mk hv_; have HB1 := Aside0.mk (hB_ w.heap.size w (below_alloc (below_alloc (Below.refl _ w) _) _) (by omega)); have BE1 := Aside0.mk (hj_ w.heap.size _ (blk_alloc (blk_new w (.cells #[.int .i64 x.f0, .int .i64 x.f1.f0, .int .i64 x.f1.f1, .int .i64 x.f1.f2, .int .i64 x.f1.f3, .string x.f2, .int .i64 x.f3, .string x.f4, .int .i64 x.f5] 26)) _) (by omega)); clear hv_ hk_ hj_ hB_; have c0 : w1.cell? ⟨w.heap.size, 0, none⟩ = some (.int .i64 x.f0) := (blk_cell BE1.out 0).trans rfl; have c1 : w1.cell? ⟨w.heap.size, 1, none⟩ = some (.int .i64 x.f1.f0) := (blk_cell BE1.out 1).trans rfl; have c2 : w1.cell? ⟨w.heap.size, 2, none⟩ = some (.int .i64 x.f1.f1) := (blk_cell BE1.out 2).trans rfl; have c3 : w1.cell? ⟨w.heap.size, 3, none⟩ = some (.int .i64 x.f1.f2) := (blk_cell BE1.out 3).trans rfl; have c4 : w1.cell? ⟨w.heap.size, 4, none⟩ = some (.int .i64 x.f1.f3) := (blk_cell BE1.out 4).trans rfl; have c5 : w1.cell? ⟨w.heap.size, 5, none⟩ = some (.string x.f2) := (blk_cell BE1.out 5).trans rfl; have c6 : w1.cell? ⟨w.heap.size, 6, none⟩ = some (.int .i64 x.f3) := (blk_cell BE1.out 6).trans rfl; have c7 : w1.cell? ⟨w.heap.size, 7, none⟩ = some (.string x.f4) := (blk_cell BE1.out 7).trans rfl; have c8 : w1.cell? ⟨w.heap.size, 8, none⟩ = some (.int .i64 x.f5) := (blk_cell BE1.out 8).trans rfl)
  clear BV1
  have HBd := Aside0.mk (below_drew1 HB1.out)
  have BEd := Aside0.mk (blk_drew BE1.out)
  clear HB1 BE1 c0 c1 c2 c3 c4 c5 c6 c7 c8
  refine start_ (n := 20) (S := fun w' => w'.cell? ⟨w.heap.size, 0, none⟩ = some (.int .i64 x.f0) ∧ w'.cell? ⟨w.heap.size, 1, none⟩ = some (.int .i64 x.f1.f0) ∧ w'.cell? ⟨w.heap.size, 2, none⟩ = some (.int .i64 x.f1.f1) ∧ w'.cell? ⟨w.heap.size, 3, none⟩ = some (.int .i64 x.f1.f2) ∧ w'.cell? ⟨w.heap.size, 4, none⟩ = some (.int .i64 x.f1.f3) ∧ w'.cell? ⟨w.heap.size, 5, none⟩ = some (.string x.f2) ∧ w'.cell? ⟨w.heap.size, 6, none⟩ = some (.int .i64 x.f3) ∧ w'.cell? ⟨w.heap.size, 7, none⟩ = some (.string x.f4) ∧ w'.cell? ⟨w.heap.size, 8, none⟩ = some (.int .i64 x.f5)) (ds := []) #[false, false, false, false, false, false, false, false, false, false, false, false, false, false, false, false, false, false, false, false] (by kernel_rfl) rfl rfl ⟨(blk_cell BEd.out 0).trans rfl, (blk_cell BEd.out 1).trans rfl, (blk_cell BEd.out 2).trans rfl, (blk_cell BEd.out 3).trans rfl, (blk_cell BEd.out 4).trans rfl, (blk_cell BEd.out 5).trans rfl, (blk_cell BEd.out 6).trans rfl, (blk_cell BEd.out 7).trans rfl, (blk_cell BEd.out 8).trans rfl⟩ (fun hHeld => ?_)
  refine with_tabW audit_Text.tab5 audit_Text.bits5 (fun HT_ HW_ => ?_)
  generalize World.drew _ = wd at HBd BEd hHeld ⊢
  refine pure_ (i := 0) (N := some 19) (v := ?_) (a' := ?_) #[true, false, false, false, false, false, false, false, false, false, false, false, false, false, false, false, false, false, false, false] rfl rfl (any_of HT_.out (by kernel_rfl)) (fun _ _ _ h => h) (Or.inl ⟨by rfl, ?_⟩) ?_ ?_
  rotate_left
  · intro w'
    go_simp
    with_reducible rfl
  rotate_left
  · simp only [Act.put, List.setIfInBounds_toArray, List.set_cons_zero, List.set_cons_succ, i64_w, i32_w]
    rfl
  refine pure_ (i := 3) (N := some 22) (v := ?_) (a' := ?_) #[true, false, false, true, false, false, false, false, false, false, false, false, false, false, false, false, false, false, false, false] rfl rfl (any_of HT_.out (by kernel_rfl)) (fun _ _ _ h => h) (Or.inl ⟨by rfl, ?_⟩) ?_ ?_
  rotate_left
  · intro w'
    go_simp
    with_reducible rfl
  rotate_left
  · simp only [Act.put, List.setIfInBounds_toArray, List.set_cons_zero, List.set_cons_succ, i64_w, i32_w]
    rfl
  refine pure_ (i := 6) (N := some 25) (v := ?_) (a' := ?_) #[true, false, false, true, false, false, true, false, false, false, false, false, false, false, false, false, false, false, false, false] rfl rfl (any_of HT_.out (by kernel_rfl)) (fun _ _ _ h => h) (Or.inl ⟨by rfl, ?_⟩) ?_ ?_
  rotate_left
  · intro w'
    go_simp
    with_reducible rfl
  rotate_left
  · simp only [Act.put, List.setIfInBounds_toArray, List.set_cons_zero, List.set_cons_succ, i64_w, i32_w]
    rfl
  refine pure_ (i := 9) (N := some 28) (v := ?_) (a' := ?_) #[true, false, false, true, false, false, true, false, false, true, false, false, false, false, false, false, false, false, false, false] rfl rfl (any_of HT_.out (by kernel_rfl)) (fun _ _ _ h => h) (Or.inl ⟨by rfl, ?_⟩) ?_ ?_
  rotate_left
  · intro w'
    go_simp
    with_reducible rfl
  rotate_left
  · simp only [Act.put, List.setIfInBounds_toArray, List.set_cons_zero, List.set_cons_succ, i64_w, i32_w]
    rfl
  refine pure_ (i := 11) (N := some 30) (v := ?_) (a' := ?_) #[true, false, false, true, false, false, true, false, false, true, false, true, false, false, false, false, false, false, false, false] rfl rfl (any_of HT_.out (by kernel_rfl)) (fun _ _ _ h => h) (Or.inl ⟨by rfl, ?_⟩) ?_ ?_
  rotate_left
  · intro w'
    go_simp
    with_reducible rfl
  rotate_left
  · simp only [Act.put, List.setIfInBounds_toArray, List.set_cons_zero, List.set_cons_succ, i64_w, i32_w]
    rfl
  refine pure_ (i := 14) (N := some 33) (v := ?_) (a' := ?_) #[true, false, false, true, false, false, true, false, false, true, false, true, false, false, true, false, false, false, false, false] rfl rfl (any_of HT_.out (by kernel_rfl)) (fun _ _ _ h => h) (Or.inl ⟨by rfl, ?_⟩) ?_ ?_
  rotate_left
  · intro w'
    go_simp
    with_reducible rfl
  rotate_left
  · simp only [Act.put, List.setIfInBounds_toArray, List.set_cons_zero, List.set_cons_succ, i64_w, i32_w]
    rfl
  refine take_ (i := 1) (N := some 20) (v := ?_) (a' := ?_) #[true, true, false, true, false, false, true, false, false, true, false, true, false, false, true, false, false, false, false, false] rfl rfl (take_ofW HT_.out HW_.out (by kernel_rfl)) (fun _ _ _ h => h) (Or.inl ⟨by rfl, ?_⟩) hHeld ?_ ?_
  rotate_left
  · rintro w' ⟨s0, s1, s2, s3, s4, s5, s6, s7, s8⟩
    go_simp
    with_reducible rfl
  rotate_left
  · simp only [Act.put, List.setIfInBounds_toArray, List.set_cons_zero, List.set_cons_succ, i64_w, i32_w]
    rfl
  refine take_ (i := 4) (N := some 23) (v := ?_) (a' := ?_) #[true, true, false, true, true, false, true, false, false, true, false, true, false, false, true, false, false, false, false, false] rfl rfl (take_ofW HT_.out HW_.out (by kernel_rfl)) (fun _ _ _ h => h) (Or.inl ⟨by rfl, ?_⟩) hHeld ?_ ?_
  rotate_left
  · rintro w' ⟨s0, s1, s2, s3, s4, s5, s6, s7, s8⟩
    go_simp
    with_reducible rfl
  rotate_left
  · simp only [Act.put, List.setIfInBounds_toArray, List.set_cons_zero, List.set_cons_succ, i64_w, i32_w]
    rfl
  refine take_ (i := 7) (N := some 26) (v := ?_) (a' := ?_) #[true, true, false, true, true, false, true, true, false, true, false, true, false, false, true, false, false, false, false, false] rfl rfl (take_ofW HT_.out HW_.out (by kernel_rfl)) (fun _ _ _ h => h) (Or.inl ⟨by rfl, ?_⟩) hHeld ?_ ?_
  rotate_left
  · rintro w' ⟨s0, s1, s2, s3, s4, s5, s6, s7, s8⟩
    go_simp
    with_reducible rfl
  rotate_left
  · simp only [Act.put, List.setIfInBounds_toArray, List.set_cons_zero, List.set_cons_succ, i64_w, i32_w]
    rfl
  refine take_ (i := 12) (N := some 31) (v := ?_) (a' := ?_) #[true, true, false, true, true, false, true, true, false, true, false, true, true, false, true, false, false, false, false, false] rfl rfl (take_ofW HT_.out HW_.out (by kernel_rfl)) (fun _ _ _ h => h) (Or.inl ⟨by rfl, ?_⟩) hHeld ?_ ?_
  rotate_left
  · rintro w' ⟨s0, s1, s2, s3, s4, s5, s6, s7, s8⟩
    go_simp
    with_reducible rfl
  rotate_left
  · simp only [Act.put, List.setIfInBounds_toArray, List.set_cons_zero, List.set_cons_succ, i64_w, i32_w]
    rfl
  refine take_ (i := 15) (N := some 34) (v := ?_) (a' := ?_) #[true, true, false, true, true, false, true, true, false, true, false, true, true, false, true, true, false, false, false, false] rfl rfl (take_ofW HT_.out HW_.out (by kernel_rfl)) (fun _ _ _ h => h) (Or.inl ⟨by rfl, ?_⟩) hHeld ?_ ?_
  rotate_left
  · rintro w' ⟨s0, s1, s2, s3, s4, s5, s6, s7, s8⟩
    go_simp
    with_reducible rfl
  rotate_left
  · simp only [Act.put, List.setIfInBounds_toArray, List.set_cons_zero, List.set_cons_succ, i64_w, i32_w]
    rfl
  refine one_ (i := 2) (N := some 21) #[true, true, true, true, true, false, true, true, false, true, false, true, true, false, true, true, false, false, false, false] rfl rfl (one_of HT_.out (by kernel_rfl)) (by decide) (fun K hK => ?_)
  refine goes_ Tryd.func46 (by kernel_rfl) rfl #[.int .i64 x.f0] (by rfl) rfl rfl (by (try simp only [List.map_toArray, List.map_cons, List.map_nil]); first | done | rfl) ?_
  refine (Tryd.strconv_Itoa x.f0 HF.out.1 HF.out.2 _ (Laid.below HG.out HBd.out)).mono ?_
  rintro e wq ⟨rfl, q2, os2, hw2⟩
  have hb_ : Below _ _ wq := (by rw [hw2]; exact below_grown_sl _ _ q2 os2 (Nat.le_refl _))
  clear hw2
  refine ⟨_, rfl, ?_⟩
  have n1_ := Aside0.mk (below_step HBd.out hb_)
  have n2_ := Aside0.mk (blk_below BEd.out hb_)
  clear HBd BEd hb_
  have HBd := n1_
  have BEd := n2_
  clear n1_ n2_
  rename World => wd
  refine hK.out _ _ ⟨(blk_cell BEd.out 0).trans rfl, (blk_cell BEd.out 1).trans rfl, (blk_cell BEd.out 2).trans rfl, (blk_cell BEd.out 3).trans rfl, (blk_cell BEd.out 4).trans rfl, (blk_cell BEd.out 5).trans rfl, (blk_cell BEd.out 6).trans rfl, (blk_cell BEd.out 7).trans rfl, (blk_cell BEd.out 8).trans rfl⟩ (fun hHeld => ?_)
  clear hK K
  refine norm_ (a' := ?_) ?_ ?_
  rotate_left
  · show Act.put _ (some 21) _ = _
    simp only [Act.put, List.setIfInBounds_toArray, List.set_cons_zero, List.set_cons_succ, i64_w, i32_w]
    rfl
  refine one_ (i := 5) (N := some 24) #[true, true, true, true, true, true, true, true, false, true, false, true, true, false, true, true, false, false, false, false] rfl rfl (one_of HT_.out (by kernel_rfl)) (by decide) (fun K hK => ?_)
  refine goes_ Tryd.func47 (by kernel_rfl) rfl #[.agg #[.int .i64 x.f1.f0, .int .i64 x.f1.f1, .int .i64 x.f1.f2, .int .i64 x.f1.f3]] (by rfl) rfl rfl (by (try simp only [List.map_toArray, List.map_cons, List.map_nil]); first | done | rfl) ?_
  refine (label_Text.calls x.f1.f0 x.f1.f1 x.f1.f2 x.f1.f3 _ _ (Laid.below HG.out HBd.out) HLT.out).mono ?_
  rintro e wq ⟨rfl, hb_⟩
  refine ⟨_, rfl, ?_⟩
  have n1_ := Aside0.mk (below_step HBd.out hb_)
  have n2_ := Aside0.mk (blk_below BEd.out hb_)
  clear HBd BEd hb_
  have HBd := n1_
  have BEd := n2_
  clear n1_ n2_
  rename World => wd
  refine hK.out _ _ ⟨(blk_cell BEd.out 0).trans rfl, (blk_cell BEd.out 1).trans rfl, (blk_cell BEd.out 2).trans rfl, (blk_cell BEd.out 3).trans rfl, (blk_cell BEd.out 4).trans rfl, (blk_cell BEd.out 5).trans rfl, (blk_cell BEd.out 6).trans rfl, (blk_cell BEd.out 7).trans rfl, (blk_cell BEd.out 8).trans rfl⟩ (fun hHeld => ?_)
  clear hK K
  refine norm_ (a' := ?_) ?_ ?_
  rotate_left
  · show Act.put _ (some 24) _ = _
    simp only [Act.put, List.setIfInBounds_toArray, List.set_cons_zero, List.set_cons_succ, i64_w, i32_w]
    rfl
  refine one_ (i := 8) (N := some 27) #[true, true, true, true, true, true, true, true, true, true, false, true, true, false, true, true, false, false, false, false] rfl rfl (one_of HT_.out (by kernel_rfl)) (by decide) (fun K hK => ?_)
  refine goes_ Tryd.func48 (by kernel_rfl) rfl #[.string x.f2] (by rfl) rfl rfl (by (try simp only [List.map_toArray, List.map_cons, List.map_nil]); first | done | rfl) ?_
  refine (audit_word.calls x.f2 _ _ (word_f _)).mono ?_
  rintro e wq ⟨rfl, hd_⟩
  have hb_ := below_of_drawn0_ hd_
  clear hd_
  refine ⟨_, rfl, ?_⟩
  have n1_ := Aside0.mk (below_step HBd.out hb_)
  have n2_ := Aside0.mk (blk_below BEd.out hb_)
  clear HBd BEd hb_
  have HBd := n1_
  have BEd := n2_
  clear n1_ n2_
  rename World => wd
  refine hK.out _ _ ⟨(blk_cell BEd.out 0).trans rfl, (blk_cell BEd.out 1).trans rfl, (blk_cell BEd.out 2).trans rfl, (blk_cell BEd.out 3).trans rfl, (blk_cell BEd.out 4).trans rfl, (blk_cell BEd.out 5).trans rfl, (blk_cell BEd.out 6).trans rfl, (blk_cell BEd.out 7).trans rfl, (blk_cell BEd.out 8).trans rfl⟩ (fun hHeld => ?_)
  clear hK K
  refine norm_ (a' := ?_) ?_ ?_
  rotate_left
  · show Act.put _ (some 27) _ = _
    simp only [Act.put, List.setIfInBounds_toArray, List.set_cons_zero, List.set_cons_succ, i64_w, i32_w]
    rfl
  refine one_ (i := 10) (N := some 29) #[true, true, true, true, true, true, true, true, true, true, true, true, true, false, true, true, false, false, false, false] rfl rfl (one_of HT_.out (by kernel_rfl)) (by decide) (fun K hK => ?_)
  refine goes_ Tryd.func48 (by kernel_rfl) rfl #[.string ⟨#[]⟩] (by rfl) rfl rfl (by (try simp only [List.map_toArray, List.map_cons, List.map_nil]); first | done | rfl) ?_
  refine (audit_word.calls ⟨#[]⟩ _ _ (word_f _)).mono ?_
  rintro e wq ⟨rfl, hd_⟩
  have hb_ := below_of_drawn0_ hd_
  clear hd_
  refine ⟨_, rfl, ?_⟩
  have n1_ := Aside0.mk (below_step HBd.out hb_)
  have n2_ := Aside0.mk (blk_below BEd.out hb_)
  clear HBd BEd hb_
  have HBd := n1_
  have BEd := n2_
  clear n1_ n2_
  rename World => wd
  refine hK.out _ _ ⟨(blk_cell BEd.out 0).trans rfl, (blk_cell BEd.out 1).trans rfl, (blk_cell BEd.out 2).trans rfl, (blk_cell BEd.out 3).trans rfl, (blk_cell BEd.out 4).trans rfl, (blk_cell BEd.out 5).trans rfl, (blk_cell BEd.out 6).trans rfl, (blk_cell BEd.out 7).trans rfl, (blk_cell BEd.out 8).trans rfl⟩ (fun hHeld => ?_)
  clear hK K
  refine norm_ (a' := ?_) ?_ ?_
  rotate_left
  · show Act.put _ (some 29) _ = _
    simp only [Act.put, List.setIfInBounds_toArray, List.set_cons_zero, List.set_cons_succ, i64_w, i32_w]
    rfl
  refine one_ (i := 13) (N := some 32) #[true, true, true, true, true, true, true, true, true, true, true, true, true, true, true, true, false, false, false, false] rfl rfl (one_of HT_.out (by kernel_rfl)) (by decide) (fun K hK => ?_)
  refine goes_ Tryd.func48 (by kernel_rfl) rfl #[.string x.f4] (by rfl) rfl rfl (by (try simp only [List.map_toArray, List.map_cons, List.map_nil]); first | done | rfl) ?_
  refine (audit_word.calls x.f4 _ _ (word_f _)).mono ?_
  rintro e wq ⟨rfl, hd_⟩
  have hb_ := below_of_drawn0_ hd_
  clear hd_
  refine ⟨_, rfl, ?_⟩
  have n1_ := Aside0.mk (below_step HBd.out hb_)
  have n2_ := Aside0.mk (blk_below BEd.out hb_)
  clear HBd BEd hb_
  have HBd := n1_
  have BEd := n2_
  clear n1_ n2_
  rename World => wd
  refine hK.out _ _ ⟨(blk_cell BEd.out 0).trans rfl, (blk_cell BEd.out 1).trans rfl, (blk_cell BEd.out 2).trans rfl, (blk_cell BEd.out 3).trans rfl, (blk_cell BEd.out 4).trans rfl, (blk_cell BEd.out 5).trans rfl, (blk_cell BEd.out 6).trans rfl, (blk_cell BEd.out 7).trans rfl, (blk_cell BEd.out 8).trans rfl⟩ (fun hHeld => ?_)
  clear hK K
  refine norm_ (a' := ?_) ?_ ?_
  rotate_left
  · show Act.put _ (some 32) _ = _
    simp only [Act.put, List.setIfInBounds_toArray, List.set_cons_zero, List.set_cons_succ, i64_w, i32_w]
    rfl
  refine one_ (i := 16) (N := some 35) #[true, true, true, true, true, true, true, true, true, true, true, true, true, true, true, true, true, false, false, false] rfl rfl (one_of HT_.out (by kernel_rfl)) (by decide) (fun K hK => ?_)
  refine goes_ Tryd.func49 (by kernel_rfl) rfl #[.int .i64 x.f5] (by rfl) rfl rfl (by (try simp only [List.map_toArray, List.map_cons, List.map_nil]); first | done | rfl) ?_
  refine (api_Errno_Error.calls x.f5 ew _ HEW.out).mono ?_
  rintro e wq ⟨rfl, hd_⟩
  have hb_ := below_of_drawn0_ hd_
  clear hd_
  refine ⟨_, rfl, ?_⟩
  have n1_ := Aside0.mk (below_step HBd.out hb_)
  have n2_ := Aside0.mk (blk_below BEd.out hb_)
  clear HBd BEd hb_
  have HBd := n1_
  have BEd := n2_
  clear n1_ n2_
  rename World => wd
  refine hK.out _ _ ⟨(blk_cell BEd.out 0).trans rfl, (blk_cell BEd.out 1).trans rfl, (blk_cell BEd.out 2).trans rfl, (blk_cell BEd.out 3).trans rfl, (blk_cell BEd.out 4).trans rfl, (blk_cell BEd.out 5).trans rfl, (blk_cell BEd.out 6).trans rfl, (blk_cell BEd.out 7).trans rfl, (blk_cell BEd.out 8).trans rfl⟩ (fun hHeld => ?_)
  clear hK K
  refine norm_ (a' := ?_) ?_ ?_
  rotate_left
  · show Act.put _ (some 35) _ = _
    simp only [Act.put, List.setIfInBounds_toArray, List.set_cons_zero, List.set_cons_succ, i64_w, i32_w]
    rfl
  refine one_ (i := 17) (N := some 36) #[true, true, true, true, true, true, true, true, true, true, true, true, true, true, true, true, true, true, false, false] rfl rfl (one_of HT_.out (by kernel_rfl)) (by decide) (fun K hK => ?_)
  refine value_ (v := .slice (some ⟨wd.heap.size, 0, none⟩) 6 6) (w1 := wd.alloc (.cells #[.string (numeralB x.f0), .string (textV x.f1.f0 x.f1.f1 x.f1.f2 x.f1.f3), .string (wordB x.f2), .string (wordB ⟨#[]⟩), .string (wordB x.f4), .string (ew)] 9)) (by rfl) rfl (by go_simp; rfl) ?_
  have BR := Aside0.mk (blk_new wd (.cells #[.string (numeralB x.f0), .string (textV x.f1.f0 x.f1.f1 x.f1.f2 x.f1.f3), .string (wordB x.f2), .string (wordB ⟨#[]⟩), .string (wordB x.f4), .string (ew)] 9))
  have n1_ := Aside0.mk (below_alloc HBd.out (.cells #[.string (numeralB x.f0), .string (textV x.f1.f0 x.f1.f1 x.f1.f2 x.f1.f3), .string (wordB x.f2), .string (wordB ⟨#[]⟩), .string (wordB x.f4), .string (ew)] 9))
  have n2_ := Aside0.mk (blk_alloc BEd.out (.cells #[.string (numeralB x.f0), .string (textV x.f1.f0 x.f1.f1 x.f1.f2 x.f1.f3), .string (wordB x.f2), .string (wordB ⟨#[]⟩), .string (wordB x.f4), .string (ew)] 9))
  clear HBd BEd
  have HBd := n1_
  have BEd := n2_
  clear n1_ n2_
  generalize wd.heap.size = gs at BR ⊢
  generalize wd.alloc _ = we at HBd BEd BR ⊢
  refine hK.out _ _ ⟨(blk_cell BEd.out 0).trans rfl, (blk_cell BEd.out 1).trans rfl, (blk_cell BEd.out 2).trans rfl, (blk_cell BEd.out 3).trans rfl, (blk_cell BEd.out 4).trans rfl, (blk_cell BEd.out 5).trans rfl, (blk_cell BEd.out 6).trans rfl, (blk_cell BEd.out 7).trans rfl, (blk_cell BEd.out 8).trans rfl⟩ (fun hHeld => ?_)
  clear hK K
  refine norm_ (a' := ?_) ?_ ?_
  rotate_left
  · show Act.put _ (some 36) _ = _
    simp only [Act.put, List.setIfInBounds_toArray, List.set_cons_zero, List.set_cons_succ, i64_w, i32_w]
    rfl
  refine one_ (i := 18) (N := some 37) #[true, true, true, true, true, true, true, true, true, true, true, true, true, true, true, true, true, true, true, false] rfl rfl (one_of HT_.out (by kernel_rfl)) (by decide) (fun K hK => ?_)
  refine goes_ Tryd.func45 (by kernel_rfl) rfl #[.slice (some ⟨gs, 0, none⟩) 6 6, .string ⟨#[32]⟩] (by rfl) rfl rfl (by (try simp only [List.map_toArray, List.map_cons, List.map_nil]); first | done | rfl) ?_
  have hcl : ∀ (j : Nat) x_, [numeralB x.f0, textV x.f1.f0 x.f1.f1 x.f1.f2 x.f1.f3, wordB x.f2, wordB ⟨#[]⟩, wordB x.f4, ew][j]? = some x_ → we.cell? ⟨gs, 0 + j, none⟩ = some (.string x_) := by
    intro j x_ hx
    match j, hx with
    | 0, hx => obtain rfl := Option.some.inj hx; exact (blk_cell BR.out 0).trans rfl
    | 1, hx => obtain rfl := Option.some.inj hx; exact (blk_cell BR.out 1).trans rfl
    | 2, hx => obtain rfl := Option.some.inj hx; exact (blk_cell BR.out 2).trans rfl
    | 3, hx => obtain rfl := Option.some.inj hx; exact (blk_cell BR.out 3).trans rfl
    | 4, hx => obtain rfl := Option.some.inj hx; exact (blk_cell BR.out 4).trans rfl
    | 5, hx => obtain rfl := Option.some.inj hx; exact (blk_cell BR.out 5).trans rfl
    | j + 6, hx => exact absurd hx (by simp)
  refine (Tryd.strings_Join gs 0 6 [numeralB x.f0, textV x.f1.f0 x.f1.f1 x.f1.f2 x.f1.f3, wordB x.f2, wordB ⟨#[]⟩, wordB x.f4, ew] ⟨#[32]⟩ we hcl (blk_lt BR.out) (by show 6 ≤ _; omega) (by show 6 ≤ 6; omega) HSH.out).mono ?_
  rintro e wq ⟨rfl, hb_⟩
  refine ⟨_, rfl, ?_⟩
  have n1_ := Aside0.mk (below_step HBd.out hb_)
  have n2_ := Aside0.mk (blk_below BEd.out hb_)
  clear HBd BEd hb_ hcl
  have HBd := n1_
  have BEd := n2_
  clear n1_ n2_
  refine hK.out _ _ ⟨(blk_cell BEd.out 0).trans rfl, (blk_cell BEd.out 1).trans rfl, (blk_cell BEd.out 2).trans rfl, (blk_cell BEd.out 3).trans rfl, (blk_cell BEd.out 4).trans rfl, (blk_cell BEd.out 5).trans rfl, (blk_cell BEd.out 6).trans rfl, (blk_cell BEd.out 7).trans rfl, (blk_cell BEd.out 8).trans rfl⟩ (fun hHeld => ?_)
  clear hK K
  refine norm_ (a' := ?_) ?_ ?_
  rotate_left
  · show Act.put _ (some 37) _ = _
    simp only [Act.put, List.setIfInBounds_toArray, List.set_cons_zero, List.set_cons_succ, i64_w, i32_w]
    rfl
  refine pure_ (i := 19) (N := some 2) (v := ?_) (a' := ?_) #[true, true, true, true, true, true, true, true, true, true, true, true, true, true, true, true, true, true, true, true] rfl rfl (any_of HT_.out (by kernel_rfl)) (fun _ _ _ h => h) (Or.inl ⟨by rfl, ?_⟩) ?_ ?_
  rotate_left
  · intro w'
    go_simp
    with_reducible rfl
  rotate_left
  · simp only [Act.put, List.setIfInBounds_toArray, List.set_cons_zero, List.set_cons_succ, i64_w, i32_w]
    rfl
  refine done_ (done_of HT_.out (by kernel_rfl)) ?_
  try go_wp2
  go_ret
  exact ⟨rfl, HBd.out⟩
set_option maxHeartbeats 8000000 in
theorem audit_Text.high (x : SE) (ew : ByteArray) (w : World) (hG : Laid w) (hf0 : fits64 x.f0) (hl : okL x.f1) (h2 : x.f2.size ≤ 1000000) (h4 : x.f4.size ≤ 1000000) (hes : ew.size ≤ 1000000) (hew : api_Errno_Error.f x.f5 = some ew) (hv0 : 1 ≤ x.f3) (hv : ¬ x.f3 ≤ 14) :
    Calls Tryd.prog 28 #[ev x] w fun r w' => r = .returned (.string (textE x ew)) ∧ Below w.heap.size w w' := by
  have HVV : Aside0 (verbW x.f3 = ⟨#[]⟩) := ⟨if_neg (fun h => hv h.2)⟩
  have d1 : decide (1 ≤ x.f3) = true := decide_eq_true hv0
  have d2 : decide (x.f3 ≤ 14) = false := decide_eq_false hv
  clear hv hv0
  have HF := Aside0.mk hf0
  have HG := Aside0.mk hG
  have HEW := Aside0.mk hew
  have HLT : Aside0 (label_Text.f x.f1.f0 x.f1.f1 x.f1.f2 x.f1.f3 = some (textV x.f1.f0 x.f1.f1 x.f1.f2 x.f1.f3)) := ⟨by unfold label_Text.f; exact if_pos ⟨Lib.wf_i64 hl.1, Lib.wf_i64 hl.2.1, Lib.wf_i64 hl.2.2.1, Lib.wf_i64 hl.2.2.2⟩⟩
  have hsh := partsE_short x ew hf0 hl h2 h4 hes
  unfold textE
  unfold partsE at hsh ⊢
  clear hf0 hG hew hl h2 h4 hes
  rw [HVV.out] at hsh ⊢
  have HSH := Aside0.mk hsh
  clear hsh
  unfold ev
  go_enter Tryd.func28, Tryd.ntmps28
  go_wp2_with (refine bigstore_ rfl 67 (.tmp 3) (.tmp 5) rfl (w.heap.size + 1) verbsA rfl rfl 67 _ ((congrArg (fun k => (_ : Array Obj)[k]?) (by simp)).trans (blk_new _ _)) (by kernel_rfl) rfl (by kernel_rfl) ?_; intro w1 hv_ hk_ hj_ hB_; have BV1 := Aside0.mk hv_; have HB1 := Aside0.mk (hB_ w.heap.size w (below_alloc (below_alloc (Below.refl _ w) _) _) (by omega)); have BE1 := Aside0.mk (hj_ w.heap.size _ (blk_alloc (blk_new w (.cells #[.int .i64 x.f0, .int .i64 x.f1.f0, .int .i64 x.f1.f1, .int .i64 x.f1.f2, .int .i64 x.f1.f3, .string x.f2, .int .i64 x.f3, .string x.f4, .int .i64 x.f5] 26)) _) (by omega)); clear hv_ hk_ hj_ hB_; have c0 : w1.cell? ⟨w.heap.size, 0, none⟩ = some (.int .i64 x.f0) := (blk_cell BE1.out 0).trans rfl; have c1 : w1.cell? ⟨w.heap.size, 1, none⟩ = some (.int .i64 x.f1.f0) := (blk_cell BE1.out 1).trans rfl; have c2 : w1.cell? ⟨w.heap.size, 2, none⟩ = some (.int .i64 x.f1.f1) := (blk_cell BE1.out 2).trans rfl; have c3 : w1.cell? ⟨w.heap.size, 3, none⟩ = some (.int .i64 x.f1.f2) := (blk_cell BE1.out 3).trans rfl; have c4 : w1.cell? ⟨w.heap.size, 4, none⟩ = some (.int .i64 x.f1.f3) := (blk_cell BE1.out 4).trans rfl; have c5 : w1.cell? ⟨w.heap.size, 5, none⟩ = some (.string x.f2) := (blk_cell BE1.out 5).trans rfl; have c6 : w1.cell? ⟨w.heap.size, 6, none⟩ = some (.int .i64 x.f3) := (blk_cell BE1.out 6).trans rfl; have c7 : w1.cell? ⟨w.heap.size, 7, none⟩ = some (.string x.f4) := (blk_cell BE1.out 7).trans rfl; have c8 : w1.cell? ⟨w.heap.size, 8, none⟩ = some (.int .i64 x.f5) := (blk_cell BE1.out 8).trans rfl)
  clear BV1
  have HBd := Aside0.mk (below_drew1 HB1.out)
  have BEd := Aside0.mk (blk_drew BE1.out)
  clear HB1 BE1 c0 c1 c2 c3 c4 c5 c6 c7 c8
  refine start_ (n := 20) (S := fun w' => w'.cell? ⟨w.heap.size, 0, none⟩ = some (.int .i64 x.f0) ∧ w'.cell? ⟨w.heap.size, 1, none⟩ = some (.int .i64 x.f1.f0) ∧ w'.cell? ⟨w.heap.size, 2, none⟩ = some (.int .i64 x.f1.f1) ∧ w'.cell? ⟨w.heap.size, 3, none⟩ = some (.int .i64 x.f1.f2) ∧ w'.cell? ⟨w.heap.size, 4, none⟩ = some (.int .i64 x.f1.f3) ∧ w'.cell? ⟨w.heap.size, 5, none⟩ = some (.string x.f2) ∧ w'.cell? ⟨w.heap.size, 6, none⟩ = some (.int .i64 x.f3) ∧ w'.cell? ⟨w.heap.size, 7, none⟩ = some (.string x.f4) ∧ w'.cell? ⟨w.heap.size, 8, none⟩ = some (.int .i64 x.f5)) (ds := []) #[false, false, false, false, false, false, false, false, false, false, false, false, false, false, false, false, false, false, false, false] (by kernel_rfl) rfl rfl ⟨(blk_cell BEd.out 0).trans rfl, (blk_cell BEd.out 1).trans rfl, (blk_cell BEd.out 2).trans rfl, (blk_cell BEd.out 3).trans rfl, (blk_cell BEd.out 4).trans rfl, (blk_cell BEd.out 5).trans rfl, (blk_cell BEd.out 6).trans rfl, (blk_cell BEd.out 7).trans rfl, (blk_cell BEd.out 8).trans rfl⟩ (fun hHeld => ?_)
  refine with_tabW audit_Text.tab5 audit_Text.bits5 (fun HT_ HW_ => ?_)
  generalize World.drew _ = wd at HBd BEd hHeld ⊢
  refine pure_ (i := 0) (N := some 19) (v := ?_) (a' := ?_) #[true, false, false, false, false, false, false, false, false, false, false, false, false, false, false, false, false, false, false, false] rfl rfl (any_of HT_.out (by kernel_rfl)) (fun _ _ _ h => h) (Or.inl ⟨by rfl, ?_⟩) ?_ ?_
  rotate_left
  · intro w'
    go_simp
    with_reducible rfl
  rotate_left
  · simp only [Act.put, List.setIfInBounds_toArray, List.set_cons_zero, List.set_cons_succ, i64_w, i32_w]
    rfl
  refine pure_ (i := 3) (N := some 22) (v := ?_) (a' := ?_) #[true, false, false, true, false, false, false, false, false, false, false, false, false, false, false, false, false, false, false, false] rfl rfl (any_of HT_.out (by kernel_rfl)) (fun _ _ _ h => h) (Or.inl ⟨by rfl, ?_⟩) ?_ ?_
  rotate_left
  · intro w'
    go_simp
    with_reducible rfl
  rotate_left
  · simp only [Act.put, List.setIfInBounds_toArray, List.set_cons_zero, List.set_cons_succ, i64_w, i32_w]
    rfl
  refine pure_ (i := 6) (N := some 25) (v := ?_) (a' := ?_) #[true, false, false, true, false, false, true, false, false, false, false, false, false, false, false, false, false, false, false, false] rfl rfl (any_of HT_.out (by kernel_rfl)) (fun _ _ _ h => h) (Or.inl ⟨by rfl, ?_⟩) ?_ ?_
  rotate_left
  · intro w'
    go_simp
    with_reducible rfl
  rotate_left
  · simp only [Act.put, List.setIfInBounds_toArray, List.set_cons_zero, List.set_cons_succ, i64_w, i32_w]
    rfl
  refine pure_ (i := 9) (N := some 28) (v := ?_) (a' := ?_) #[true, false, false, true, false, false, true, false, false, true, false, false, false, false, false, false, false, false, false, false] rfl rfl (any_of HT_.out (by kernel_rfl)) (fun _ _ _ h => h) (Or.inl ⟨by rfl, ?_⟩) ?_ ?_
  rotate_left
  · intro w'
    go_simp
    with_reducible rfl
  rotate_left
  · simp only [Act.put, List.setIfInBounds_toArray, List.set_cons_zero, List.set_cons_succ, i64_w, i32_w]
    rfl
  refine pure_ (i := 11) (N := some 30) (v := ?_) (a' := ?_) #[true, false, false, true, false, false, true, false, false, true, false, true, false, false, false, false, false, false, false, false] rfl rfl (any_of HT_.out (by kernel_rfl)) (fun _ _ _ h => h) (Or.inl ⟨by rfl, ?_⟩) ?_ ?_
  rotate_left
  · intro w'
    go_simp
    with_reducible rfl
  rotate_left
  · simp only [Act.put, List.setIfInBounds_toArray, List.set_cons_zero, List.set_cons_succ, i64_w, i32_w]
    rfl
  refine pure_ (i := 14) (N := some 33) (v := ?_) (a' := ?_) #[true, false, false, true, false, false, true, false, false, true, false, true, false, false, true, false, false, false, false, false] rfl rfl (any_of HT_.out (by kernel_rfl)) (fun _ _ _ h => h) (Or.inl ⟨by rfl, ?_⟩) ?_ ?_
  rotate_left
  · intro w'
    go_simp
    with_reducible rfl
  rotate_left
  · simp only [Act.put, List.setIfInBounds_toArray, List.set_cons_zero, List.set_cons_succ, i64_w, i32_w]
    rfl
  refine take_ (i := 1) (N := some 20) (v := ?_) (a' := ?_) #[true, true, false, true, false, false, true, false, false, true, false, true, false, false, true, false, false, false, false, false] rfl rfl (take_ofW HT_.out HW_.out (by kernel_rfl)) (fun _ _ _ h => h) (Or.inl ⟨by rfl, ?_⟩) hHeld ?_ ?_
  rotate_left
  · rintro w' ⟨s0, s1, s2, s3, s4, s5, s6, s7, s8⟩
    go_simp
    with_reducible rfl
  rotate_left
  · simp only [Act.put, List.setIfInBounds_toArray, List.set_cons_zero, List.set_cons_succ, i64_w, i32_w]
    rfl
  refine take_ (i := 4) (N := some 23) (v := ?_) (a' := ?_) #[true, true, false, true, true, false, true, false, false, true, false, true, false, false, true, false, false, false, false, false] rfl rfl (take_ofW HT_.out HW_.out (by kernel_rfl)) (fun _ _ _ h => h) (Or.inl ⟨by rfl, ?_⟩) hHeld ?_ ?_
  rotate_left
  · rintro w' ⟨s0, s1, s2, s3, s4, s5, s6, s7, s8⟩
    go_simp
    with_reducible rfl
  rotate_left
  · simp only [Act.put, List.setIfInBounds_toArray, List.set_cons_zero, List.set_cons_succ, i64_w, i32_w]
    rfl
  refine take_ (i := 7) (N := some 26) (v := ?_) (a' := ?_) #[true, true, false, true, true, false, true, true, false, true, false, true, false, false, true, false, false, false, false, false] rfl rfl (take_ofW HT_.out HW_.out (by kernel_rfl)) (fun _ _ _ h => h) (Or.inl ⟨by rfl, ?_⟩) hHeld ?_ ?_
  rotate_left
  · rintro w' ⟨s0, s1, s2, s3, s4, s5, s6, s7, s8⟩
    go_simp
    with_reducible rfl
  rotate_left
  · simp only [Act.put, List.setIfInBounds_toArray, List.set_cons_zero, List.set_cons_succ, i64_w, i32_w]
    rfl
  refine take_ (i := 12) (N := some 31) (v := ?_) (a' := ?_) #[true, true, false, true, true, false, true, true, false, true, false, true, true, false, true, false, false, false, false, false] rfl rfl (take_ofW HT_.out HW_.out (by kernel_rfl)) (fun _ _ _ h => h) (Or.inl ⟨by rfl, ?_⟩) hHeld ?_ ?_
  rotate_left
  · rintro w' ⟨s0, s1, s2, s3, s4, s5, s6, s7, s8⟩
    go_simp
    with_reducible rfl
  rotate_left
  · simp only [Act.put, List.setIfInBounds_toArray, List.set_cons_zero, List.set_cons_succ, i64_w, i32_w]
    rfl
  refine take_ (i := 15) (N := some 34) (v := ?_) (a' := ?_) #[true, true, false, true, true, false, true, true, false, true, false, true, true, false, true, true, false, false, false, false] rfl rfl (take_ofW HT_.out HW_.out (by kernel_rfl)) (fun _ _ _ h => h) (Or.inl ⟨by rfl, ?_⟩) hHeld ?_ ?_
  rotate_left
  · rintro w' ⟨s0, s1, s2, s3, s4, s5, s6, s7, s8⟩
    go_simp
    with_reducible rfl
  rotate_left
  · simp only [Act.put, List.setIfInBounds_toArray, List.set_cons_zero, List.set_cons_succ, i64_w, i32_w]
    rfl
  refine one_ (i := 2) (N := some 21) #[true, true, true, true, true, false, true, true, false, true, false, true, true, false, true, true, false, false, false, false] rfl rfl (one_of HT_.out (by kernel_rfl)) (by decide) (fun K hK => ?_)
  refine goes_ Tryd.func46 (by kernel_rfl) rfl #[.int .i64 x.f0] (by rfl) rfl rfl (by (try simp only [List.map_toArray, List.map_cons, List.map_nil]); first | done | rfl) ?_
  refine (Tryd.strconv_Itoa x.f0 HF.out.1 HF.out.2 _ (Laid.below HG.out HBd.out)).mono ?_
  rintro e wq ⟨rfl, q2, os2, hw2⟩
  have hb_ : Below _ _ wq := (by rw [hw2]; exact below_grown_sl _ _ q2 os2 (Nat.le_refl _))
  clear hw2
  refine ⟨_, rfl, ?_⟩
  have n1_ := Aside0.mk (below_step HBd.out hb_)
  have n2_ := Aside0.mk (blk_below BEd.out hb_)
  clear HBd BEd hb_
  have HBd := n1_
  have BEd := n2_
  clear n1_ n2_
  rename World => wd
  refine hK.out _ _ ⟨(blk_cell BEd.out 0).trans rfl, (blk_cell BEd.out 1).trans rfl, (blk_cell BEd.out 2).trans rfl, (blk_cell BEd.out 3).trans rfl, (blk_cell BEd.out 4).trans rfl, (blk_cell BEd.out 5).trans rfl, (blk_cell BEd.out 6).trans rfl, (blk_cell BEd.out 7).trans rfl, (blk_cell BEd.out 8).trans rfl⟩ (fun hHeld => ?_)
  clear hK K
  refine norm_ (a' := ?_) ?_ ?_
  rotate_left
  · show Act.put _ (some 21) _ = _
    simp only [Act.put, List.setIfInBounds_toArray, List.set_cons_zero, List.set_cons_succ, i64_w, i32_w]
    rfl
  refine one_ (i := 5) (N := some 24) #[true, true, true, true, true, true, true, true, false, true, false, true, true, false, true, true, false, false, false, false] rfl rfl (one_of HT_.out (by kernel_rfl)) (by decide) (fun K hK => ?_)
  refine goes_ Tryd.func47 (by kernel_rfl) rfl #[.agg #[.int .i64 x.f1.f0, .int .i64 x.f1.f1, .int .i64 x.f1.f2, .int .i64 x.f1.f3]] (by rfl) rfl rfl (by (try simp only [List.map_toArray, List.map_cons, List.map_nil]); first | done | rfl) ?_
  refine (label_Text.calls x.f1.f0 x.f1.f1 x.f1.f2 x.f1.f3 _ _ (Laid.below HG.out HBd.out) HLT.out).mono ?_
  rintro e wq ⟨rfl, hb_⟩
  refine ⟨_, rfl, ?_⟩
  have n1_ := Aside0.mk (below_step HBd.out hb_)
  have n2_ := Aside0.mk (blk_below BEd.out hb_)
  clear HBd BEd hb_
  have HBd := n1_
  have BEd := n2_
  clear n1_ n2_
  rename World => wd
  refine hK.out _ _ ⟨(blk_cell BEd.out 0).trans rfl, (blk_cell BEd.out 1).trans rfl, (blk_cell BEd.out 2).trans rfl, (blk_cell BEd.out 3).trans rfl, (blk_cell BEd.out 4).trans rfl, (blk_cell BEd.out 5).trans rfl, (blk_cell BEd.out 6).trans rfl, (blk_cell BEd.out 7).trans rfl, (blk_cell BEd.out 8).trans rfl⟩ (fun hHeld => ?_)
  clear hK K
  refine norm_ (a' := ?_) ?_ ?_
  rotate_left
  · show Act.put _ (some 24) _ = _
    simp only [Act.put, List.setIfInBounds_toArray, List.set_cons_zero, List.set_cons_succ, i64_w, i32_w]
    rfl
  refine one_ (i := 8) (N := some 27) #[true, true, true, true, true, true, true, true, true, true, false, true, true, false, true, true, false, false, false, false] rfl rfl (one_of HT_.out (by kernel_rfl)) (by decide) (fun K hK => ?_)
  refine goes_ Tryd.func48 (by kernel_rfl) rfl #[.string x.f2] (by rfl) rfl rfl (by (try simp only [List.map_toArray, List.map_cons, List.map_nil]); first | done | rfl) ?_
  refine (audit_word.calls x.f2 _ _ (word_f _)).mono ?_
  rintro e wq ⟨rfl, hd_⟩
  have hb_ := below_of_drawn0_ hd_
  clear hd_
  refine ⟨_, rfl, ?_⟩
  have n1_ := Aside0.mk (below_step HBd.out hb_)
  have n2_ := Aside0.mk (blk_below BEd.out hb_)
  clear HBd BEd hb_
  have HBd := n1_
  have BEd := n2_
  clear n1_ n2_
  rename World => wd
  refine hK.out _ _ ⟨(blk_cell BEd.out 0).trans rfl, (blk_cell BEd.out 1).trans rfl, (blk_cell BEd.out 2).trans rfl, (blk_cell BEd.out 3).trans rfl, (blk_cell BEd.out 4).trans rfl, (blk_cell BEd.out 5).trans rfl, (blk_cell BEd.out 6).trans rfl, (blk_cell BEd.out 7).trans rfl, (blk_cell BEd.out 8).trans rfl⟩ (fun hHeld => ?_)
  clear hK K
  refine norm_ (a' := ?_) ?_ ?_
  rotate_left
  · show Act.put _ (some 27) _ = _
    simp only [Act.put, List.setIfInBounds_toArray, List.set_cons_zero, List.set_cons_succ, i64_w, i32_w]
    rfl
  refine one_ (i := 10) (N := some 29) #[true, true, true, true, true, true, true, true, true, true, true, true, true, false, true, true, false, false, false, false] rfl rfl (one_of HT_.out (by kernel_rfl)) (by decide) (fun K hK => ?_)
  refine goes_ Tryd.func48 (by kernel_rfl) rfl #[.string ⟨#[]⟩] (by rfl) rfl rfl (by (try simp only [List.map_toArray, List.map_cons, List.map_nil]); first | done | rfl) ?_
  refine (audit_word.calls ⟨#[]⟩ _ _ (word_f _)).mono ?_
  rintro e wq ⟨rfl, hd_⟩
  have hb_ := below_of_drawn0_ hd_
  clear hd_
  refine ⟨_, rfl, ?_⟩
  have n1_ := Aside0.mk (below_step HBd.out hb_)
  have n2_ := Aside0.mk (blk_below BEd.out hb_)
  clear HBd BEd hb_
  have HBd := n1_
  have BEd := n2_
  clear n1_ n2_
  rename World => wd
  refine hK.out _ _ ⟨(blk_cell BEd.out 0).trans rfl, (blk_cell BEd.out 1).trans rfl, (blk_cell BEd.out 2).trans rfl, (blk_cell BEd.out 3).trans rfl, (blk_cell BEd.out 4).trans rfl, (blk_cell BEd.out 5).trans rfl, (blk_cell BEd.out 6).trans rfl, (blk_cell BEd.out 7).trans rfl, (blk_cell BEd.out 8).trans rfl⟩ (fun hHeld => ?_)
  clear hK K
  refine norm_ (a' := ?_) ?_ ?_
  rotate_left
  · show Act.put _ (some 29) _ = _
    simp only [Act.put, List.setIfInBounds_toArray, List.set_cons_zero, List.set_cons_succ, i64_w, i32_w]
    rfl
  refine one_ (i := 13) (N := some 32) #[true, true, true, true, true, true, true, true, true, true, true, true, true, true, true, true, false, false, false, false] rfl rfl (one_of HT_.out (by kernel_rfl)) (by decide) (fun K hK => ?_)
  refine goes_ Tryd.func48 (by kernel_rfl) rfl #[.string x.f4] (by rfl) rfl rfl (by (try simp only [List.map_toArray, List.map_cons, List.map_nil]); first | done | rfl) ?_
  refine (audit_word.calls x.f4 _ _ (word_f _)).mono ?_
  rintro e wq ⟨rfl, hd_⟩
  have hb_ := below_of_drawn0_ hd_
  clear hd_
  refine ⟨_, rfl, ?_⟩
  have n1_ := Aside0.mk (below_step HBd.out hb_)
  have n2_ := Aside0.mk (blk_below BEd.out hb_)
  clear HBd BEd hb_
  have HBd := n1_
  have BEd := n2_
  clear n1_ n2_
  rename World => wd
  refine hK.out _ _ ⟨(blk_cell BEd.out 0).trans rfl, (blk_cell BEd.out 1).trans rfl, (blk_cell BEd.out 2).trans rfl, (blk_cell BEd.out 3).trans rfl, (blk_cell BEd.out 4).trans rfl, (blk_cell BEd.out 5).trans rfl, (blk_cell BEd.out 6).trans rfl, (blk_cell BEd.out 7).trans rfl, (blk_cell BEd.out 8).trans rfl⟩ (fun hHeld => ?_)
  clear hK K
  refine norm_ (a' := ?_) ?_ ?_
  rotate_left
  · show Act.put _ (some 32) _ = _
    simp only [Act.put, List.setIfInBounds_toArray, List.set_cons_zero, List.set_cons_succ, i64_w, i32_w]
    rfl
  refine one_ (i := 16) (N := some 35) #[true, true, true, true, true, true, true, true, true, true, true, true, true, true, true, true, true, false, false, false] rfl rfl (one_of HT_.out (by kernel_rfl)) (by decide) (fun K hK => ?_)
  refine goes_ Tryd.func49 (by kernel_rfl) rfl #[.int .i64 x.f5] (by rfl) rfl rfl (by (try simp only [List.map_toArray, List.map_cons, List.map_nil]); first | done | rfl) ?_
  refine (api_Errno_Error.calls x.f5 ew _ HEW.out).mono ?_
  rintro e wq ⟨rfl, hd_⟩
  have hb_ := below_of_drawn0_ hd_
  clear hd_
  refine ⟨_, rfl, ?_⟩
  have n1_ := Aside0.mk (below_step HBd.out hb_)
  have n2_ := Aside0.mk (blk_below BEd.out hb_)
  clear HBd BEd hb_
  have HBd := n1_
  have BEd := n2_
  clear n1_ n2_
  rename World => wd
  refine hK.out _ _ ⟨(blk_cell BEd.out 0).trans rfl, (blk_cell BEd.out 1).trans rfl, (blk_cell BEd.out 2).trans rfl, (blk_cell BEd.out 3).trans rfl, (blk_cell BEd.out 4).trans rfl, (blk_cell BEd.out 5).trans rfl, (blk_cell BEd.out 6).trans rfl, (blk_cell BEd.out 7).trans rfl, (blk_cell BEd.out 8).trans rfl⟩ (fun hHeld => ?_)
  clear hK K
  refine norm_ (a' := ?_) ?_ ?_
  rotate_left
  · show Act.put _ (some 35) _ = _
    simp only [Act.put, List.setIfInBounds_toArray, List.set_cons_zero, List.set_cons_succ, i64_w, i32_w]
    rfl
  refine one_ (i := 17) (N := some 36) #[true, true, true, true, true, true, true, true, true, true, true, true, true, true, true, true, true, true, false, false] rfl rfl (one_of HT_.out (by kernel_rfl)) (by decide) (fun K hK => ?_)
  refine value_ (v := .slice (some ⟨wd.heap.size, 0, none⟩) 6 6) (w1 := wd.alloc (.cells #[.string (numeralB x.f0), .string (textV x.f1.f0 x.f1.f1 x.f1.f2 x.f1.f3), .string (wordB x.f2), .string (wordB ⟨#[]⟩), .string (wordB x.f4), .string (ew)] 9)) (by rfl) rfl (by go_simp; rfl) ?_
  have BR := Aside0.mk (blk_new wd (.cells #[.string (numeralB x.f0), .string (textV x.f1.f0 x.f1.f1 x.f1.f2 x.f1.f3), .string (wordB x.f2), .string (wordB ⟨#[]⟩), .string (wordB x.f4), .string (ew)] 9))
  have n1_ := Aside0.mk (below_alloc HBd.out (.cells #[.string (numeralB x.f0), .string (textV x.f1.f0 x.f1.f1 x.f1.f2 x.f1.f3), .string (wordB x.f2), .string (wordB ⟨#[]⟩), .string (wordB x.f4), .string (ew)] 9))
  have n2_ := Aside0.mk (blk_alloc BEd.out (.cells #[.string (numeralB x.f0), .string (textV x.f1.f0 x.f1.f1 x.f1.f2 x.f1.f3), .string (wordB x.f2), .string (wordB ⟨#[]⟩), .string (wordB x.f4), .string (ew)] 9))
  clear HBd BEd
  have HBd := n1_
  have BEd := n2_
  clear n1_ n2_
  generalize wd.heap.size = gs at BR ⊢
  generalize wd.alloc _ = we at HBd BEd BR ⊢
  refine hK.out _ _ ⟨(blk_cell BEd.out 0).trans rfl, (blk_cell BEd.out 1).trans rfl, (blk_cell BEd.out 2).trans rfl, (blk_cell BEd.out 3).trans rfl, (blk_cell BEd.out 4).trans rfl, (blk_cell BEd.out 5).trans rfl, (blk_cell BEd.out 6).trans rfl, (blk_cell BEd.out 7).trans rfl, (blk_cell BEd.out 8).trans rfl⟩ (fun hHeld => ?_)
  clear hK K
  refine norm_ (a' := ?_) ?_ ?_
  rotate_left
  · show Act.put _ (some 36) _ = _
    simp only [Act.put, List.setIfInBounds_toArray, List.set_cons_zero, List.set_cons_succ, i64_w, i32_w]
    rfl
  refine one_ (i := 18) (N := some 37) #[true, true, true, true, true, true, true, true, true, true, true, true, true, true, true, true, true, true, true, false] rfl rfl (one_of HT_.out (by kernel_rfl)) (by decide) (fun K hK => ?_)
  refine goes_ Tryd.func45 (by kernel_rfl) rfl #[.slice (some ⟨gs, 0, none⟩) 6 6, .string ⟨#[32]⟩] (by rfl) rfl rfl (by (try simp only [List.map_toArray, List.map_cons, List.map_nil]); first | done | rfl) ?_
  have hcl : ∀ (j : Nat) x_, [numeralB x.f0, textV x.f1.f0 x.f1.f1 x.f1.f2 x.f1.f3, wordB x.f2, wordB ⟨#[]⟩, wordB x.f4, ew][j]? = some x_ → we.cell? ⟨gs, 0 + j, none⟩ = some (.string x_) := by
    intro j x_ hx
    match j, hx with
    | 0, hx => obtain rfl := Option.some.inj hx; exact (blk_cell BR.out 0).trans rfl
    | 1, hx => obtain rfl := Option.some.inj hx; exact (blk_cell BR.out 1).trans rfl
    | 2, hx => obtain rfl := Option.some.inj hx; exact (blk_cell BR.out 2).trans rfl
    | 3, hx => obtain rfl := Option.some.inj hx; exact (blk_cell BR.out 3).trans rfl
    | 4, hx => obtain rfl := Option.some.inj hx; exact (blk_cell BR.out 4).trans rfl
    | 5, hx => obtain rfl := Option.some.inj hx; exact (blk_cell BR.out 5).trans rfl
    | j + 6, hx => exact absurd hx (by simp)
  refine (Tryd.strings_Join gs 0 6 [numeralB x.f0, textV x.f1.f0 x.f1.f1 x.f1.f2 x.f1.f3, wordB x.f2, wordB ⟨#[]⟩, wordB x.f4, ew] ⟨#[32]⟩ we hcl (blk_lt BR.out) (by show 6 ≤ _; omega) (by show 6 ≤ 6; omega) HSH.out).mono ?_
  rintro e wq ⟨rfl, hb_⟩
  refine ⟨_, rfl, ?_⟩
  have n1_ := Aside0.mk (below_step HBd.out hb_)
  have n2_ := Aside0.mk (blk_below BEd.out hb_)
  clear HBd BEd hb_ hcl
  have HBd := n1_
  have BEd := n2_
  clear n1_ n2_
  refine hK.out _ _ ⟨(blk_cell BEd.out 0).trans rfl, (blk_cell BEd.out 1).trans rfl, (blk_cell BEd.out 2).trans rfl, (blk_cell BEd.out 3).trans rfl, (blk_cell BEd.out 4).trans rfl, (blk_cell BEd.out 5).trans rfl, (blk_cell BEd.out 6).trans rfl, (blk_cell BEd.out 7).trans rfl, (blk_cell BEd.out 8).trans rfl⟩ (fun hHeld => ?_)
  clear hK K
  refine norm_ (a' := ?_) ?_ ?_
  rotate_left
  · show Act.put _ (some 37) _ = _
    simp only [Act.put, List.setIfInBounds_toArray, List.set_cons_zero, List.set_cons_succ, i64_w, i32_w]
    rfl
  refine pure_ (i := 19) (N := some 2) (v := ?_) (a' := ?_) #[true, true, true, true, true, true, true, true, true, true, true, true, true, true, true, true, true, true, true, true] rfl rfl (any_of HT_.out (by kernel_rfl)) (fun _ _ _ h => h) (Or.inl ⟨by rfl, ?_⟩) ?_ ?_
  rotate_left
  · intro w'
    go_simp
    with_reducible rfl
  rotate_left
  · simp only [Act.put, List.setIfInBounds_toArray, List.set_cons_zero, List.set_cons_succ, i64_w, i32_w]
    rfl
  refine done_ (done_of HT_.out (by kernel_rfl)) ?_
  try go_wp2
  go_ret
  exact ⟨rfl, HBd.out⟩
theorem audit_Text.calls (x : SE) (ew : ByteArray) (w : World) (hG : Laid w) (hf0 : fits64 x.f0) (hl : okL x.f1) (h2 : x.f2.size ≤ 1000000) (h4 : x.f4.size ≤ 1000000) (hes : ew.size ≤ 1000000) (hew : api_Errno_Error.f x.f5 = some ew) :
    Calls Tryd.prog 28 #[ev x] w fun r w' => r = .returned (.string (textE x ew)) ∧ Below w.heap.size w w' := by
  by_cases h1 : 1 ≤ x.f3
  · by_cases h2_ : x.f3 ≤ 14
    · exact audit_Text.yes x ew w hG hf0 hl h2 h4 hes hew ⟨h1, h2_⟩
    · exact audit_Text.high x ew w hG hf0 hl h2 h4 hes hew h1 h2_
  · exact audit_Text.low x ew w hG hf0 hl h2 h4 hes hew h1
end Go.Proofs.YtihknjmibnonjaaDoor.X
