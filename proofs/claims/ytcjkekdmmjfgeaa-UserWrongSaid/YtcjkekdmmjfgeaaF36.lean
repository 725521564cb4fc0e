/- Written by a program of this session over the kit's print: YtcjkekdmmjfgeaaF36. -/
import Derived.Test.YtcjkekdmmjfgeaaH
import Derived.Test.YtcjkekdmmjfgeaaF51
import Derived.WalkLawsBesides
namespace Go.Proofs.Ytcjkekdmmjfgeaa.X
open Go.RowKit Go.Proofs.YtcjkekdmmjfgeaaW.PrintWords Go.Proofs.YtcjkekdmmjfgeaaW.PrintLast Go.Proofs.YtcjkekdmmjfgeaaW.PrintMore Go.Proofs.Ytcjkekdmmjfgeaa.More
attribute [local go_sem] max2_int min2_int max_two min_two max_three min_three max_four min_four binOp_string_leq binOp_string_gtr   -- for this text's walks alone
set_option linter.unusedVariables false
set_option linter.unusedSimpArgs false

/-! ### user_Find: function 36 -/
/-- Is one text ahead of another one? -/
def txtLtU (a b : ByteArray) : Bool := Op.bytesLess a.toList b.toList
/-- Do the users stand so that those ahead of a name are the first ones? -/
def partedU (l : List S58) (name : ByteArray) : Prop := ∀ i : Nat, i < l.length → ∀ j : Nat, j < l.length → i ≤ j → txtLtU (rd_T58 l (i : Int)).f0 name = false → txtLtU (rd_T58 l (j : Int)).f0 name = false
instance (l : List S58) (name : ByteArray) : Decidable (partedU l name) := by unfold partedU; infer_instance
/-- Where a user stands, or would. -/
def placeU (l : List S58) (name : ByteArray) : Nat := (List.range l.length).countP (fun (i : Nat) => txtLtU (rd_T58 l (i : Int)).f0 name)
def userParts (u : S58) (is : Bool) : ByteArray × Int × Int × Int × Int × Int × Int × Bool × Bool := (u.f0, u.f1, u.f2, u.f3.f0, u.f3.f1, u.f3.f2, u.f3.f3, u.f4, is)
def user_Find.f (l0 : List S58) (a1 : ByteArray) : Option (ByteArray × Int × Int × Int × Int × Int × Int × Bool × Bool) :=
  if l0.length ≤ 1000000 then
    if partedU l0 a1 then
      some (if placeU l0 a1 < l0.length ∧ (rd_T58 l0 (placeU l0 a1 : Int)).f0.toList = a1.toList then userParts (rd_T58 l0 (placeU l0 a1 : Int)) true else userParts z58 false)
    else none
  else none
set_option maxHeartbeats 4000000 in
set_option maxRecDepth 100000 in
theorem user_Find.inner (b0 b1 : Nat) (A : Option Addr) (c : Nat) (l : List S58) (user : ByteArray) (i : Nat) (W : World) (h0 : W.cell? ⟨b0, 0, none⟩ = some (.slice A l.length c)) (h1 : W.cell? ⟨b1, 0, none⟩ = some (.string user))
    (hC : Kd.C k58 W A l.length l) (hi : i < l.length) :
    Calls Try.prog 52 #[.int .i64 i, .pointer (some ⟨b0, 0, none⟩), .pointer (some ⟨b1, 0, none⟩)] W fun e w' => e = .returned (.bool (!(txtLtU (rd_T58 l (i : Int)).f0 user))) ∧ ∃ n, w' = W.drewN n := by
  obtain ⟨ad, rfl, hx0, hx1, hx2, hx3, hx4, hx5, hx6, hx7⟩ := at_T58 hC (i : Int) (by omega) (by omega)
  simp only [Int.toNat_natCast] at hx0
  clear hx1 hx2 hx3 hx4 hx5 hx6 hx7
  have hlt : (i : Int) < (l.length : Int) := by omega
  have h00 : (0 : Int) ≤ (i : Int) := by omega
  unfold txtLtU
  go_enter Try.func52, Try.ntmps52
  go_wp2
  go_quiet (fail)
  go_wp2
  go_ret
  exact ⟨rfl, _, rfl⟩
set_option maxHeartbeats 8000000 in
set_option maxRecDepth 100000 in
theorem user_Find.calls (A0 : Option Addr) (c0 : Nat) (l0 : List S58) (a1 : ByteArray) (r1 : ByteArray) (r2 : Int) (r3 : Int) (r4 : Int) (r5 : Int) (r6 : Int) (r7 : Int) (r8 : Bool) (r9 : Bool) (w : World) (hr0 : Kd.C k58 w A0 l0.length l0) (hc0 : l0.length ≤ c0) (h : user_Find.f l0 a1 = some (r1, r2, r3, r4, r5, r6, r7, r8, r9)) :
    Calls Try.prog 36 #[.slice A0 l0.length c0, .string a1] w fun e w' => e = .returned (.tuple #[.agg #[.string r1, .int .i64 r2, .int .u64 r3, .int .i64 r4, .int .i64 r5, .int .i64 r6, .int .i64 r7, .bool r8], .bool r9]) ∧ Below w.heap.size w w' := by
  unfold user_Find.f at h
  by_cases hn : l0.length ≤ 1000000
  · rw [if_pos hn] at h
    by_cases hs : partedU l0 a1
    · rw [if_pos hs] at h
      have hmono := hs
      unfold partedU at hmono
      clear hs
      have h' := Option.some.inj h
      clear h
      obtain ⟨W0, hW0⟩ : ∃ W0, W0 = ((w.alloc (.cells #[.slice A0 l0.length c0] 55)).alloc (.cells #[.string a1] 9)).alloc (.cells #[.string (⟨#[]⟩ : ByteArray), .int .i64 0, .int .u64 0, .int .i64 0, .int .i64 0, .int .i64 0, .int .i64 0, .bool false] 58) := ⟨_, rfl⟩
      have hsize : W0.heap.size = w.heap.size + 3 := by rw [hW0]; simp
      have hB0 : Below w.heap.size w W0 := by rw [hW0]; exact below_alloc (below_alloc (below_alloc (Below.refl _ w) _) _) _
      have h3 : (w.alloc (.cells #[.slice A0 l0.length c0] 55)).heap.size = w.heap.size + 1 := by simp
      have h4 : ((w.alloc (.cells #[.slice A0 l0.length c0] 55)).alloc (.cells #[.string a1] 9)).heap.size = w.heap.size + 2 := by simp
      have ca : W0.cell? ⟨w.heap.size, 0, none⟩ = some (.slice A0 l0.length c0) := by rw [hW0]; exact cell_alloc_sl _ (cell_alloc_sl _ (cell_new_sl w _ _))
      have cx : W0.cell? ⟨w.heap.size + 1, 0, none⟩ = some (.string a1) := by
        rw [hW0]
        have h2 := cell_new_sl (w.alloc (.cells #[.slice A0 l0.length c0] 55)) (.string a1) 9
        rw [h3] at h2
        exact cell_alloc_sl _ h2
      have cb : W0.heap[w.heap.size + 2]? = some (.cells #[.string (⟨#[]⟩ : ByteArray), .int .i64 0, .int .u64 0, .int .i64 0, .int .i64 0, .int .i64 0, .int .i64 0, .bool false] 58 (0, 0)) := by
        have h5 := heap_alloc_new ((w.alloc (.cells #[.slice A0 l0.length c0] 55)).alloc (.cells #[.string a1] 9)) (.cells #[.string (⟨#[]⟩ : ByteArray), .int .i64 0, .int .u64 0, .int .i64 0, .int .i64 0, .int .i64 0, .int .i64 0, .bool false] 58)
        rw [h4] at h5
        rw [hW0]
        exact h5
      have hC0 : Kd.C k58 W0 A0 l0.length l0 := Kd.C_below hr0 hB0
      have hS := sort_Search_calls 52 #[.pointer (some ⟨w.heap.size, 0, none⟩), .pointer (some ⟨w.heap.size + 1, 0, none⟩)] l0.length (fun i => !(txtLtU (rd_T58 l0 (i : Int)).f0 a1)) W0 (Go.Proofs.enters_of Try.func52 (by kernel_rfl) rfl) (by omega)
        (fun m os i hi => by
          have hg := below_grown_sl W0.heap.size W0 m os (Nat.le_refl _)
          exact (user_Find.inner w.heap.size (w.heap.size + 1) A0 c0 l0 a1 i _ ((hg.cell (p := ⟨w.heap.size, 0, none⟩) (by show w.heap.size < _; omega)).trans ca) ((hg.cell (p := ⟨w.heap.size + 1, 0, none⟩) (by show w.heap.size + 1 < _; omega)).trans cx) (Kd.C_below hC0 hg) hi).mono
            fun _ _ ⟨he, q, hq⟩ => ⟨he, q, #[], by rw [hq, Go.Sort.grow_empty]⟩)
        (fun a b hab hb hp => by
          have := hmono a (by omega) b hb hab
          simp at hp ⊢
          exact this hp)
      have hcnt : (List.range l0.length).countP (fun (i : Nat) => !(!(txtLtU (rd_T58 l0 (i : Int)).f0 a1))) = placeU l0 a1 := by
        unfold placeU
        congr 1
        funext i
        simp
      rw [hcnt] at hS
      clear hcnt hmono
      have hle : placeU l0 a1 ≤ l0.length := by
        have := List.countP_le_length (p := fun (i : Nat) => txtLtU (rd_T58 l0 (i : Int)).f0 a1) (l := List.range l0.length)
        rw [List.length_range] at this
        exact this
      generalize placeU l0 a1 = cnt at hS h' hle
      have HR := Aside0.mk h'
      have HW := Aside0.mk hW0
      have HCA := Aside0.mk ca
      have HCX := Aside0.mk cx
      have HCB := Aside0.mk cb
      have HB0 := Aside0.mk hB0
      have HC0 := Aside0.mk hC0
      have HSZ := Aside0.mk hsize
      have HS := Aside0.mk hS
      clear h' hW0 ca cx cb hB0 hC0 hsize hS h3 h4
      have hu1 := Try.underlying58
      go_enter Try.func36, Try.ntmps36
      go_wp2_with (go_at_call 51; rw [← HW.out]; refine HS.out.mono ?_; rintro e w1 ⟨rfl, hB1⟩; have HB1 := Aside0.mk hB1; clear hB1)
      have ca1 : w1.cell? ⟨w.heap.size, 0, none⟩ = some (.slice A0 l0.length c0) := (HB1.out.cell (p := ⟨w.heap.size, 0, none⟩) (by show w.heap.size < _; have := HSZ.out; omega)).trans HCA.out
      have cx1 : w1.cell? ⟨w.heap.size + 1, 0, none⟩ = some (.string a1) := (HB1.out.cell (p := ⟨w.heap.size + 1, 0, none⟩) (by show w.heap.size + 1 < _; have := HSZ.out; omega)).trans HCX.out
      have BK : Aside0 (w1.heap[w.heap.size + 2]? = some (.cells #[.string (⟨#[]⟩ : ByteArray), .int .i64 0, .int .u64 0, .int .i64 0, .int .i64 0, .int .i64 0, .int .i64 0, .bool false] 58 (0, 0))) := ⟨(HB1.out.block _ (by have := HSZ.out; omega)).trans HCB.out⟩
      have hC1 : Kd.C k58 w1 A0 l0.length l0 := Kd.C_below HC0.out HB1.out
      have HB2 : Aside0 (Below w.heap.size w w1) := ⟨below_then HB0.out (by have := HSZ.out; omega) HB1.out⟩
      have GE : Aside0 (w.heap.size ≤ w.heap.size + 2) := ⟨by omega⟩
      have hcz_0 : w1.cell? ⟨w.heap.size + 2, 0, none⟩ = some (.string (⟨#[]⟩ : ByteArray)) := (blk_cell BK.out 0).trans rfl
      have hfz_0 := blk_frozen BK.out 0
      have hcz_1 : w1.cell? ⟨w.heap.size + 2, 1, none⟩ = some (.int .i64 0) := (blk_cell BK.out 1).trans rfl
      have hfz_1 := blk_frozen BK.out 1
      have hcz_2 : w1.cell? ⟨w.heap.size + 2, 2, none⟩ = some (.int .u64 0) := (blk_cell BK.out 2).trans rfl
      have hfz_2 := blk_frozen BK.out 2
      have hcz_3 : w1.cell? ⟨w.heap.size + 2, 3, none⟩ = some (.int .i64 0) := (blk_cell BK.out 3).trans rfl
      have hfz_3 := blk_frozen BK.out 3
      have hcz_4 : w1.cell? ⟨w.heap.size + 2, 4, none⟩ = some (.int .i64 0) := (blk_cell BK.out 4).trans rfl
      have hfz_4 := blk_frozen BK.out 4
      have hcz_5 : w1.cell? ⟨w.heap.size + 2, 5, none⟩ = some (.int .i64 0) := (blk_cell BK.out 5).trans rfl
      have hfz_5 := blk_frozen BK.out 5
      have hcz_6 : w1.cell? ⟨w.heap.size + 2, 6, none⟩ = some (.int .i64 0) := (blk_cell BK.out 6).trans rfl
      have hfz_6 := blk_frozen BK.out 6
      have hcz_7 : w1.cell? ⟨w.heap.size + 2, 7, none⟩ = some (.bool false) := (blk_cell BK.out 7).trans rfl
      have hfz_7 := blk_frozen BK.out 7
      by_cases hlt : cnt < l0.length
      · obtain ⟨ad, rfl, hx0, hx1, hx2, hx3, hx4, hx5, hx6, hx7⟩ := at_T58 hC1 (cnt : Int) (by omega) (by omega)
        simp only [Int.toNat_natCast] at hx0 hx1 hx2 hx3 hx4 hx5 hx6 hx7
        have hlt' : (cnt : Int) < (l0.length : Int) := by omega
        have h00 : (0 : Int) ≤ (cnt : Int) := by omega
        have hd : (cnt == l0.length) = false := by simp; omega
        have hd2 : ((cnt : Int) == (l0.length : Int)) = false := by simp; omega
        clear hC1
        by_cases hq : (rd_T58 l0 (cnt : Int)).f0.toList = a1.toList
        · have hq0 : ((rd_T58 l0 (cnt : Int)).f0.toList == a1.toList) = true := beq_iff_eq.mpr hq
          have hq1 : ((rd_T58 l0 (cnt : Int)).f0.toList != a1.toList) = false := bne_eq_false_iff_eq.mpr hq
          have HQ := Aside0.mk hq
          clear hq
          go_quiet (fail)
          go_wp2
          refine bodyPost_ret (results_ct rfl _ _ (w.heap.size + 2) 58 #[.string ((rd_T58 l0 (cnt : Int)).f0), .int .i64 ((rd_T58 l0 (cnt : Int)).f1), .int .u64 ((rd_T58 l0 (cnt : Int)).f2), .int .i64 ((rd_T58 l0 (cnt : Int)).f3.f0), .int .i64 ((rd_T58 l0 (cnt : Int)).f3.f1), .int .i64 ((rd_T58 l0 (cnt : Int)).f3.f2), .int .i64 ((rd_T58 l0 (cnt : Int)).f3.f3), .bool ((rd_T58 l0 (cnt : Int)).f4)] (0, 0) _ rfl (by (with_reducible repeat (first | refine blk_drewN ?_ _ | refine blk_drew ?_ | refine blk_alloc ?_ _)); refine blk_put (cs := #[.string ((rd_T58 l0 (cnt : Int)).f0), .int .i64 ((rd_T58 l0 (cnt : Int)).f1), .int .u64 ((rd_T58 l0 (cnt : Int)).f2), .int .i64 ((rd_T58 l0 (cnt : Int)).f3.f0), .int .i64 ((rd_T58 l0 (cnt : Int)).f3.f1), .int .i64 ((rd_T58 l0 (cnt : Int)).f3.f2), .int .i64 ((rd_T58 l0 (cnt : Int)).f3.f3), .bool false]) ?_ 7 _ rfl; (with_reducible repeat (first | refine blk_drewN ?_ _ | refine blk_drew ?_ | refine blk_alloc ?_ _)); refine blk_put (cs := #[.string ((rd_T58 l0 (cnt : Int)).f0), .int .i64 ((rd_T58 l0 (cnt : Int)).f1), .int .u64 ((rd_T58 l0 (cnt : Int)).f2), .int .i64 ((rd_T58 l0 (cnt : Int)).f3.f0), .int .i64 ((rd_T58 l0 (cnt : Int)).f3.f1), .int .i64 ((rd_T58 l0 (cnt : Int)).f3.f2), .int .i64 0, .bool false]) ?_ 6 _ rfl; (with_reducible repeat (first | refine blk_drewN ?_ _ | refine blk_drew ?_ | refine blk_alloc ?_ _)); refine blk_put (cs := #[.string ((rd_T58 l0 (cnt : Int)).f0), .int .i64 ((rd_T58 l0 (cnt : Int)).f1), .int .u64 ((rd_T58 l0 (cnt : Int)).f2), .int .i64 ((rd_T58 l0 (cnt : Int)).f3.f0), .int .i64 ((rd_T58 l0 (cnt : Int)).f3.f1), .int .i64 0, .int .i64 0, .bool false]) ?_ 5 _ rfl; (with_reducible repeat (first | refine blk_drewN ?_ _ | refine blk_drew ?_ | refine blk_alloc ?_ _)); refine blk_put (cs := #[.string ((rd_T58 l0 (cnt : Int)).f0), .int .i64 ((rd_T58 l0 (cnt : Int)).f1), .int .u64 ((rd_T58 l0 (cnt : Int)).f2), .int .i64 ((rd_T58 l0 (cnt : Int)).f3.f0), .int .i64 0, .int .i64 0, .int .i64 0, .bool false]) ?_ 4 _ rfl; (with_reducible repeat (first | refine blk_drewN ?_ _ | refine blk_drew ?_ | refine blk_alloc ?_ _)); refine blk_put (cs := #[.string ((rd_T58 l0 (cnt : Int)).f0), .int .i64 ((rd_T58 l0 (cnt : Int)).f1), .int .u64 ((rd_T58 l0 (cnt : Int)).f2), .int .i64 0, .int .i64 0, .int .i64 0, .int .i64 0, .bool false]) ?_ 3 _ rfl; (with_reducible repeat (first | refine blk_drewN ?_ _ | refine blk_drew ?_ | refine blk_alloc ?_ _)); refine blk_put (cs := #[.string ((rd_T58 l0 (cnt : Int)).f0), .int .i64 ((rd_T58 l0 (cnt : Int)).f1), .int .u64 0, .int .i64 0, .int .i64 0, .int .i64 0, .int .i64 0, .bool false]) ?_ 2 _ rfl; (with_reducible repeat (first | refine blk_drewN ?_ _ | refine blk_drew ?_ | refine blk_alloc ?_ _)); refine blk_put (cs := #[.string ((rd_T58 l0 (cnt : Int)).f0), .int .i64 0, .int .u64 0, .int .i64 0, .int .i64 0, .int .i64 0, .int .i64 0, .bool false]) ?_ 1 _ rfl; (with_reducible repeat (first | refine blk_drewN ?_ _ | refine blk_drew ?_ | refine blk_alloc ?_ _)); refine blk_put (cs := #[.string (⟨#[]⟩ : ByteArray), .int .i64 0, .int .u64 0, .int .i64 0, .int .i64 0, .int .i64 0, .int .i64 0, .bool false]) ?_ 0 _ rfl; (with_reducible repeat (first | refine blk_drewN ?_ _ | refine blk_drew ?_ | refine blk_alloc ?_ _)); exact BK.out) Try.underlying58 rfl (by kernel_rfl)) rfl ?_
          have e2 := HR.out
          rw [if_pos ⟨hlt, HQ.out⟩] at e2
          unfold userParts at e2
          simp only [Prod.mk.injEq] at e2
          obtain ⟨rfl, rfl, rfl, rfl, rfl, rfl, rfl, rfl, rfl⟩ := e2
          exact ⟨rfl, by repeat (first | (with_reducible first | exact HB2.out | apply below_alloc | apply pw_below_drewN | apply below_drew1 | refine below_set ?_ GE.out) | exact HB2.out)⟩
        · have hq0 : ((rd_T58 l0 (cnt : Int)).f0.toList == a1.toList) = false := beq_eq_false_iff_ne.mpr hq
          have hq1 : ((rd_T58 l0 (cnt : Int)).f0.toList != a1.toList) = true := bne_iff_ne.mpr hq
          have HQ := Aside0.mk hq
          clear hq
          go_quiet (fail)
          go_wp2
          refine bodyPost_ret (results_ct rfl _ _ (w.heap.size + 2) 58 #[.string (⟨#[]⟩ : ByteArray), .int .i64 0, .int .u64 0, .int .i64 0, .int .i64 0, .int .i64 0, .int .i64 0, .bool false] (0, 0) _ rfl (by (with_reducible repeat (first | refine blk_drewN ?_ _ | refine blk_drew ?_ | refine blk_alloc ?_ _)); refine blk_put (cs := #[.string (⟨#[]⟩ : ByteArray), .int .i64 0, .int .u64 0, .int .i64 0, .int .i64 0, .int .i64 0, .int .i64 0, .bool false]) ?_ 7 _ rfl; (with_reducible repeat (first | refine blk_drewN ?_ _ | refine blk_drew ?_ | refine blk_alloc ?_ _)); refine blk_put (cs := #[.string (⟨#[]⟩ : ByteArray), .int .i64 0, .int .u64 0, .int .i64 0, .int .i64 0, .int .i64 0, .int .i64 0, .bool false]) ?_ 6 _ rfl; (with_reducible repeat (first | refine blk_drewN ?_ _ | refine blk_drew ?_ | refine blk_alloc ?_ _)); refine blk_put (cs := #[.string (⟨#[]⟩ : ByteArray), .int .i64 0, .int .u64 0, .int .i64 0, .int .i64 0, .int .i64 0, .int .i64 0, .bool false]) ?_ 5 _ rfl; (with_reducible repeat (first | refine blk_drewN ?_ _ | refine blk_drew ?_ | refine blk_alloc ?_ _)); refine blk_put (cs := #[.string (⟨#[]⟩ : ByteArray), .int .i64 0, .int .u64 0, .int .i64 0, .int .i64 0, .int .i64 0, .int .i64 0, .bool false]) ?_ 4 _ rfl; (with_reducible repeat (first | refine blk_drewN ?_ _ | refine blk_drew ?_ | refine blk_alloc ?_ _)); refine blk_put (cs := #[.string (⟨#[]⟩ : ByteArray), .int .i64 0, .int .u64 0, .int .i64 0, .int .i64 0, .int .i64 0, .int .i64 0, .bool false]) ?_ 3 _ rfl; (with_reducible repeat (first | refine blk_drewN ?_ _ | refine blk_drew ?_ | refine blk_alloc ?_ _)); refine blk_put (cs := #[.string (⟨#[]⟩ : ByteArray), .int .i64 0, .int .u64 0, .int .i64 0, .int .i64 0, .int .i64 0, .int .i64 0, .bool false]) ?_ 2 _ rfl; (with_reducible repeat (first | refine blk_drewN ?_ _ | refine blk_drew ?_ | refine blk_alloc ?_ _)); refine blk_put (cs := #[.string (⟨#[]⟩ : ByteArray), .int .i64 0, .int .u64 0, .int .i64 0, .int .i64 0, .int .i64 0, .int .i64 0, .bool false]) ?_ 1 _ rfl; (with_reducible repeat (first | refine blk_drewN ?_ _ | refine blk_drew ?_ | refine blk_alloc ?_ _)); refine blk_put (cs := #[.string (⟨#[]⟩ : ByteArray), .int .i64 0, .int .u64 0, .int .i64 0, .int .i64 0, .int .i64 0, .int .i64 0, .bool false]) ?_ 0 _ rfl; (with_reducible repeat (first | refine blk_drewN ?_ _ | refine blk_drew ?_ | refine blk_alloc ?_ _)); exact BK.out) Try.underlying58 rfl (by kernel_rfl)) rfl ?_
          have e2 := HR.out
          rw [if_neg (fun h => HQ.out h.2)] at e2
          unfold userParts at e2
          simp only [Prod.mk.injEq] at e2
          obtain ⟨rfl, rfl, rfl, rfl, rfl, rfl, rfl, rfl, rfl⟩ := e2
          exact ⟨rfl, by repeat (first | (with_reducible first | exact HB2.out | apply below_alloc | apply pw_below_drewN | apply below_drew1 | refine below_set ?_ GE.out) | exact HB2.out)⟩
      · obtain rfl : cnt = l0.length := by omega
        have hd : (l0.length == l0.length) = true := by simp
        have hd2 : ((l0.length : Int) == (l0.length : Int)) = true := by simp
        clear hC1 hle
        go_quiet (fail)
        go_wp2
        refine bodyPost_ret (results_ct rfl _ _ (w.heap.size + 2) 58 #[.string (⟨#[]⟩ : ByteArray), .int .i64 0, .int .u64 0, .int .i64 0, .int .i64 0, .int .i64 0, .int .i64 0, .bool false] (0, 0) _ rfl (by (with_reducible repeat (first | refine blk_drewN ?_ _ | refine blk_drew ?_ | refine blk_alloc ?_ _)); refine blk_put (cs := #[.string (⟨#[]⟩ : ByteArray), .int .i64 0, .int .u64 0, .int .i64 0, .int .i64 0, .int .i64 0, .int .i64 0, .bool false]) ?_ 7 _ rfl; (with_reducible repeat (first | refine blk_drewN ?_ _ | refine blk_drew ?_ | refine blk_alloc ?_ _)); refine blk_put (cs := #[.string (⟨#[]⟩ : ByteArray), .int .i64 0, .int .u64 0, .int .i64 0, .int .i64 0, .int .i64 0, .int .i64 0, .bool false]) ?_ 6 _ rfl; (with_reducible repeat (first | refine blk_drewN ?_ _ | refine blk_drew ?_ | refine blk_alloc ?_ _)); refine blk_put (cs := #[.string (⟨#[]⟩ : ByteArray), .int .i64 0, .int .u64 0, .int .i64 0, .int .i64 0, .int .i64 0, .int .i64 0, .bool false]) ?_ 5 _ rfl; (with_reducible repeat (first | refine blk_drewN ?_ _ | refine blk_drew ?_ | refine blk_alloc ?_ _)); refine blk_put (cs := #[.string (⟨#[]⟩ : ByteArray), .int .i64 0, .int .u64 0, .int .i64 0, .int .i64 0, .int .i64 0, .int .i64 0, .bool false]) ?_ 4 _ rfl; (with_reducible repeat (first | refine blk_drewN ?_ _ | refine blk_drew ?_ | refine blk_alloc ?_ _)); refine blk_put (cs := #[.string (⟨#[]⟩ : ByteArray), .int .i64 0, .int .u64 0, .int .i64 0, .int .i64 0, .int .i64 0, .int .i64 0, .bool false]) ?_ 3 _ rfl; (with_reducible repeat (first | refine blk_drewN ?_ _ | refine blk_drew ?_ | refine blk_alloc ?_ _)); refine blk_put (cs := #[.string (⟨#[]⟩ : ByteArray), .int .i64 0, .int .u64 0, .int .i64 0, .int .i64 0, .int .i64 0, .int .i64 0, .bool false]) ?_ 2 _ rfl; (with_reducible repeat (first | refine blk_drewN ?_ _ | refine blk_drew ?_ | refine blk_alloc ?_ _)); refine blk_put (cs := #[.string (⟨#[]⟩ : ByteArray), .int .i64 0, .int .u64 0, .int .i64 0, .int .i64 0, .int .i64 0, .int .i64 0, .bool false]) ?_ 1 _ rfl; (with_reducible repeat (first | refine blk_drewN ?_ _ | refine blk_drew ?_ | refine blk_alloc ?_ _)); refine blk_put (cs := #[.string (⟨#[]⟩ : ByteArray), .int .i64 0, .int .u64 0, .int .i64 0, .int .i64 0, .int .i64 0, .int .i64 0, .bool false]) ?_ 0 _ rfl; (with_reducible repeat (first | refine blk_drewN ?_ _ | refine blk_drew ?_ | refine blk_alloc ?_ _)); exact BK.out) Try.underlying58 rfl (by kernel_rfl)) rfl ?_
        have e2 := HR.out
        rw [if_neg (fun h => hlt h.1)] at e2
        unfold userParts at e2
        simp only [Prod.mk.injEq] at e2
        obtain ⟨rfl, rfl, rfl, rfl, rfl, rfl, rfl, rfl, rfl⟩ := e2
        exact ⟨rfl, by repeat (first | (with_reducible first | exact HB2.out | apply below_alloc | apply pw_below_drewN | apply below_drew1 | refine below_set ?_ GE.out) | exact HB2.out)⟩
    · rw [if_neg hs] at h
      exact absurd h (by simp)
  · rw [if_neg hn] at h
    exact absurd h (by simp)

end Go.Proofs.Ytcjkekdmmjfgeaa.X
