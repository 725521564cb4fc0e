/- Written by a program of this session over the kit's print: YtnepinkookbanaaDoorF13. -/
import Derived.Test.YtnepinkookbanaaDoorH
import Derived.Test.YtnepinkookbanaaDoorF23
import Derived.Test.YtnepinkookbanaaDoorF32
import Derived.Test.YtnepinkookbanaaDoorF33
import Derived.Test.YtnepinkookbanaaDoorF34
import Derived.Test.YtnepinkookbanaaDoorF35
import Derived.Test.YtnepinkookbanaaDoorF38
import Derived.Test.YtnepinkookbanaaDoorPIsaText
import Derived.Test.YtnepinkookbanaaDoorRowb
import Derived.Test.YtnepinkookbanaaDoorF33
import Derived.Test.YtnepinkookbanaaDoorF32
import Derived.Test.YtnepinkookbanaaDoorF38
import Derived.WalkKit
import Derived.BigCall
import Derived.Deep.RegionWith
import Derived.Deep.DeepCutAuto
import Derived.Deep.DrawnRows
namespace Go.Proofs.YtnepinkookbanaaDoor.X
open Go.RowKit Go.Proofs.YtnepinkookbanaaDoorW.PrintWords Go.Proofs.YtnepinkookbanaaDoorW.PrintLast Go.Proofs.YtnepinkookbanaaDoorW.PrintMore Go.Proofs.YtnepinkookbanaaDoor.More
attribute [local go_sem] max2_int min2_int max_two min_two max_three min_three max_four min_four binOp_string_leq binOp_string_gtr   -- for this text's walks alone
set_option linter.unusedVariables false
set_option linter.unusedSimpArgs false

/-! ### donjonlaw15_IsaTurns: function 13 -/
open Go.Proofs.YtnepinkookbanaaDoor.Pure Go.Proofs.YtnepinkookbanaaDoor.Lib Go.Proofs.YtnepinkookbanaaDoor.More
def donjonlaw15_IsaTurns.f (a0_0 : Int) (a0_1 : Int) (a0_2 : Int) (a1 : Int) (a2 : Int) : Option Bool := if 0 ≤ a2 ∧ a2 < 256 then some true else none
theorem IsaTurns.count_text {o p n : Int} (h : fits o p n) : Lib.count (itextV o p n).data.toList [32] = 2 := by
  obtain ⟨h0, h1, h3, h4, h5, h6⟩ := h
  have nb := (op_blank ⟨o.toNat, by omega⟩).1
  rw [Lib.count_one, itext_list]
  simp [List.count_append, List.count_eq_zero.2 nb, List.count_eq_zero.2 (itoa_blank p), List.count_eq_zero.2 (itoa_blank n)]
theorem IsaTurns.none_of (s : ByteArray) (hs : s.size < 4294967281) (m : Nat) (hm : m ≠ 2) (h : List.count 32 s.data.toList = m) : isa_Parse.f s = some (0, 0, 0, 6) := by
  unfold isa_Parse.f iparseV
  have e : Lib.countB s ⟨#[32]⟩ = m := by
    show Lib.count s.data.toList [32] = m
    rw [Lib.count_one, h]
  rw [if_pos hs, e, if_neg hm]
theorem IsaTurns.cut_list (s : ByteArray) (a b : Nat) : (s.extract a b).data.toList = (s.data.toList.drop a).take (b - a) := by
  simp [List.extract_eq_take_drop]
theorem IsaTurns.size_list (s : ByteArray) : s.size = s.data.toList.length := by simp
theorem IsaTurns.text_size {o p n : Int} (h : fits o p n) : (itextV o p n).size ≤ 30 ∧ 3 ≤ (itextV o p n).size := by
  obtain ⟨h0, h1, h3, h4, h5, h6⟩ := h
  have hob := op_blank ⟨o.toNat, by omega⟩
  have lp := itoa_len (n := p) (by omega) (by omega)
  have ln := itoa_len (n := n) (by omega) (by omega)
  have h7 := hob.2
  rw [IsaTurns.size_list, itext_list]
  simp only [List.length_append, List.length_cons]
  simp only at h7
  omega
theorem IsaTurns.mid {t : ByteArray} {k : Nat} (hz : t.size ≤ 30) (h : List.count 32 t.data.toList = 2) : isa_Parse.f (t.extract 0 k ++ (⟨#[32, 32]⟩ : ByteArray) ++ t.extract k t.size) = some (0, 0, 0, 6) := by
  refine IsaTurns.none_of _ (by simp only [ByteArray.size_append, ByteArray.size_extract]; have : (⟨#[32, 32]⟩ : ByteArray).size = 2 := rfl; omega) 4 (by decide) ?_
  have e : (t.extract 0 k ++ (⟨#[32, 32]⟩ : ByteArray) ++ t.extract k t.size).data.toList = t.data.toList.take k ++ [32, 32] ++ t.data.toList.drop k := by
    simp only [ByteArray.data_append, Array.toList_append, IsaTurns.cut_list, List.drop_zero, Nat.sub_zero]
    rw [List.take_of_length_le (l := t.data.toList.drop k) (by rw [List.length_drop, ← IsaTurns.size_list]; omega)]
  rw [e, List.count_append, List.count_append]
  have h2 : List.count 32 (t.data.toList.take k) + List.count 32 (t.data.toList.drop k) = 2 := by
    rw [← List.count_append, List.take_append_drop, h]
  have h3 : List.count (32 : UInt8) [32, 32] = 2 := by decide
  omega
theorem IsaTurns.head {t : ByteArray} (hz : t.size ≤ 30) (h : List.count 32 t.data.toList = 2) : isa_Parse.f ((⟨#[32]⟩ : ByteArray) ++ t) = some (0, 0, 0, 6) := by
  refine IsaTurns.none_of _ (by simp only [ByteArray.size_append]; have : (⟨#[32]⟩ : ByteArray).size = 1 := rfl; omega) 3 (by decide) ?_
  simp only [ByteArray.data_append, Array.toList_append, List.count_append, h]
  rfl
theorem IsaTurns.tail {t : ByteArray} (hz : t.size ≤ 30) (h : List.count 32 t.data.toList = 2) : isa_Parse.f (t ++ (⟨#[32]⟩ : ByteArray)) = some (0, 0, 0, 6) := by
  refine IsaTurns.none_of _ (by simp only [ByteArray.size_append]; have : (⟨#[32]⟩ : ByteArray).size = 1 := rfl; omega) 3 (by decide) ?_
  simp only [ByteArray.data_append, Array.toList_append, List.count_append, h]
  rfl
theorem IsaTurns.parse_any (s : ByteArray) (hs : s.size < 4294967281) (w : World) (hG : Laid2 w) : Calls Tryd.prog 35 #[.string s] w fun e w' => ∃ y0 y1 y2 f : Int, e = .returned (.tuple #[.agg #[.int .i64 y0, .int .i64 y1, .int .i64 y2], .int .i64 f]) ∧ Aside0 (iparseV s = (y0, y1, y2, f)) ∧ Below w.heap.size w w' := by
  obtain ⟨⟨y0, y1, y2, f⟩, hy⟩ : ∃ y, iparseV s = y := ⟨_, rfl⟩
  refine (isa_Parse.calls s y0 y1 y2 f w hG (by unfold isa_Parse.f; rw [if_pos hs, hy])).mono ?_
  rintro e w' ⟨he, hb⟩
  exact ⟨y0, y1, y2, f, he, ⟨hy⟩, hb⟩
theorem IsaTurns.parse_f {s : ByteArray} {y0 y1 y2 f : Int} (h : iparseV s = (y0, y1, y2, f)) : f = 6 ∨ (f = 0 ∧ isa_Text.f y0 y1 y2 = some s) := by
  rcases iparse_ways s with h1 | ⟨a, b, c, h1, hf, h2⟩
  · rw [h1] at h
    simp only [Prod.mk.injEq] at h
    exact .inl h.2.2.2.symm
  · rw [h1] at h
    simp only [Prod.mk.injEq] at h
    obtain ⟨rfl, rfl, rfl, rfl⟩ := h
    obtain ⟨a1, a2, a3, a4, a5, a6⟩ := hf
    refine .inr ⟨rfl, ?_⟩
    unfold isa_Text.f fits64
    rw [if_pos (by omega), if_neg (by omega), h2]
def IsaTurns.cutR (w0 : World) (g gy : Nat) (xs2 : List Int) (y0 y1 y2 : Int) (s13 : Value) (wx : World) : Prop := s13 = .int .i64 6 ∧
  wx.heap[gy]? = some (.cells #[.int .i64 y0, .int .i64 y1, .int .i64 y2] 45 (0, 0)) ∧ RowB wx g xs2 ∧ Below w0.heap.size w0 wx
def donjonlaw15_IsaTurns.T11 : Bool × List (List Nat × List Nat) := (true, [([], []), ([0], [0]), ([1], [1]), ([2], [2]), ([3, 2, 2], [2, 3]), ([2], [2]), ([5, 2], [2, 5]), ([4, 6, 2], [2, 4, 6]), ([2, 7], [2, 7]), ([8, 4], [8]), ([9], [9]), ([10, 9], [9, 10]), ([9, 11], [9, 11]), ([12, 9], [12]), ([13], [13]), ([14, 13], [13, 14]), ([13, 15], [13, 15]), ([16, 13], [16]), ([17], [17]), ([18, 17], [17, 18]), ([17, 19], [17, 19]), ([20, 17, 0, 1, 2, 3, 4, 5, 6, 7, 8, 9, 10, 11, 12, 13, 14, 15, 16, 17, 18, 19, 20], [20])])
def donjonlaw15_IsaTurns.B11 : List Nat := [0, 1, 3, 7, 15, 7, 39, 127, 255, 511, 1023, 2047, 4095, 8191, 16383, 32767, 65535, 131071, 262143, 524287, 1048575, 2097151]
theorem donjonlaw15_IsaTurns.tab11 : rtab .any (opsOf Tryd.f13 11) = donjonlaw15_IsaTurns.T11 := by kernel_rfl
theorem donjonlaw15_IsaTurns.bits11 : waitsOk donjonlaw15_IsaTurns.T11.2 donjonlaw15_IsaTurns.B11 = true := by kernel_rfl
attribute [local go_sem ↓] Go.wp_at_zero Go.wp_at_succ
set_option maxRecDepth 100000 in
set_option maxHeartbeats 8000000 in
theorem donjonlaw15_IsaTurns.calls (a0_0 : Int) (a0_1 : Int) (a0_2 : Int) (a1 : Int) (a2 : Int) (r : Bool) (w : World) (hG : Laid2 w) (h : donjonlaw15_IsaTurns.f a0_0 a0_1 a0_2 a1 a2 = some r) :
    Calls Tryd.prog 13 #[.agg #[.int .i64 a0_0, .int .i64 a0_1, .int .i64 a0_2], .int .i64 a1, .int .u8 a2] w fun e w' => e = .returned (.bool r) ∧ Below w.heap.size w w' := by
  obtain ⟨ha2, rfl⟩ : (0 ≤ a2 ∧ a2 < 256) ∧ true = r := by
    unfold donjonlaw15_IsaTurns.f at h
    by_cases h1 : 0 ≤ a2 ∧ a2 < 256
    · rw [if_pos h1] at h
      exact ⟨h1, Option.some.inj h⟩
    · rw [if_neg h1] at h
      exact absurd h (by simp)
  clear h
  obtain ⟨p, q, s, hgood, hfit⟩ := good_f a0_0 a0_1 a0_2
  obtain ⟨hsz1, hsz2⟩ := IsaTurns.text_size hfit
  have htext : isa_Text.f p q s = some (itextV p q s) := by
    unfold isa_Text.f fits64
    obtain ⟨b1, b2, b3, b4, b5, b6⟩ := hfit
    rw [if_pos (by omega), if_neg (by omega)]
  have hcnt : List.count 32 (itextV p q s).data.toList = 2 := by
    have h_ := IsaTurns.count_text hfit
    rw [Lib.count_one] at h_
    exact h_
  generalize itextV p q s = t at htext hcnt hsz1 hsz2
  obtain ⟨k, hk, hkt⟩ : ∃ k : Nat, donjonlaw15_within.f a1 (t.size : Int) = some (k : Int) ∧ k < t.size := by
    unfold donjonlaw15_within.f
    obtain ⟨k, e, h0, h1, _⟩ := within_small (a := a1) (n := (t.size : Int)) (by omega) (by omega)
    exact ⟨k.toNat, by rw [e]; congr 1; omega, by omega⟩
  have HGood := Aside0.mk hgood
  have HText := Aside0.mk htext
  have HP0 := Aside0.mk (IsaTurns.mid (k := k) hsz1 hcnt)
  have HP1 := Aside0.mk (IsaTurns.head hsz1 hcnt)
  have HP2 := Aside0.mk (IsaTurns.tail hsz1 hcnt)
  have HK := Aside0.mk hk
  have HG := Aside0.mk hG
  have HZ1 := Aside0.mk hsz1
  have HZ2 := Aside0.mk hsz2
  have HKT := Aside0.mk hkt
  have HA2 := Aside0.mk ha2
  clear hgood htext hcnt hk hG hsz1 hsz2 hkt ha2 hfit
  go_enter Tryd.func13, Tryd.ntmps13
  go_wp2_with fail
  refine (donjonlaw15_known.calls 1 true _ (known15 0)).mono ?_
  rintro e w1 ⟨rfl, hb1⟩
  have HB1 : Aside0 (Below w.heap.size w w1) := ⟨below_step (by with_reducible repeat (first | exact Below.refl _ _ | apply below_alloc | apply below_drew1)) hb1⟩
  have HC1 := Aside0.mk (blk_below (blk_new w (.cells #[.int .i64 a0_0, .int .i64 a0_1, .int .i64 a0_2] 45)) hb1)
  clear hb1
  have c0 : w1.cell? ⟨w.heap.size, 0, none⟩ = some (.int .i64 a0_0) := (blk_cell HC1.out 0).trans rfl
  have c1 : w1.cell? ⟨w.heap.size, 1, none⟩ = some (.int .i64 a0_1) := (blk_cell HC1.out 1).trans rfl
  have c2 : w1.cell? ⟨w.heap.size, 2, none⟩ = some (.int .i64 a0_2) := (blk_cell HC1.out 2).trans rfl
  go_wp2_with fail
  refine (donjonlaw15_Good.calls _ _ _ p q s _ HGood.out).mono ?_
  rintro e w2 ⟨rfl, hb2⟩
  have HB2 : Aside0 (Below w.heap.size w w2) := ⟨below_step HB1.out hb2⟩
  clear hb2 c0 c1 c2
  go_wp2_with fail
  refine (isa_Text.calls p q s t _ (HG.out.base.below HB2.out) HText.out).mono ?_
  rintro e w4 ⟨rfl, hb4⟩
  have HB4 : Aside0 (Below w.heap.size w w4) := ⟨below_step HB2.out hb4⟩
  clear hb4
  go_wp2_with fail
  refine (donjonlaw15_within.calls a1 t.size k _ HK.out).mono ?_
  rintro e w5 ⟨rfl, ⟨nd, rfl⟩⟩
  go_wp2_with (first
    | ((with_reducible refine gate_dst (N := 28) rfl ?_); refine E_bytes 5 rfl 9 37 _ rfl t rfl Tryd.underlying9 Tryd.underlying37 Tryd.underlying5 ?_; intro g c w6 hR hb6 hg hc; have HB6 : Aside0 (Below w.heap.size w w6) := ⟨below_step (by (try refine pw_below_drewN ?_ _); with_reducible repeat (first | exact HB4.out | apply below_alloc | apply pw_below_drewN | apply below_drew1)) hb6⟩; have hgz : w.heap.size ≤ g := (by have h_ := hg; have h2_ := HB4.out.size; simp at h_; omega); clear hb6 hg; obtain ⟨x0, hx0⟩ : ∃ x, (bytesOf t).getD k 0 = x := ⟨_, rfl⟩; have hck := hR.2 k (by rw [bytesOf_length]; exact HKT.out); rw [hx0] at hck; have ck := hck.1; have fk := hck.2; have HR6 := Aside0.mk hR; have HCC := Aside0.mk hc; have HGZ := Aside0.mk hgz; clear hR hck hx0 hc hgz; have hk0 : (0 : Int) ≤ (k : Int) := (by omega); have hk1 : (k : Int) < (t.size : Int) := (by have := HKT.out; omega))
    | ((with_reducible refine gate_dst (N := 38) rfl ?_); refine E_str 5 rfl 37 9 _ rfl g t.size c ((bytesOf t).set k _) (by rw [List.length_set, bytesOf_length]) rfl Tryd.underlying37 Tryd.underlying5 Tryd.underlying9 (RowB.set HR6.out k _) (by rw [List.length_set, bytesOf_length]; have := HZ1.out; omega) ?_))
  obtain ⟨xs2, hxs2⟩ : ∃ z, (bytesOf t).set k ((x0 + a2) % 256) = z := ⟨_, rfl⟩
  obtain ⟨s2, hs2⟩ : ∃ z, strOfNums xs2 = z := ⟨_, rfl⟩
  rw [hxs2, hs2]
  have hl2 : xs2.length = t.size := by rw [← hxs2, List.length_set, bytesOf_length]
  have hz2 : s2.size ≤ 100 := by
    have e : s2.size = xs2.length := by
      rw [← hs2]
      show (List.toArray _).size = _
      simp
    have := HZ1.out
    omega
  have HB7' : Aside0 (Below w.heap.size w (w6.setCell ⟨g, k, none⟩ (.int .u8 ((x0 + a2) % 256)))) := ⟨below_set HB6.out HGZ.out⟩
  have HR7' : Aside0 (RowB (w6.setCell ⟨g, k, none⟩ (.int .u8 ((x0 + a2) % 256))) g xs2) := ⟨hxs2 ▸ RowB.set HR6.out k ((x0 + a2) % 256)⟩
  have HS2 := Aside0.mk hs2
  have HL2 := Aside0.mk hl2
  refine (IsaTurns.parse_any s2 (by omega) _ (HG.out.below HB7'.out)).mono ?_
  rintro e w7 ⟨y0, y1, y2, f, rfl, HY, hb7⟩
  have HB7 : Aside0 (Below w.heap.size w w7) := ⟨below_step HB7'.out hb7⟩
  have HR7 := Aside0.mk (RowB.below HR7'.out hb7)
  clear hb7 HB7' HR7' hxs2 hs2 hl2 hz2 ck fk HR6 HB6 HB4
  have hk4 : (k : Int) ≤ (t.size : Int) := by omega
  have hA1 : (9223372036854775807 < min k t.size + 2) = False := eq_false (by have := HZ1.out; omega)
  have hA2 : (9223372036854775807 < min k t.size + 2 + (t.size - k)) = False := eq_false (by have := HZ1.out; omega)
  have hA3 : (9223372036854775807 < 1 + t.size) = False := eq_false (by have := HZ1.out; omega)
  have hA4 : (9223372036854775807 < t.size + 1) = False := eq_false (by have := HZ1.out; omega)
  go_upto_region 8 with fail
  go_cut [12, 13] (fun _ s13 wx => IsaTurns.cutR w g w7.heap.size xs2 y0 y1 y2 s13 wx)
  case first =>
    go_region_with (go_at_call 35; refine (isa_Parse.calls (t.extract 0 k ++ (⟨#[32, 32]⟩ : ByteArray) ++ t.extract k t.size) 0 0 0 6 _ (HG.out.below (by with_reducible repeat (first | exact HB7.out | apply below_alloc | apply below_drew1))) HP0.out).mono ?_; rintro e w8 ⟨rfl, hb8⟩; have HB8 : Aside0 (Below w.heap.size w w8) := ⟨below_step (by with_reducible repeat (first | exact HB7.out | apply below_alloc | apply below_drew1)) hb8⟩; have HR8 : Aside0 (RowB w8 g xs2) := ⟨RowB.below (by with_reducible repeat (first | exact HR7.out | apply RowB.drew | apply RowB.alloc)) hb8⟩; have HY8 : Aside0 (w8.heap[w7.heap.size]? = some (.cells #[.int .i64 y0, .int .i64 y1, .int .i64 y2] 45 (0, 0))) := ⟨blk_below (by with_reducible repeat (first | exact blk_new _ _ | apply blk_drew | apply blk_alloc)) hb8⟩; obtain ⟨hc8, hf8⟩ := old_cells8 hb8; have hz8 := hb8.size; (try simp at hz8); (try (have z0_ : w7.heap.size < w8.heap.size := by omega)); (try (have z1_ : w7.heap.size + 1 < w8.heap.size := by omega)); clear hb8)
    all_goals (go_wp2_with fail; go_meet; clear hA1 hA2 hA3 hA4; refine ⟨rfl, ?_, ?_, ?_⟩)
    all_goals first | (with_reducible exact blk_alloc HY8.out _) | (with_reducible exact RowB.alloc HR8.out _) | (with_reducible exact below_alloc HB8.out _) | exact below_set (below_set (below_set HB8.out (by have := HB7.out.size; omega)) (by have := HB7.out.size; omega)) (by have := HB7.out.size; omega) | exact RowB.far (RowB.far (RowB.far HR8.out (by show ¬ w7.heap.size + 1 = g; have := HR7.out.1; omega) _) (by show ¬ w7.heap.size + 1 = g; have := HR7.out.1; omega) _) (by show ¬ w7.heap.size + 1 = g; have := HR7.out.1; omega) _ | exact blk_far (blk_far (blk_far HY8.out (by show ¬ w7.heap.size = w7.heap.size + 1; omega) _) (by show ¬ w7.heap.size = w7.heap.size + 1; omega) _) (by show ¬ w7.heap.size = w7.heap.size + 1; omega) _
  case rest =>
    rename_i v12_ _ wx
    obtain ⟨rfl, hy8, hR8, hB8⟩ := hcut
    have HY8 := Aside0.mk hy8
    have HR8 := Aside0.mk hR8
    have HB8 := Aside0.mk hB8
    clear hy8 hR8 hB8
    go_wp2_with fail
    refine (isa_Parse.calls ((⟨#[32]⟩ : ByteArray) ++ t) 0 0 0 6 _ (HG.out.below HB8.out) HP1.out).mono ?_
    rintro e w9 ⟨rfl, hb9⟩
    have HB9 := Aside0.mk (below_step HB8.out hb9)
    have HR9 := Aside0.mk (RowB.below HR8.out hb9)
    have HY9 := Aside0.mk (blk_below HY8.out hb9)
    clear hb9 HB8 HR8 HY8
    go_wp2_with fail
    refine (isa_Parse.calls (t ++ (⟨#[32]⟩ : ByteArray)) 0 0 0 6 _ (HG.out.below (below_alloc HB9.out _)) HP2.out).mono ?_
    rintro e w10 ⟨rfl, hb10⟩
    have HB10 := Aside0.mk (below_step (below_alloc HB9.out _) hb10)
    have HR10 := Aside0.mk (RowB.below (RowB.alloc HR9.out _) hb10)
    have HY10 := Aside0.mk (blk_below (blk_alloc HY9.out _) hb10)
    clear hb10 HB9 HR9 HY9
    have HCV : Aside0 (∀ W, RowB W g xs2 → (convert 37 9 (.slice (some ⟨g, 0, none⟩) t.size c)).run Tryd.prog W = .ok (.string s2) W) := ⟨fun W hW => by
      have h_ := string_of_reads (P := Tryd.prog) (src := 37) (dst := 9) (c := c) Tryd.underlying37 Tryd.underlying5 Tryd.underlying9 (hW.reads (by have := HL2.out; have := HZ1.out; omega))
      rw [HL2.out, HS2.out] at h_
      exact h_⟩
    have ey1 : (s2.toList == s2.toList) = true := beq_self_eq_true _
    rcases IsaTurns.parse_f HY.out with rfl | ⟨rfl, hty⟩
    · go_wp2_with fail
      have HBd := Aside0.mk (below_drew1 (below_alloc HB10.out (.cells #[.int .i64 0, .int .i64 0, .int .i64 0] 45)))
      have HRd := Aside0.mk (RowB.drew (RowB.alloc HR10.out (.cells #[.int .i64 0, .int .i64 0, .int .i64 0] 45)))
      have HYd := Aside0.mk (blk_drew (blk_alloc HY10.out (.cells #[.int .i64 0, .int .i64 0, .int .i64 0] 45)))
      clear HB10 HR10 HY10
      refine start_ (n := 22) (S := fun w' => w'.cell? ⟨w7.heap.size, 0, none⟩ = some (.int .i64 y0) ∧ w'.cell? ⟨w7.heap.size, 1, none⟩ = some (.int .i64 y1) ∧ w'.cell? ⟨w7.heap.size, 2, none⟩ = some (.int .i64 y2) ∧ RowB w' g xs2) (ds := []) #[false, false, false, false, false, false, false, false, false, false, false, false, false, false, false, false, false, false, false, false, false, false] (by kernel_rfl) rfl rfl ⟨(blk_cell HYd.out 0).trans rfl, (blk_cell HYd.out 1).trans rfl, (blk_cell HYd.out 2).trans rfl, HRd.out⟩ (fun hHeld => ?_)
      refine with_tabW donjonlaw15_IsaTurns.tab11 donjonlaw15_IsaTurns.bits11 (fun HT_ HW_ => ?_)
      generalize World.drew _ = wd at HBd HRd HYd hHeld ⊢
      refine pure_ (i := 0) (N := some 66) (v := ?_) (a' := ?_) #[true, false, false, false, false, false, false, false, false, false, false, false, false, false, false, false, false, false, false, false, false, false] rfl rfl (any_of HT_.out (by kernel_rfl)) (fun _ _ _ h => h) (Or.inl ⟨by rfl, ?_⟩) ?_ ?_
      rotate_left
      · intro w'
        go_simp
        with_reducible rfl
      rotate_left
      · simp only [Act.put, List.setIfInBounds_toArray, List.set_cons_zero, List.set_cons_succ, i64_w, i32_w]
        rfl
      refine pure_ (i := 1) (N := some 67) (v := ?_) (a' := ?_) #[true, true, false, false, false, false, false, false, false, false, false, false, false, false, false, false, false, false, false, false, false, false] rfl rfl (any_of HT_.out (by kernel_rfl)) (fun _ _ _ h => h) (Or.inl ⟨by rfl, ?_⟩) ?_ ?_
      rotate_left
      · intro w'
        go_simp
        with_reducible rfl
      rotate_left
      · simp only [Act.put, List.setIfInBounds_toArray, List.set_cons_zero, List.set_cons_succ, i64_w, i32_w]
        rfl
      refine pure_ (i := 2) (N := some 68) (v := ?_) (a' := ?_) #[true, true, true, false, false, false, false, false, false, false, false, false, false, false, false, false, false, false, false, false, false, false] rfl rfl (any_of HT_.out (by kernel_rfl)) (fun _ _ _ h => h) (Or.inl ⟨by rfl, ?_⟩) ?_ ?_
      rotate_left
      · intro w'
        go_simp
        with_reducible rfl
      rotate_left
      · simp only [Act.put, List.setIfInBounds_toArray, List.set_cons_zero, List.set_cons_succ, i64_w, i32_w]
        rfl
      refine pure_ (i := 3) (N := some 69) (v := undef) (a' := ?_) #[true, true, true, true, false, false, false, false, false, false, false, false, false, false, false, false, false, false, false, false, false, false] rfl rfl (any_of HT_.out (by kernel_rfl)) (fun _ _ _ h => h) (Or.inr ⟨by rfl, rfl⟩) ?_ ?_
      rotate_left
      · simp only [Act.put, List.setIfInBounds_toArray, List.set_cons_zero, List.set_cons_succ, i64_w, i32_w]
        rfl
      refine pure_ (i := 4) (N := some 70) (v := undef) (a' := ?_) #[true, true, true, true, true, false, false, false, false, false, false, false, false, false, false, false, false, false, false, false, false, false] rfl rfl (any_of HT_.out (by kernel_rfl)) (fun _ _ _ h => h) (Or.inr ⟨by rfl, rfl⟩) ?_ ?_
      rotate_left
      · simp only [Act.put, List.setIfInBounds_toArray, List.set_cons_zero, List.set_cons_succ, i64_w, i32_w]
        rfl
      refine pure_ (i := 5) (N := some 71) (v := undef) (a' := ?_) #[true, true, true, true, true, true, false, false, false, false, false, false, false, false, false, false, false, false, false, false, false, false] rfl rfl (any_of HT_.out (by kernel_rfl)) (fun _ _ _ h => h) (Or.inr ⟨by rfl, rfl⟩) ?_ ?_
      rotate_left
      · simp only [Act.put, List.setIfInBounds_toArray, List.set_cons_zero, List.set_cons_succ, i64_w, i32_w]
        rfl
      refine pure_ (i := 6) (N := some 72) (v := undef) (a' := ?_) #[true, true, true, true, true, true, true, false, false, false, false, false, false, false, false, false, false, false, false, false, false, false] rfl rfl (any_of HT_.out (by kernel_rfl)) (fun _ _ _ h => h) (Or.inr ⟨by rfl, rfl⟩) ?_ ?_
      rotate_left
      · simp only [Act.put, List.setIfInBounds_toArray, List.set_cons_zero, List.set_cons_succ, i64_w, i32_w]
        rfl
      refine pure_ (i := 7) (N := some 73) (v := undef) (a' := ?_) #[true, true, true, true, true, true, true, true, false, false, false, false, false, false, false, false, false, false, false, false, false, false] rfl rfl (any_of HT_.out (by kernel_rfl)) (fun _ _ _ h => h) (Or.inr ⟨by rfl, rfl⟩) ?_ ?_
      rotate_left
      · simp only [Act.put, List.setIfInBounds_toArray, List.set_cons_zero, List.set_cons_succ, i64_w, i32_w]
        rfl
      refine pure_ (i := 8) (N := some 74) (v := ?_) (a' := ?_) #[true, true, true, true, true, true, true, true, true, false, false, false, false, false, false, false, false, false, false, false, false, false] rfl rfl (any_of HT_.out (by kernel_rfl)) (fun _ _ _ h => h) (Or.inl ⟨by rfl, ?_⟩) ?_ ?_
      rotate_left
      · intro w'
        go_simp
        with_reducible rfl
      rotate_left
      · simp only [Act.put, List.setIfInBounds_toArray, List.set_cons_zero, List.set_cons_succ, i64_w, i32_w]
        rfl
      refine pure_ (i := 9) (N := some 75) (v := ?_) (a' := ?_) #[true, true, true, true, true, true, true, true, true, true, false, false, false, false, false, false, false, false, false, false, false, false] rfl rfl (any_of HT_.out (by kernel_rfl)) (fun _ _ _ h => h) (Or.inl ⟨by rfl, ?_⟩) ?_ ?_
      rotate_left
      · intro w'
        go_simp
        with_reducible rfl
      rotate_left
      · simp only [Act.put, List.setIfInBounds_toArray, List.set_cons_zero, List.set_cons_succ, i64_w, i32_w]
        rfl
      refine pure_ (i := 10) (N := some 76) (v := ?_) (a' := ?_) #[true, true, true, true, true, true, true, true, true, true, true, false, false, false, false, false, false, false, false, false, false, false] rfl rfl (any_of HT_.out (by kernel_rfl)) (fun _ _ _ h => h) (Or.inl ⟨by rfl, ?_⟩) ?_ ?_
      rotate_left
      · intro w'
        go_simp
        with_reducible rfl
      rotate_left
      · simp only [Act.put, List.setIfInBounds_toArray, List.set_cons_zero, List.set_cons_succ, i64_w, i32_w]
        rfl
      refine pure_ (i := 11) (N := some 77) (v := ?_) (a' := ?_) #[true, true, true, true, true, true, true, true, true, true, true, true, false, false, false, false, false, false, false, false, false, false] rfl rfl (any_of HT_.out (by kernel_rfl)) (fun _ _ _ h => h) (Or.inl ⟨by rfl, ?_⟩) ?_ ?_
      rotate_left
      · intro w'
        go_simp
        with_reducible rfl
      rotate_left
      · simp only [Act.put, List.setIfInBounds_toArray, List.set_cons_zero, List.set_cons_succ, i64_w, i32_w]
        rfl
      refine pure_ (i := 12) (N := some 78) (v := ?_) (a' := ?_) #[true, true, true, true, true, true, true, true, true, true, true, true, true, false, false, false, false, false, false, false, false, false] rfl rfl (any_of HT_.out (by kernel_rfl)) (fun _ _ _ h => h) (Or.inl ⟨by rfl, ?_⟩) ?_ ?_
      rotate_left
      · intro w'
        go_simp
        with_reducible rfl
      rotate_left
      · simp only [Act.put, List.setIfInBounds_toArray, List.set_cons_zero, List.set_cons_succ, i64_w, i32_w]
        rfl
      refine pure_ (i := 13) (N := some 79) (v := ?_) (a' := ?_) #[true, true, true, true, true, true, true, true, true, true, true, true, true, true, false, false, false, false, false, false, false, false] rfl rfl (any_of HT_.out (by kernel_rfl)) (fun _ _ _ h => h) (Or.inl ⟨by rfl, ?_⟩) ?_ ?_
      rotate_left
      · intro w'
        go_simp
        with_reducible rfl
      rotate_left
      · simp only [Act.put, List.setIfInBounds_toArray, List.set_cons_zero, List.set_cons_succ, i64_w, i32_w]
        rfl
      refine pure_ (i := 14) (N := some 80) (v := ?_) (a' := ?_) #[true, true, true, true, true, true, true, true, true, true, true, true, true, true, true, false, false, false, false, false, false, false] rfl rfl (any_of HT_.out (by kernel_rfl)) (fun _ _ _ h => h) (Or.inl ⟨by rfl, ?_⟩) ?_ ?_
      rotate_left
      · intro w'
        go_simp
        with_reducible rfl
      rotate_left
      · simp only [Act.put, List.setIfInBounds_toArray, List.set_cons_zero, List.set_cons_succ, i64_w, i32_w]
        rfl
      refine pure_ (i := 15) (N := some 81) (v := ?_) (a' := ?_) #[true, true, true, true, true, true, true, true, true, true, true, true, true, true, true, true, false, false, false, false, false, false] rfl rfl (any_of HT_.out (by kernel_rfl)) (fun _ _ _ h => h) (Or.inl ⟨by rfl, ?_⟩) ?_ ?_
      rotate_left
      · intro w'
        go_simp
        with_reducible rfl
      rotate_left
      · simp only [Act.put, List.setIfInBounds_toArray, List.set_cons_zero, List.set_cons_succ, i64_w, i32_w]
        rfl
      refine pure_ (i := 16) (N := some 82) (v := ?_) (a' := ?_) #[true, true, true, true, true, true, true, true, true, true, true, true, true, true, true, true, true, false, false, false, false, false] rfl rfl (any_of HT_.out (by kernel_rfl)) (fun _ _ _ h => h) (Or.inl ⟨by rfl, ?_⟩) ?_ ?_
      rotate_left
      · intro w'
        go_simp
        with_reducible rfl
      rotate_left
      · simp only [Act.put, List.setIfInBounds_toArray, List.set_cons_zero, List.set_cons_succ, i64_w, i32_w]
        rfl
      refine pure_ (i := 17) (N := some 83) (v := ?_) (a' := ?_) #[true, true, true, true, true, true, true, true, true, true, true, true, true, true, true, true, true, true, false, false, false, false] rfl rfl (any_of HT_.out (by kernel_rfl)) (fun _ _ _ h => h) (Or.inl ⟨by rfl, ?_⟩) ?_ ?_
      rotate_left
      · intro w'
        go_simp
        with_reducible rfl
      rotate_left
      · simp only [Act.put, List.setIfInBounds_toArray, List.set_cons_zero, List.set_cons_succ, i64_w, i32_w]
        rfl
      refine pure_ (i := 18) (N := some 84) (v := ?_) (a' := ?_) #[true, true, true, true, true, true, true, true, true, true, true, true, true, true, true, true, true, true, true, false, false, false] rfl rfl (any_of HT_.out (by kernel_rfl)) (fun _ _ _ h => h) (Or.inl ⟨by rfl, ?_⟩) ?_ ?_
      rotate_left
      · intro w'
        go_simp
        with_reducible rfl
      rotate_left
      · simp only [Act.put, List.setIfInBounds_toArray, List.set_cons_zero, List.set_cons_succ, i64_w, i32_w]
        rfl
      refine pure_ (i := 19) (N := some 85) (v := ?_) (a' := ?_) #[true, true, true, true, true, true, true, true, true, true, true, true, true, true, true, true, true, true, true, true, false, false] rfl rfl (any_of HT_.out (by kernel_rfl)) (fun _ _ _ h => h) (Or.inl ⟨by rfl, ?_⟩) ?_ ?_
      rotate_left
      · intro w'
        go_simp
        with_reducible rfl
      rotate_left
      · simp only [Act.put, List.setIfInBounds_toArray, List.set_cons_zero, List.set_cons_succ, i64_w, i32_w]
        rfl
      refine pure_ (i := 20) (N := some 86) (v := ?_) (a' := ?_) #[true, true, true, true, true, true, true, true, true, true, true, true, true, true, true, true, true, true, true, true, true, false] rfl rfl (any_of HT_.out (by kernel_rfl)) (fun _ _ _ h => h) (Or.inl ⟨by rfl, ?_⟩) ?_ ?_
      rotate_left
      · intro w'
        go_simp
        with_reducible rfl
      rotate_left
      · simp only [Act.put, List.setIfInBounds_toArray, List.set_cons_zero, List.set_cons_succ, i64_w, i32_w]
        rfl
      refine pure_ (i := 21) (N := some 6) (v := ?_) (a' := ?_) #[true, true, true, true, true, true, true, true, true, true, true, true, true, true, true, true, true, true, true, true, true, true] rfl rfl (any_of HT_.out (by kernel_rfl)) (fun _ _ _ h => h) (Or.inl ⟨by rfl, ?_⟩) ?_ ?_
      rotate_left
      · intro w'
        go_simp
        with_reducible rfl
      rotate_left
      · simp only [Act.put, List.setIfInBounds_toArray, List.set_cons_zero, List.set_cons_succ, i64_w, i32_w]
        rfl
      refine done_ (done_of HT_.out (by kernel_rfl)) ?_
      try go_wp2
      go_ret
      exact ⟨rfl, HBd.out⟩
    · go_wp2_with fail
      have HTY := Aside0.mk hty
      clear hty
      have HBd := Aside0.mk (below_drew1 (below_alloc HB10.out (.cells #[.int .i64 0, .int .i64 0, .int .i64 0] 45)))
      have HRd := Aside0.mk (RowB.drew (RowB.alloc HR10.out (.cells #[.int .i64 0, .int .i64 0, .int .i64 0] 45)))
      have HYd := Aside0.mk (blk_drew (blk_alloc HY10.out (.cells #[.int .i64 0, .int .i64 0, .int .i64 0] 45)))
      clear HB10 HR10 HY10
      refine start_ (n := 22) (S := fun w' => w'.cell? ⟨w7.heap.size, 0, none⟩ = some (.int .i64 y0) ∧ w'.cell? ⟨w7.heap.size, 1, none⟩ = some (.int .i64 y1) ∧ w'.cell? ⟨w7.heap.size, 2, none⟩ = some (.int .i64 y2) ∧ RowB w' g xs2) (ds := []) #[false, false, false, false, false, false, false, false, false, false, false, false, false, false, false, false, false, false, false, false, false, false] (by kernel_rfl) rfl rfl ⟨(blk_cell HYd.out 0).trans rfl, (blk_cell HYd.out 1).trans rfl, (blk_cell HYd.out 2).trans rfl, HRd.out⟩ (fun hHeld => ?_)
      refine with_tabW donjonlaw15_IsaTurns.tab11 donjonlaw15_IsaTurns.bits11 (fun HT_ HW_ => ?_)
      generalize World.drew _ = wd at HBd HRd HYd hHeld ⊢
      refine pure_ (i := 0) (N := some 66) (v := ?_) (a' := ?_) #[true, false, false, false, false, false, false, false, false, false, false, false, false, false, false, false, false, false, false, false, false, false] rfl rfl (any_of HT_.out (by kernel_rfl)) (fun _ _ _ h => h) (Or.inl ⟨by rfl, ?_⟩) ?_ ?_
      rotate_left
      · intro w'
        go_simp
        with_reducible rfl
      rotate_left
      · simp only [Act.put, List.setIfInBounds_toArray, List.set_cons_zero, List.set_cons_succ, i64_w, i32_w]
        rfl
      refine pure_ (i := 1) (N := some 67) (v := ?_) (a' := ?_) #[true, true, false, false, false, false, false, false, false, false, false, false, false, false, false, false, false, false, false, false, false, false] rfl rfl (any_of HT_.out (by kernel_rfl)) (fun _ _ _ h => h) (Or.inl ⟨by rfl, ?_⟩) ?_ ?_
      rotate_left
      · intro w'
        go_simp
        with_reducible rfl
      rotate_left
      · simp only [Act.put, List.setIfInBounds_toArray, List.set_cons_zero, List.set_cons_succ, i64_w, i32_w]
        rfl
      refine pure_ (i := 2) (N := some 68) (v := ?_) (a' := ?_) #[true, true, true, false, false, false, false, false, false, false, false, false, false, false, false, false, false, false, false, false, false, false] rfl rfl (any_of HT_.out (by kernel_rfl)) (fun _ _ _ h => h) (Or.inl ⟨by rfl, ?_⟩) ?_ ?_
      rotate_left
      · intro w'
        go_simp
        with_reducible rfl
      rotate_left
      · simp only [Act.put, List.setIfInBounds_toArray, List.set_cons_zero, List.set_cons_succ, i64_w, i32_w]
        rfl
      refine take_ (i := 3) (N := some 69) (v := ?_) (a' := ?_) #[true, true, true, true, false, false, false, false, false, false, false, false, false, false, false, false, false, false, false, false, false, false] rfl rfl (take_ofW HT_.out HW_.out (by kernel_rfl)) (fun _ _ _ h => h) (Or.inl ⟨by rfl, ?_⟩) hHeld ?_ ?_
      rotate_left
      · rintro w' ⟨j0, j1, j2, j3⟩
        go_simp
        with_reducible rfl
      rotate_left
      · simp only [Act.put, List.setIfInBounds_toArray, List.set_cons_zero, List.set_cons_succ, i64_w, i32_w]
        rfl
      refine pure_ (i := 5) (N := some 71) (v := ?_) (a' := ?_) #[true, true, true, true, false, true, false, false, false, false, false, false, false, false, false, false, false, false, false, false, false, false] rfl rfl (any_of HT_.out (by kernel_rfl)) (fun _ _ _ h => h) (Or.inl ⟨by rfl, ?_⟩) ?_ ?_
      rotate_left
      · intro w'
        go_simp
        with_reducible rfl
      rotate_left
      · simp only [Act.put, List.setIfInBounds_toArray, List.set_cons_zero, List.set_cons_succ, i64_w, i32_w]
        rfl
      refine take_ (i := 6) (N := some 72) (v := ?_) (a' := ?_) #[true, true, true, true, false, true, true, false, false, false, false, false, false, false, false, false, false, false, false, false, false, false] rfl rfl (take_ofW HT_.out HW_.out (by kernel_rfl)) (fun _ _ _ h => h) (Or.inl ⟨by rfl, ?_⟩) hHeld ?_ ?_
      rotate_left
      · rintro w' ⟨j0, j1, j2, j3⟩
        have hcv := HCV.out w' j3
        go_simp
        with_reducible rfl
      rotate_left
      · simp only [Act.put, List.setIfInBounds_toArray, List.set_cons_zero, List.set_cons_succ, i64_w, i32_w]
        rfl
      refine one_ (i := 4) (N := some 70) #[true, true, true, true, true, true, true, false, false, false, false, false, false, false, false, false, false, false, false, false, false, false] rfl rfl (one_of HT_.out (by kernel_rfl)) (by decide) (fun K hK => ?_)
      refine goes_ Tryd.func34 (by kernel_rfl) rfl #[.agg #[.int .i64 y0, .int .i64 y1, .int .i64 y2]] (by rfl) rfl rfl (by (try simp only [List.map_toArray, List.map_cons, List.map_nil]); first | done | rfl) ?_
      with_reducible refine (isa_Text.calls y0 y1 y2 s2 _ (HG.out.base.below HBd.out) HTY.out).mono ?_
      rintro e w11 ⟨rfl, hb_⟩
      have HB11 := Aside0.mk (below_step HBd.out hb_)
      have HR11 := Aside0.mk (RowB.below HRd.out hb_)
      have HY11 := Aside0.mk (blk_below HYd.out hb_)
      clear hb_
      refine ⟨_, rfl, ?_⟩
      refine hK.out _ _ ⟨(blk_cell HY11.out 0).trans rfl, (blk_cell HY11.out 1).trans rfl, (blk_cell HY11.out 2).trans rfl, HR11.out⟩ (fun hHeld => ?_)
      clear hK K
      refine norm_ (a' := ?_) ?_ ?_
      rotate_left
      · show Act.put _ (some 70) _ = _
        simp only [Act.put, List.setIfInBounds_toArray, List.set_cons_zero, List.set_cons_succ, i64_w, i32_w]
        rfl
      refine pure_ (i := 7) (N := some 73) (v := ?_) (a' := ?_) #[true, true, true, true, true, true, true, true, false, false, false, false, false, false, false, false, false, false, false, false, false, false] rfl rfl (any_of HT_.out (by kernel_rfl)) (fun _ _ _ h => h) (Or.inl ⟨by rfl, ?_⟩) ?_ ?_
      rotate_left
      · intro w'
        go_simp
        with_reducible rfl
      rotate_left
      · simp only [Act.put, List.setIfInBounds_toArray, List.set_cons_zero, List.set_cons_succ, i64_w, i32_w]
        rfl
      refine pure_ (i := 8) (N := some 74) (v := ?_) (a' := ?_) #[true, true, true, true, true, true, true, true, true, false, false, false, false, false, false, false, false, false, false, false, false, false] rfl rfl (any_of HT_.out (by kernel_rfl)) (fun _ _ _ h => h) (Or.inl ⟨by rfl, ?_⟩) ?_ ?_
      rotate_left
      · intro w'
        go_simp
        with_reducible rfl
      rotate_left
      · simp only [Act.put, List.setIfInBounds_toArray, List.set_cons_zero, List.set_cons_succ, i64_w, i32_w]
        rfl
      refine pure_ (i := 9) (N := some 75) (v := ?_) (a' := ?_) #[true, true, true, true, true, true, true, true, true, true, false, false, false, false, false, false, false, false, false, false, false, false] rfl rfl (any_of HT_.out (by kernel_rfl)) (fun _ _ _ h => h) (Or.inl ⟨by rfl, ?_⟩) ?_ ?_
      rotate_left
      · intro w'
        go_simp
        with_reducible rfl
      rotate_left
      · simp only [Act.put, List.setIfInBounds_toArray, List.set_cons_zero, List.set_cons_succ, i64_w, i32_w]
        rfl
      refine pure_ (i := 10) (N := some 76) (v := ?_) (a' := ?_) #[true, true, true, true, true, true, true, true, true, true, true, false, false, false, false, false, false, false, false, false, false, false] rfl rfl (any_of HT_.out (by kernel_rfl)) (fun _ _ _ h => h) (Or.inl ⟨by rfl, ?_⟩) ?_ ?_
      rotate_left
      · intro w'
        go_simp
        with_reducible rfl
      rotate_left
      · simp only [Act.put, List.setIfInBounds_toArray, List.set_cons_zero, List.set_cons_succ, i64_w, i32_w]
        rfl
      refine pure_ (i := 11) (N := some 77) (v := ?_) (a' := ?_) #[true, true, true, true, true, true, true, true, true, true, true, true, false, false, false, false, false, false, false, false, false, false] rfl rfl (any_of HT_.out (by kernel_rfl)) (fun _ _ _ h => h) (Or.inl ⟨by rfl, ?_⟩) ?_ ?_
      rotate_left
      · intro w'
        go_simp
        with_reducible rfl
      rotate_left
      · simp only [Act.put, List.setIfInBounds_toArray, List.set_cons_zero, List.set_cons_succ, i64_w, i32_w]
        rfl
      refine pure_ (i := 12) (N := some 78) (v := ?_) (a' := ?_) #[true, true, true, true, true, true, true, true, true, true, true, true, true, false, false, false, false, false, false, false, false, false] rfl rfl (any_of HT_.out (by kernel_rfl)) (fun _ _ _ h => h) (Or.inl ⟨by rfl, ?_⟩) ?_ ?_
      rotate_left
      · intro w'
        go_simp
        with_reducible rfl
      rotate_left
      · simp only [Act.put, List.setIfInBounds_toArray, List.set_cons_zero, List.set_cons_succ, i64_w, i32_w]
        rfl
      refine pure_ (i := 13) (N := some 79) (v := ?_) (a' := ?_) #[true, true, true, true, true, true, true, true, true, true, true, true, true, true, false, false, false, false, false, false, false, false] rfl rfl (any_of HT_.out (by kernel_rfl)) (fun _ _ _ h => h) (Or.inl ⟨by rfl, ?_⟩) ?_ ?_
      rotate_left
      · intro w'
        go_simp
        with_reducible rfl
      rotate_left
      · simp only [Act.put, List.setIfInBounds_toArray, List.set_cons_zero, List.set_cons_succ, i64_w, i32_w]
        rfl
      refine pure_ (i := 14) (N := some 80) (v := ?_) (a' := ?_) #[true, true, true, true, true, true, true, true, true, true, true, true, true, true, true, false, false, false, false, false, false, false] rfl rfl (any_of HT_.out (by kernel_rfl)) (fun _ _ _ h => h) (Or.inl ⟨by rfl, ?_⟩) ?_ ?_
      rotate_left
      · intro w'
        go_simp
        with_reducible rfl
      rotate_left
      · simp only [Act.put, List.setIfInBounds_toArray, List.set_cons_zero, List.set_cons_succ, i64_w, i32_w]
        rfl
      refine pure_ (i := 15) (N := some 81) (v := ?_) (a' := ?_) #[true, true, true, true, true, true, true, true, true, true, true, true, true, true, true, true, false, false, false, false, false, false] rfl rfl (any_of HT_.out (by kernel_rfl)) (fun _ _ _ h => h) (Or.inl ⟨by rfl, ?_⟩) ?_ ?_
      rotate_left
      · intro w'
        go_simp
        with_reducible rfl
      rotate_left
      · simp only [Act.put, List.setIfInBounds_toArray, List.set_cons_zero, List.set_cons_succ, i64_w, i32_w]
        rfl
      refine pure_ (i := 16) (N := some 82) (v := ?_) (a' := ?_) #[true, true, true, true, true, true, true, true, true, true, true, true, true, true, true, true, true, false, false, false, false, false] rfl rfl (any_of HT_.out (by kernel_rfl)) (fun _ _ _ h => h) (Or.inl ⟨by rfl, ?_⟩) ?_ ?_
      rotate_left
      · intro w'
        go_simp
        with_reducible rfl
      rotate_left
      · simp only [Act.put, List.setIfInBounds_toArray, List.set_cons_zero, List.set_cons_succ, i64_w, i32_w]
        rfl
      refine pure_ (i := 17) (N := some 83) (v := ?_) (a' := ?_) #[true, true, true, true, true, true, true, true, true, true, true, true, true, true, true, true, true, true, false, false, false, false] rfl rfl (any_of HT_.out (by kernel_rfl)) (fun _ _ _ h => h) (Or.inl ⟨by rfl, ?_⟩) ?_ ?_
      rotate_left
      · intro w'
        go_simp
        with_reducible rfl
      rotate_left
      · simp only [Act.put, List.setIfInBounds_toArray, List.set_cons_zero, List.set_cons_succ, i64_w, i32_w]
        rfl
      refine pure_ (i := 18) (N := some 84) (v := ?_) (a' := ?_) #[true, true, true, true, true, true, true, true, true, true, true, true, true, true, true, true, true, true, true, false, false, false] rfl rfl (any_of HT_.out (by kernel_rfl)) (fun _ _ _ h => h) (Or.inl ⟨by rfl, ?_⟩) ?_ ?_
      rotate_left
      · intro w'
        go_simp
        with_reducible rfl
      rotate_left
      · simp only [Act.put, List.setIfInBounds_toArray, List.set_cons_zero, List.set_cons_succ, i64_w, i32_w]
        rfl
      refine pure_ (i := 19) (N := some 85) (v := ?_) (a' := ?_) #[true, true, true, true, true, true, true, true, true, true, true, true, true, true, true, true, true, true, true, true, false, false] rfl rfl (any_of HT_.out (by kernel_rfl)) (fun _ _ _ h => h) (Or.inl ⟨by rfl, ?_⟩) ?_ ?_
      rotate_left
      · intro w'
        go_simp
        with_reducible rfl
      rotate_left
      · simp only [Act.put, List.setIfInBounds_toArray, List.set_cons_zero, List.set_cons_succ, i64_w, i32_w]
        rfl
      refine pure_ (i := 20) (N := some 86) (v := ?_) (a' := ?_) #[true, true, true, true, true, true, true, true, true, true, true, true, true, true, true, true, true, true, true, true, true, false] rfl rfl (any_of HT_.out (by kernel_rfl)) (fun _ _ _ h => h) (Or.inl ⟨by rfl, ?_⟩) ?_ ?_
      rotate_left
      · intro w'
        go_simp
        with_reducible rfl
      rotate_left
      · simp only [Act.put, List.setIfInBounds_toArray, List.set_cons_zero, List.set_cons_succ, i64_w, i32_w]
        rfl
      refine pure_ (i := 21) (N := some 6) (v := ?_) (a' := ?_) #[true, true, true, true, true, true, true, true, true, true, true, true, true, true, true, true, true, true, true, true, true, true] rfl rfl (any_of HT_.out (by kernel_rfl)) (fun _ _ _ h => h) (Or.inl ⟨by rfl, ?_⟩) ?_ ?_
      rotate_left
      · intro w'
        go_simp
        with_reducible rfl
      rotate_left
      · simp only [Act.put, List.setIfInBounds_toArray, List.set_cons_zero, List.set_cons_succ, i64_w, i32_w]
        rfl
      refine done_ (done_of HT_.out (by kernel_rfl)) ?_
      try go_wp2
      go_ret
      exact ⟨rfl, HB11.out⟩

end Go.Proofs.YtnepinkookbanaaDoor.X
