/- Written by a program of this session over the kit's print: YtnepinkookbanaaDoorF8. -/
import Derived.Test.YtnepinkookbanaaDoorH
import Derived.Test.YtnepinkookbanaaDoorE23
import Derived.Test.YtnepinkookbanaaDoorF14
import Derived.Test.YtnepinkookbanaaDoorF15
import Derived.Test.YtnepinkookbanaaDoorF22
import Derived.Test.YtnepinkookbanaaDoorF23
import Derived.Test.YtnepinkookbanaaDoorF24
import Derived.Test.YtnepinkookbanaaDoorPParse
import Derived.Test.YtnepinkookbanaaDoorPLabOrd
import Derived.Test.YtnepinkookbanaaDoorRowb
import Derived.Test.YtnepinkookbanaaDoorF15
import Derived.Test.YtnepinkookbanaaDoorE23
import Derived.Test.YtnepinkookbanaaDoorF22
import Derived.WalkKit
import Derived.BigCall
import Derived.Deep.RegionWith
import Derived.Deep.DeepCutAuto
import Derived.Deep.DrawnRows
namespace Go.Proofs.YtnepinkookbanaaDoor.X
open Go.RowKit Go.Proofs.YtnepinkookbanaaDoorW.PrintWords Go.Proofs.YtnepinkookbanaaDoorW.PrintLast Go.Proofs.YtnepinkookbanaaDoorW.PrintMore Go.Proofs.YtnepinkookbanaaDoor.More
attribute [local go_sem] max2_int min2_int max_two min_two max_three min_three max_four min_four binOp_string_leq binOp_string_gtr   -- for this text's walks alone
set_option linter.unusedVariables false
set_option linter.unusedSimpArgs false

/-! ### donjonlaw4_LabelTexts: function 8 -/
open Go.Proofs.YtnepinkookbanaaDoor.Pure Go.Proofs.YtnepinkookbanaaDoor.Lib Go.Proofs.YtnepinkookbanaaDoor.More
attribute [local go_sem high] eqA23
def donjonlaw4_LabelTexts.f (a0_0 : Int) (a0_1 : Int) (a0_2 : Int) (a0_3 : Int) (a1 : Int) (a2 : Int) : Option Bool := if 0 ≤ a2 ∧ a2 < 256 then some true else none
theorem LabelTexts.text_size {p q s u : Int} (h : Lab p q s u) : (textV p q s u).size ≤ 100 ∧ 3 ≤ (textV p q s u).size := by
  obtain ⟨a1, a2, a3, a4, a5, a6, a7, a8⟩ := h
  have h1 := Lib.itoa_length_le p (by omega) (by omega)
  have h2 := Lib.itoa_length_le q (by omega) (by omega)
  have h3 := Lib.itoa_length_le s (by omega) (by omega)
  have h4 := Lib.itoa_length_le u (by omega) (by omega)
  have e : (textV p q s u).size = (textV p q s u).data.toList.length := by simp
  rw [e, textV_list]
  simp only [List.length_append, List.length_cons]
  omega
theorem LabelTexts.parse_any (s : ByteArray) (hs : s.size < 4294967281) (w : World) (hG : Laid2 w) : Calls Tryd.prog 24 #[.string s] w fun e w' => ∃ y0 y1 y2 y3 f : Int, e = .returned (.tuple #[.agg #[.int .i64 y0, .int .i64 y1, .int .i64 y2, .int .i64 y3], .int .i64 f]) ∧ Aside0 (parseV s = (y0, y1, y2, y3, f)) ∧ Below w.heap.size w w' := by
  obtain ⟨⟨y0, y1, y2, y3, f⟩, hy⟩ : ∃ y, parseV s = y := ⟨_, rfl⟩
  refine (label_Parse.calls s y0 y1 y2 y3 f w hG (by unfold label_Parse.f; rw [if_pos hs, hy])).mono ?_
  rintro e w' ⟨he, hb⟩
  exact ⟨y0, y1, y2, y3, f, he, ⟨hy⟩, hb⟩
theorem LabelTexts.parse_f {s : ByteArray} {y0 y1 y2 y3 f : Int} (h : parseV s = (y0, y1, y2, y3, f)) : f = 1 ∨ (f = 0 ∧ fits64 y0 ∧ fits64 y1 ∧ fits64 y2 ∧ fits64 y3 ∧ (textV y0 y1 y2 y3).toList = s.toList) := by
  rcases parse_ways s with h1 | ⟨a, b, c, d, h1, hL, h2⟩
  · rw [h1] at h
    simp only [Prod.mk.injEq] at h
    exact .inl h.2.2.2.2.symm
  · rw [h1] at h
    simp only [Prod.mk.injEq] at h
    obtain ⟨rfl, rfl, rfl, rfl, rfl⟩ := h
    obtain ⟨a1, a2, a3, a4, a5, a6, a7, a8⟩ := hL
    unfold fits64
    exact .inr ⟨rfl, by omega, by omega, by omega, by omega, h2⟩
def LabelTexts.cutR (w0 : World) (t : ByteArray) (k g gy : Nat) (xs2 : List Int) (y0 y1 y2 y3 : Int) (s14 s15 : Value) (wx : World) : Prop := ∃ (gz : Nat) (z0 z1 z2 z3 fz : Int), s14 = .pointer (some ⟨gz, 0, none⟩) ∧ s15 = .int .i64 fz ∧ parseV (t.extract 0 k ++ t.extract (k + 1) t.size) = (z0, z1, z2, z3, fz) ∧
  wx.heap[gz]? = some (.cells #[.int .i64 z0, .int .i64 z1, .int .i64 z2, .int .i64 z3] 23 (0, 0)) ∧ wx.heap[gy]? = some (.cells #[.int .i64 y0, .int .i64 y1, .int .i64 y2, .int .i64 y3] 23 (0, 0)) ∧ RowB wx g xs2 ∧ Below w0.heap.size w0 wx
def donjonlaw4_LabelTexts.T13 : Bool × List (List Nat × List Nat) := (true, [([], []), ([0], [0]), ([1], [1]), ([2], [2]), ([3, 2, 2], [2, 3]), ([2], [2]), ([5, 2], [2, 5]), ([4, 6, 2], [2, 4, 6]), ([2, 7], [2, 7]), ([8, 4], [8]), ([9], [9]), ([10, 9], [9, 10]), ([11, 9, 9], [9, 11]), ([12], [12]), ([13, 12, 12], [12, 13]), ([12], [12]), ([12], [12]), ([15, 16, 12], [12, 15, 16]), ([12], [12]), ([12], [12]), ([19, 12], [12, 19]), ([18, 20, 12], [12, 18, 20]), ([17, 21, 12], [12, 17, 21]), ([14, 22, 12], [12, 14, 22]), ([12, 23, 9], [9, 12, 23]), ([9, 24], [9, 24]), ([25, 14, 0, 1, 2, 3, 4, 5, 6, 7, 8, 9, 10, 11, 12, 13, 14, 15, 16, 17, 18, 19, 20, 21, 22, 23, 24, 25], [25])])
def donjonlaw4_LabelTexts.B13 : List Nat := [0, 1, 3, 7, 15, 7, 39, 127, 255, 511, 1023, 2047, 4095, 8191, 16383, 8191, 8191, 106495, 8191, 8191, 532479, 1843199, 4169727, 8388607, 16777215, 33554431, 67108863]
theorem donjonlaw4_LabelTexts.tab13 : rtab .any (opsOf Tryd.f8 13) = donjonlaw4_LabelTexts.T13 := by kernel_rfl
theorem donjonlaw4_LabelTexts.bits13 : waitsOk donjonlaw4_LabelTexts.T13.2 donjonlaw4_LabelTexts.B13 = true := by kernel_rfl
attribute [local go_sem ↓] Go.wp_at_zero Go.wp_at_succ
set_option maxRecDepth 100000 in
set_option maxHeartbeats 8000000 in
theorem donjonlaw4_LabelTexts.calls (a0_0 : Int) (a0_1 : Int) (a0_2 : Int) (a0_3 : Int) (a1 : Int) (a2 : Int) (r : Bool) (w : World) (hG : Laid2 w) (h : donjonlaw4_LabelTexts.f a0_0 a0_1 a0_2 a0_3 a1 a2 = some r) :
    Calls Tryd.prog 8 #[.agg #[.int .i64 a0_0, .int .i64 a0_1, .int .i64 a0_2, .int .i64 a0_3], .int .i64 a1, .int .u8 a2] w fun e w' => e = .returned (.bool r) ∧ Below w.heap.size w w' := by
  obtain ⟨ha2, rfl⟩ : (0 ≤ a2 ∧ a2 < 256) ∧ true = r := by
    unfold donjonlaw4_LabelTexts.f at h
    by_cases h1 : 0 ≤ a2 ∧ a2 < 256
    · rw [if_pos h1] at h
      exact ⟨h1, Option.some.inj h⟩
    · rw [if_neg h1] at h
      exact absurd h (by simp)
  clear h
  have hgood := good4_f a0_0 a0_1 a0_2 a0_3
  have hlab := lab_good a0_0 a0_1 a0_2 a0_3
  generalize a0_0 % 4 = p at hgood hlab
  generalize a0_1 % 256 = q at hgood hlab
  generalize a0_2 % 4 = s at hgood hlab
  generalize a0_3 % 256 = u at hgood hlab
  obtain ⟨hsz1, hsz2⟩ := LabelTexts.text_size hlab
  have htext : label_Text.f p q s u = some (textV p q s u) := by
    unfold label_Text.f
    obtain ⟨b1, b2, b3, b4, b5, b6, b7, b8⟩ := hlab
    rw [if_pos (by unfold fits64; omega)]
  have hparse : label_Parse.f (textV p q s u) = some (p, q, s, u, 0) := by
    unfold label_Parse.f
    rw [if_pos (by omega), parse_text hlab]
  generalize textV p q s u = t at htext hparse hsz1 hsz2
  obtain ⟨k, hk, hkt⟩ : ∃ k : Nat, donjonlaw4_within.f a1 (t.size : Int) = some (k : Int) ∧ k < t.size := by
    unfold donjonlaw4_within.f
    obtain ⟨k, e, h0, h1, _⟩ := within_small (a := a1) (n := (t.size : Int)) (by omega) (by omega)
    exact ⟨k.toNat, by rw [e]; congr 1; omega, by omega⟩
  have HGood := Aside0.mk hgood
  have HText := Aside0.mk htext
  have HParse := Aside0.mk hparse
  have HK := Aside0.mk hk
  have HG := Aside0.mk hG
  have HZ1 := Aside0.mk hsz1
  have HZ2 := Aside0.mk hsz2
  have HKT := Aside0.mk hkt
  have HA2 := Aside0.mk ha2
  clear hgood htext hparse hk hG hsz1 hsz2 hkt ha2 hlab
  go_enter Tryd.func8, Tryd.ntmps8
  go_wp2_with fail
  refine (donjonlaw4_known.calls true _ (HG.out.base.below (by with_reducible repeat (first | exact Below.refl _ _ | apply below_alloc | apply below_drew1))) known4).mono ?_
  rintro e w1 ⟨rfl, hb1⟩
  have HB1 : Aside0 (Below w.heap.size w w1) := ⟨below_step (by with_reducible repeat (first | exact Below.refl _ _ | apply below_alloc | apply below_drew1)) hb1⟩
  have HC1 := Aside0.mk (blk_below (blk_new w (.cells #[.int .i64 a0_0, .int .i64 a0_1, .int .i64 a0_2, .int .i64 a0_3] 23)) hb1)
  clear hb1
  have c0 : w1.cell? ⟨w.heap.size, 0, none⟩ = some (.int .i64 a0_0) := (blk_cell HC1.out 0).trans rfl
  have c1 : w1.cell? ⟨w.heap.size, 1, none⟩ = some (.int .i64 a0_1) := (blk_cell HC1.out 1).trans rfl
  have c2 : w1.cell? ⟨w.heap.size, 2, none⟩ = some (.int .i64 a0_2) := (blk_cell HC1.out 2).trans rfl
  have c3 : w1.cell? ⟨w.heap.size, 3, none⟩ = some (.int .i64 a0_3) := (blk_cell HC1.out 3).trans rfl
  go_wp2_with fail
  refine (donjonlaw4_Good.calls _ _ _ _ p q s u _ HGood.out).mono ?_
  rintro e w2 ⟨rfl, hb2⟩
  have HB2 : Aside0 (Below w.heap.size w w2) := ⟨below_step HB1.out hb2⟩
  have HC2 := Aside0.mk (blk_below HC1.out hb2)
  clear hb2 c0 c1 c2 c3
  have c0 : w2.cell? ⟨w.heap.size, 0, none⟩ = some (.int .i64 a0_0) := (blk_cell HC2.out 0).trans rfl
  have c1 : w2.cell? ⟨w.heap.size, 1, none⟩ = some (.int .i64 a0_1) := (blk_cell HC2.out 1).trans rfl
  have c2 : w2.cell? ⟨w.heap.size, 2, none⟩ = some (.int .i64 a0_2) := (blk_cell HC2.out 2).trans rfl
  have c3 : w2.cell? ⟨w.heap.size, 3, none⟩ = some (.int .i64 a0_3) := (blk_cell HC2.out 3).trans rfl
  have f0 : w2.frozen? ⟨w.heap.size, 0, none⟩ = false := blk_frozen HC2.out 0
  have f1 : w2.frozen? ⟨w.heap.size, 1, none⟩ = false := blk_frozen HC2.out 1
  have f2 : w2.frozen? ⟨w.heap.size, 2, none⟩ = false := blk_frozen HC2.out 2
  have f3 : w2.frozen? ⟨w.heap.size, 3, none⟩ = false := blk_frozen HC2.out 3
  go_wp2_with fail
  have HB2' : Aside0 (Below w.heap.size w ((((w2.setCell ⟨w.heap.size, 0, none⟩ (.int .i64 p)).setCell ⟨w.heap.size, 1, none⟩ (.int .i64 q)).setCell ⟨w.heap.size, 2, none⟩ (.int .i64 s)).setCell ⟨w.heap.size, 3, none⟩ (.int .i64 u))) := ⟨below_set (below_set (below_set (below_set HB2.out (Nat.le_refl _)) (Nat.le_refl _)) (Nat.le_refl _)) (Nat.le_refl _)⟩
  have HC2' := Aside0.mk (blk_put (blk_put (blk_put (blk_put HC2.out 0 (.int .i64 p) rfl) 1 (.int .i64 q) rfl) 2 (.int .i64 s) rfl) 3 (.int .i64 u) rfl)
  refine (label_Text.calls p q s u t _ (HG.out.base.below HB2'.out) HText.out).mono ?_
  rintro e w3 ⟨rfl, hb3⟩
  have HB3 : Aside0 (Below w.heap.size w w3) := ⟨below_step HB2'.out hb3⟩
  have HC3 := Aside0.mk (blk_below HC2'.out hb3)
  clear hb3 c0 c1 c2 c3 f0 f1 f2 f3 HB2' HC2'
  go_wp2_with fail
  refine (label_Parse.calls t p q s u 0 w3 (HG.out.below HB3.out) HParse.out).mono ?_
  rintro e w4 ⟨rfl, hb4⟩
  have HB4 : Aside0 (Below w.heap.size w w4) := ⟨below_step HB3.out hb4⟩
  have HC4 := Aside0.mk (blk_below HC3.out hb4)
  have hz4 : w.heap.size < w4.heap.size := blk_lt HC4.out
  clear hb4
  have c0 : w4.cell? ⟨w.heap.size, 0, none⟩ = some (.int .i64 p) := (blk_cell HC4.out 0).trans rfl
  have c1 : w4.cell? ⟨w.heap.size, 1, none⟩ = some (.int .i64 q) := (blk_cell HC4.out 1).trans rfl
  have c2 : w4.cell? ⟨w.heap.size, 2, none⟩ = some (.int .i64 s) := (blk_cell HC4.out 2).trans rfl
  have c3 : w4.cell? ⟨w.heap.size, 3, none⟩ = some (.int .i64 u) := (blk_cell HC4.out 3).trans rfl
  go_wp2_with fail
  refine (donjonlaw4_within.calls a1 t.size k _ HK.out).mono ?_
  rintro e w5 ⟨rfl, ⟨nd, rfl⟩⟩
  clear c0 c1 c2 c3
  go_wp2_with (first
    | ((with_reducible refine gate_dst (N := 39) rfl ?_); refine E_bytes 5 rfl 9 37 _ rfl t rfl Tryd.underlying9 Tryd.underlying37 Tryd.underlying5 ?_; intro g c w6 hR hb6 hg hc; have HB6 : Aside0 (Below w.heap.size w w6) := ⟨below_step (pw_below_drewN (below_alloc HB4.out _) _) hb6⟩; have HC6 := Aside0.mk (blk_below (blk_drewN (blk_alloc HC4.out _) nd) hb6); have hgz : w.heap.size < g := (by have h_ := hg; simp at h_; omega); clear hb6 hg; obtain ⟨x0, hx0⟩ : ∃ x, (bytesOf t).getD k 0 = x := ⟨_, rfl⟩; have hck := hR.2 k (by rw [bytesOf_length]; exact HKT.out); rw [hx0] at hck; have ck := hck.1; have fk := hck.2; have HR6 := Aside0.mk hR; have HCC := Aside0.mk hc; have HGZ := Aside0.mk hgz; clear hR hck hx0 hc hgz; have hk0 : (0 : Int) ≤ (k : Int) := (by omega); have hk1 : (k : Int) < (t.size : Int) := (by have := HKT.out; omega))
    | ((with_reducible refine gate_dst (N := 49) rfl ?_); refine E_str 5 rfl 37 9 _ rfl g t.size c ((bytesOf t).set k _) (by rw [List.length_set, bytesOf_length]) rfl Tryd.underlying37 Tryd.underlying5 Tryd.underlying9 (RowB.set HR6.out k _) (by rw [List.length_set, bytesOf_length]; have := HZ1.out; omega) ?_))
  obtain ⟨xs2, hxs2⟩ : ∃ z, (bytesOf t).set k ((x0 + a2) % 256) = z := ⟨_, rfl⟩
  obtain ⟨s2, hs2⟩ : ∃ z, strOfNums xs2 = z := ⟨_, rfl⟩
  rw [hxs2, hs2]
  have hl2 : xs2.length = t.size := by rw [← hxs2, List.length_set, bytesOf_length]
  have hz2 : s2.size ≤ 100 := by
    have e : s2.size = xs2.length := by
      rw [← hs2]
      show (List.toArray _).size = _
      simp
    have := HZ1.out
    omega
  have HB7' : Aside0 (Below w.heap.size w (w6.setCell ⟨g, k, none⟩ (.int .u8 ((x0 + a2) % 256)))) := ⟨below_set HB6.out (Nat.le_of_lt HGZ.out)⟩
  have HR7' : Aside0 (RowB (w6.setCell ⟨g, k, none⟩ (.int .u8 ((x0 + a2) % 256))) g xs2) := ⟨hxs2 ▸ RowB.set HR6.out k ((x0 + a2) % 256)⟩
  have HS2 := Aside0.mk hs2
  have HL2 := Aside0.mk hl2
  refine (LabelTexts.parse_any s2 (by omega) _ (HG.out.below HB7'.out)).mono ?_
  rintro e w7 ⟨y0, y1, y2, y3, f, rfl, HY, hb7⟩
  have HB7 : Aside0 (Below w.heap.size w w7) := ⟨below_step HB7'.out hb7⟩
  have HR7 := Aside0.mk (RowB.below HR7'.out hb7)
  clear hb7 HB7' HR7' hxs2 hs2 hl2 hz2 ck fk HR6 HB6 HC6 HB4 HC4 hz4
  have hk2 : (0 : Int) ≤ (k : Int) + 1 := by omega
  have hk3 : (k : Int) + 1 ≤ (t.size : Int) := by omega
  have hk4 : (k : Int) ≤ (t.size : Int) := by omega
  have hkn : ((k : Int) + 1).toNat = k + 1 := by omega
  have hkw : IntKind.i64.wrap ((k : Int) + 1) = (k : Int) + 1 := i64_wrap_id (by omega) (by have := HZ1.out; omega)
  have hA1 : (9223372036854775807 < min k t.size + (t.size - (k + 1))) = False := eq_false (by have := HZ1.out; omega)
  go_upto_region 12 with fail
  go_cut [14, 15] (fun s14 s15 wx => LabelTexts.cutR w t k g w7.heap.size xs2 y0 y1 y2 y3 s14 s15 wx)
  case first =>
    go_region_with (go_at_call 24; refine (LabelTexts.parse_any (t.extract 0 k ++ t.extract (k + 1) t.size) (by rw [ByteArray.size_append, ByteArray.size_extract, ByteArray.size_extract]; have := HZ1.out; omega) _ (HG.out.below (by with_reducible repeat (first | exact HB7.out | apply below_alloc | apply below_drew1)))).mono ?_; rintro e w8 ⟨z0, z1, z2, z3, fz, rfl, HZ, hb8⟩; have HB8 : Aside0 (Below w.heap.size w w8) := ⟨below_step (by with_reducible repeat (first | exact HB7.out | apply below_alloc | apply below_drew1)) hb8⟩; have HR8 : Aside0 (RowB w8 g xs2) := ⟨RowB.below (by with_reducible repeat (first | exact HR7.out | apply RowB.drew | apply RowB.alloc)) hb8⟩; have HY8 : Aside0 (w8.heap[w7.heap.size]? = some (.cells #[.int .i64 y0, .int .i64 y1, .int .i64 y2, .int .i64 y3] 23 (0, 0))) := ⟨blk_below (by with_reducible repeat (first | exact blk_new _ _ | apply blk_drew | apply blk_alloc)) hb8⟩; obtain ⟨hc8, hf8⟩ := old_cells8 hb8; have hz8 := hb8.size; (try simp at hz8); (try (have z0_ : w7.heap.size < w8.heap.size := by omega)); (try (have z1_ : w7.heap.size + 1 < w8.heap.size := by omega)); have Hb8 := Aside0.mk hb8; clear hb8)
    all_goals (go_wp2_with fail; go_meet; clear hkw hA1; refine ⟨_, z0, z1, z2, z3, fz, rfl, rfl, HZ.out, ?_, ?_, ?_, ?_⟩)
    all_goals first | (with_reducible exact blk_new _ _) | (with_reducible exact blk_alloc HY8.out _) | (with_reducible exact RowB.alloc HR8.out _) | (with_reducible exact below_alloc HB8.out _) | exact below_set (below_set (below_set (below_set HB8.out (by have := HB7.out.size; omega)) (by have := HB7.out.size; omega)) (by have := HB7.out.size; omega)) (by have := HB7.out.size; omega) | exact RowB.far (RowB.far (RowB.far (RowB.far HR8.out (by show ¬ w7.heap.size + 1 = g; have := HR7.out.1; omega) _) (by show ¬ w7.heap.size + 1 = g; have := HR7.out.1; omega) _) (by show ¬ w7.heap.size + 1 = g; have := HR7.out.1; omega) _) (by show ¬ w7.heap.size + 1 = g; have := HR7.out.1; omega) _ | exact blk_far (blk_far (blk_far (blk_far HY8.out (by show ¬ w7.heap.size = w7.heap.size + 1; omega) _) (by show ¬ w7.heap.size = w7.heap.size + 1; omega) _) (by show ¬ w7.heap.size = w7.heap.size + 1; omega) _) (by show ¬ w7.heap.size = w7.heap.size + 1; omega) _ | exact (by refine blk_put (cs := #[.int .i64 z0, .int .i64 z1, .int .i64 z2, .int .i64 0]) ?_ 3 _ rfl; refine blk_put (cs := #[.int .i64 z0, .int .i64 z1, .int .i64 0, .int .i64 0]) ?_ 2 _ rfl; refine blk_put (cs := #[.int .i64 z0, .int .i64 0, .int .i64 0, .int .i64 0]) ?_ 1 _ rfl; exact blk_put (cs := #[.int .i64 0, .int .i64 0, .int .i64 0, .int .i64 0]) (blk_below (by have h_ := blk_new (w7.alloc (.cells #[.int .i64 y0, .int .i64 y1, .int .i64 y2, .int .i64 y3] 23)) (.cells #[.int .i64 0, .int .i64 0, .int .i64 0, .int .i64 0] 23); rw [show (w7.alloc (.cells #[.int .i64 y0, .int .i64 y1, .int .i64 y2, .int .i64 y3] 23)).heap.size = w7.heap.size + 1 from by simp] at h_; exact h_) Hb8.out) 0 _ rfl)
  case rest =>
    obtain ⟨gz, z0, z1, z2, z3, fz, rfl, rfl, hZ, hz8, hy8, hR8, hB8⟩ := hcut
    have HKW := Aside0.mk hkw
    have HA1 := Aside0.mk hA1
    clear hkw hA1
    have HZ := Aside0.mk hZ
    have HZ8 := Aside0.mk hz8
    have HY8 := Aside0.mk hy8
    have HR8 := Aside0.mk hR8
    have HB8 := Aside0.mk hB8
    have HCV : Aside0 (∀ W, RowB W g xs2 → (convert 37 9 (.slice (some ⟨g, 0, none⟩) t.size c)).run Tryd.prog W = .ok (.string s2) W) := ⟨fun W hW => by
      have h_ := string_of_reads (P := Tryd.prog) (src := 37) (dst := 9) (c := c) Tryd.underlying37 Tryd.underlying5 Tryd.underlying9 (hW.reads (by have := HL2.out; have := HZ1.out; omega))
      rw [HL2.out, HS2.out] at h_
      exact h_⟩
    have hcv8 := HCV.out _ (RowB.drew HR8.out)
    clear hZ hz8 hy8 hR8 hB8
    have u0 : World.cell? _ ⟨w7.heap.size, 0, none⟩ = some (.int .i64 y0) := (blk_cell HY8.out 0).trans rfl
    have u1 : World.cell? _ ⟨w7.heap.size, 1, none⟩ = some (.int .i64 y1) := (blk_cell HY8.out 1).trans rfl
    have u2 : World.cell? _ ⟨w7.heap.size, 2, none⟩ = some (.int .i64 y2) := (blk_cell HY8.out 2).trans rfl
    have u3 : World.cell? _ ⟨w7.heap.size, 3, none⟩ = some (.int .i64 y3) := (blk_cell HY8.out 3).trans rfl
    have v0 : World.cell? _ ⟨gz, 0, none⟩ = some (.int .i64 z0) := (blk_cell HZ8.out 0).trans rfl
    have v1 : World.cell? _ ⟨gz, 1, none⟩ = some (.int .i64 z1) := (blk_cell HZ8.out 1).trans rfl
    have v2 : World.cell? _ ⟨gz, 2, none⟩ = some (.int .i64 z2) := (blk_cell HZ8.out 2).trans rfl
    have v3 : World.cell? _ ⟨gz, 3, none⟩ = some (.int .i64 z3) := (blk_cell HZ8.out 3).trans rfl
    rcases LabelTexts.parse_f HY.out with rfl | ⟨rfl, y5, y6, y7, y8, hty⟩
    all_goals rcases LabelTexts.parse_f HZ.out with rfl | ⟨rfl, z5, z6, z7, z8, htz⟩
    all_goals (try (obtain ⟨ty, ety⟩ : ∃ x, textV y0 y1 y2 y3 = x := ⟨_, rfl⟩; rw [ety] at hty; have HTY : Aside0 (label_Text.f y0 y1 y2 y3 = some ty) := ⟨by unfold label_Text.f; rw [if_pos ⟨y5, y6, y7, y8⟩, ety]⟩; have ey1 : (ty.toList == s2.toList) = true := beq_iff_eq.2 hty; clear ety hty y5 y6 y7 y8))
    all_goals (try (obtain ⟨tz, etz⟩ : ∃ x, textV z0 z1 z2 z3 = x := ⟨_, rfl⟩; rw [etz] at htz; have HTZ : Aside0 (label_Text.f z0 z1 z2 z3 = some tz) := ⟨by unfold label_Text.f; rw [if_pos ⟨z5, z6, z7, z8⟩, etz]⟩; have ez1 : (tz.toList == (t.extract 0 k ++ t.extract (k + 1) t.size).toList) = true := beq_iff_eq.2 htz; clear etz htz z5 z6 z7 z8))
    all_goals clear u0 u1 u2 u3 v0 v1 v2 v3 hcv8
    all_goals (have hkw := HKW.out; have hA1 := HA1.out)
    · go_wp2_with fail
      have HBd := Aside0.mk (below_drew1 HB8.out)
      have HRd := Aside0.mk (RowB.drew HR8.out)
      have HZd := Aside0.mk (blk_drew HZ8.out)
      have HYd := Aside0.mk (blk_drew HY8.out)
      clear HB8 HR8 HZ8 HY8
      refine start_ (n := 27) (S := fun w' => w'.cell? ⟨w7.heap.size, 0, none⟩ = some (.int .i64 y0) ∧ w'.cell? ⟨w7.heap.size, 1, none⟩ = some (.int .i64 y1) ∧ w'.cell? ⟨w7.heap.size, 2, none⟩ = some (.int .i64 y2) ∧ w'.cell? ⟨w7.heap.size, 3, none⟩ = some (.int .i64 y3) ∧ w'.cell? ⟨gz, 0, none⟩ = some (.int .i64 z0) ∧ w'.cell? ⟨gz, 1, none⟩ = some (.int .i64 z1) ∧ w'.cell? ⟨gz, 2, none⟩ = some (.int .i64 z2) ∧ w'.cell? ⟨gz, 3, none⟩ = some (.int .i64 z3) ∧ RowB w' g xs2) (ds := []) #[false, false, false, false, false, false, false, false, false, false, false, false, false, false, false, false, false, false, false, false, false, false, false, false, false, false, false] (by kernel_rfl) rfl rfl ⟨(blk_cell HYd.out 0).trans rfl, (blk_cell HYd.out 1).trans rfl, (blk_cell HYd.out 2).trans rfl, (blk_cell HYd.out 3).trans rfl, (blk_cell HZd.out 0).trans rfl, (blk_cell HZd.out 1).trans rfl, (blk_cell HZd.out 2).trans rfl, (blk_cell HZd.out 3).trans rfl, HRd.out⟩ (fun hHeld => ?_)
      refine with_tabW donjonlaw4_LabelTexts.tab13 donjonlaw4_LabelTexts.bits13 (fun HT_ HW_ => ?_)
      generalize World.drew _ = wd at HBd HRd HZd HYd hHeld ⊢
      refine pure_ (i := 0) (N := some 65) (v := ?_) (a' := ?_) #[true, false, false, false, false, false, false, false, false, false, false, false, false, false, false, false, false, false, false, false, false, false, false, false, false, false, false] rfl rfl (any_of HT_.out (by kernel_rfl)) (fun _ _ _ h => h) (Or.inl ⟨by rfl, ?_⟩) ?_ ?_
      rotate_left
      · intro w'
        go_simp
        with_reducible rfl
      rotate_left
      · simp only [Act.put, List.setIfInBounds_toArray, List.set_cons_zero, List.set_cons_succ, i64_w, i32_w]
        rfl
      refine pure_ (i := 1) (N := some 66) (v := ?_) (a' := ?_) #[true, true, false, false, false, false, false, false, false, false, false, false, false, false, false, false, false, false, false, false, false, false, false, false, false, false, false] rfl rfl (any_of HT_.out (by kernel_rfl)) (fun _ _ _ h => h) (Or.inl ⟨by rfl, ?_⟩) ?_ ?_
      rotate_left
      · intro w'
        go_simp
        with_reducible rfl
      rotate_left
      · simp only [Act.put, List.setIfInBounds_toArray, List.set_cons_zero, List.set_cons_succ, i64_w, i32_w]
        rfl
      refine pure_ (i := 2) (N := some 67) (v := ?_) (a' := ?_) #[true, true, true, false, false, false, false, false, false, false, false, false, false, false, false, false, false, false, false, false, false, false, false, false, false, false, false] rfl rfl (any_of HT_.out (by kernel_rfl)) (fun _ _ _ h => h) (Or.inl ⟨by rfl, ?_⟩) ?_ ?_
      rotate_left
      · intro w'
        go_simp
        with_reducible rfl
      rotate_left
      · simp only [Act.put, List.setIfInBounds_toArray, List.set_cons_zero, List.set_cons_succ, i64_w, i32_w]
        rfl
      refine pure_ (i := 3) (N := some 68) (v := undef) (a' := ?_) #[true, true, true, true, false, false, false, false, false, false, false, false, false, false, false, false, false, false, false, false, false, false, false, false, false, false, false] rfl rfl (any_of HT_.out (by kernel_rfl)) (fun _ _ _ h => h) (Or.inr ⟨by rfl, rfl⟩) ?_ ?_
      rotate_left
      · simp only [Act.put, List.setIfInBounds_toArray, List.set_cons_zero, List.set_cons_succ, i64_w, i32_w]
        rfl
      refine pure_ (i := 4) (N := some 69) (v := undef) (a' := ?_) #[true, true, true, true, true, false, false, false, false, false, false, false, false, false, false, false, false, false, false, false, false, false, false, false, false, false, false] rfl rfl (any_of HT_.out (by kernel_rfl)) (fun _ _ _ h => h) (Or.inr ⟨by rfl, rfl⟩) ?_ ?_
      rotate_left
      · simp only [Act.put, List.setIfInBounds_toArray, List.set_cons_zero, List.set_cons_succ, i64_w, i32_w]
        rfl
      refine pure_ (i := 5) (N := some 70) (v := undef) (a' := ?_) #[true, true, true, true, true, true, false, false, false, false, false, false, false, false, false, false, false, false, false, false, false, false, false, false, false, false, false] rfl rfl (any_of HT_.out (by kernel_rfl)) (fun _ _ _ h => h) (Or.inr ⟨by rfl, rfl⟩) ?_ ?_
      rotate_left
      · simp only [Act.put, List.setIfInBounds_toArray, List.set_cons_zero, List.set_cons_succ, i64_w, i32_w]
        rfl
      refine pure_ (i := 6) (N := some 71) (v := undef) (a' := ?_) #[true, true, true, true, true, true, true, false, false, false, false, false, false, false, false, false, false, false, false, false, false, false, false, false, false, false, false] rfl rfl (any_of HT_.out (by kernel_rfl)) (fun _ _ _ h => h) (Or.inr ⟨by rfl, rfl⟩) ?_ ?_
      rotate_left
      · simp only [Act.put, List.setIfInBounds_toArray, List.set_cons_zero, List.set_cons_succ, i64_w, i32_w]
        rfl
      refine pure_ (i := 7) (N := some 72) (v := undef) (a' := ?_) #[true, true, true, true, true, true, true, true, false, false, false, false, false, false, false, false, false, false, false, false, false, false, false, false, false, false, false] rfl rfl (any_of HT_.out (by kernel_rfl)) (fun _ _ _ h => h) (Or.inr ⟨by rfl, rfl⟩) ?_ ?_
      rotate_left
      · simp only [Act.put, List.setIfInBounds_toArray, List.set_cons_zero, List.set_cons_succ, i64_w, i32_w]
        rfl
      refine pure_ (i := 8) (N := some 73) (v := ?_) (a' := ?_) #[true, true, true, true, true, true, true, true, true, false, false, false, false, false, false, false, false, false, false, false, false, false, false, false, false, false, false] rfl rfl (any_of HT_.out (by kernel_rfl)) (fun _ _ _ h => h) (Or.inl ⟨by rfl, ?_⟩) ?_ ?_
      rotate_left
      · intro w'
        go_simp
        with_reducible rfl
      rotate_left
      · simp only [Act.put, List.setIfInBounds_toArray, List.set_cons_zero, List.set_cons_succ, i64_w, i32_w]
        rfl
      refine pure_ (i := 9) (N := some 74) (v := ?_) (a' := ?_) #[true, true, true, true, true, true, true, true, true, true, false, false, false, false, false, false, false, false, false, false, false, false, false, false, false, false, false] rfl rfl (any_of HT_.out (by kernel_rfl)) (fun _ _ _ h => h) (Or.inl ⟨by rfl, ?_⟩) ?_ ?_
      rotate_left
      · intro w'
        go_simp
        with_reducible rfl
      rotate_left
      · simp only [Act.put, List.setIfInBounds_toArray, List.set_cons_zero, List.set_cons_succ, i64_w, i32_w]
        rfl
      refine pure_ (i := 10) (N := some 75) (v := ?_) (a' := ?_) #[true, true, true, true, true, true, true, true, true, true, true, false, false, false, false, false, false, false, false, false, false, false, false, false, false, false, false] rfl rfl (any_of HT_.out (by kernel_rfl)) (fun _ _ _ h => h) (Or.inl ⟨by rfl, ?_⟩) ?_ ?_
      rotate_left
      · intro w'
        go_simp
        with_reducible rfl
      rotate_left
      · simp only [Act.put, List.setIfInBounds_toArray, List.set_cons_zero, List.set_cons_succ, i64_w, i32_w]
        rfl
      refine pure_ (i := 11) (N := some 76) (v := ?_) (a' := ?_) #[true, true, true, true, true, true, true, true, true, true, true, true, false, false, false, false, false, false, false, false, false, false, false, false, false, false, false] rfl rfl (any_of HT_.out (by kernel_rfl)) (fun _ _ _ h => h) (Or.inl ⟨by rfl, ?_⟩) ?_ ?_
      rotate_left
      · intro w'
        go_simp
        with_reducible rfl
      rotate_left
      · simp only [Act.put, List.setIfInBounds_toArray, List.set_cons_zero, List.set_cons_succ, i64_w, i32_w]
        rfl
      refine pure_ (i := 12) (N := some 77) (v := ?_) (a' := ?_) #[true, true, true, true, true, true, true, true, true, true, true, true, true, false, false, false, false, false, false, false, false, false, false, false, false, false, false] rfl rfl (any_of HT_.out (by kernel_rfl)) (fun _ _ _ h => h) (Or.inl ⟨by rfl, ?_⟩) ?_ ?_
      rotate_left
      · intro w'
        go_simp
        with_reducible rfl
      rotate_left
      · simp only [Act.put, List.setIfInBounds_toArray, List.set_cons_zero, List.set_cons_succ, i64_w, i32_w]
        rfl
      refine pure_ (i := 13) (N := some 78) (v := undef) (a' := ?_) #[true, true, true, true, true, true, true, true, true, true, true, true, true, true, false, false, false, false, false, false, false, false, false, false, false, false, false] rfl rfl (any_of HT_.out (by kernel_rfl)) (fun _ _ _ h => h) (Or.inr ⟨by rfl, rfl⟩) ?_ ?_
      rotate_left
      · simp only [Act.put, List.setIfInBounds_toArray, List.set_cons_zero, List.set_cons_succ, i64_w, i32_w]
        rfl
      refine pure_ (i := 14) (N := some 79) (v := undef) (a' := ?_) #[true, true, true, true, true, true, true, true, true, true, true, true, true, true, true, false, false, false, false, false, false, false, false, false, false, false, false] rfl rfl (any_of HT_.out (by kernel_rfl)) (fun _ _ _ h => h) (Or.inr ⟨by rfl, rfl⟩) ?_ ?_
      rotate_left
      · simp only [Act.put, List.setIfInBounds_toArray, List.set_cons_zero, List.set_cons_succ, i64_w, i32_w]
        rfl
      refine pure_ (i := 15) (N := some 80) (v := undef) (a' := ?_) #[true, true, true, true, true, true, true, true, true, true, true, true, true, true, true, true, false, false, false, false, false, false, false, false, false, false, false] rfl rfl (any_of HT_.out (by kernel_rfl)) (fun _ _ _ h => h) (Or.inr ⟨by rfl, rfl⟩) ?_ ?_
      rotate_left
      · simp only [Act.put, List.setIfInBounds_toArray, List.set_cons_zero, List.set_cons_succ, i64_w, i32_w]
        rfl
      refine pure_ (i := 16) (N := some 81) (v := undef) (a' := ?_) #[true, true, true, true, true, true, true, true, true, true, true, true, true, true, true, true, true, false, false, false, false, false, false, false, false, false, false] rfl rfl (any_of HT_.out (by kernel_rfl)) (fun _ _ _ h => h) (Or.inr ⟨by rfl, rfl⟩) ?_ ?_
      rotate_left
      · simp only [Act.put, List.setIfInBounds_toArray, List.set_cons_zero, List.set_cons_succ, i64_w, i32_w]
        rfl
      refine pure_ (i := 17) (N := some 82) (v := undef) (a' := ?_) #[true, true, true, true, true, true, true, true, true, true, true, true, true, true, true, true, true, true, false, false, false, false, false, false, false, false, false] rfl rfl (any_of HT_.out (by kernel_rfl)) (fun _ _ _ h => h) (Or.inr ⟨by rfl, rfl⟩) ?_ ?_
      rotate_left
      · simp only [Act.put, List.setIfInBounds_toArray, List.set_cons_zero, List.set_cons_succ, i64_w, i32_w]
        rfl
      refine pure_ (i := 18) (N := some 83) (v := undef) (a' := ?_) #[true, true, true, true, true, true, true, true, true, true, true, true, true, true, true, true, true, true, true, false, false, false, false, false, false, false, false] rfl rfl (any_of HT_.out (by kernel_rfl)) (fun _ _ _ h => h) (Or.inr ⟨by rfl, rfl⟩) ?_ ?_
      rotate_left
      · simp only [Act.put, List.setIfInBounds_toArray, List.set_cons_zero, List.set_cons_succ, i64_w, i32_w]
        rfl
      refine pure_ (i := 19) (N := some 84) (v := undef) (a' := ?_) #[true, true, true, true, true, true, true, true, true, true, true, true, true, true, true, true, true, true, true, true, false, false, false, false, false, false, false] rfl rfl (any_of HT_.out (by kernel_rfl)) (fun _ _ _ h => h) (Or.inr ⟨by rfl, rfl⟩) ?_ ?_
      rotate_left
      · simp only [Act.put, List.setIfInBounds_toArray, List.set_cons_zero, List.set_cons_succ, i64_w, i32_w]
        rfl
      refine pure_ (i := 20) (N := some 85) (v := undef) (a' := ?_) #[true, true, true, true, true, true, true, true, true, true, true, true, true, true, true, true, true, true, true, true, true, false, false, false, false, false, false] rfl rfl (any_of HT_.out (by kernel_rfl)) (fun _ _ _ h => h) (Or.inr ⟨by rfl, rfl⟩) ?_ ?_
      rotate_left
      · simp only [Act.put, List.setIfInBounds_toArray, List.set_cons_zero, List.set_cons_succ, i64_w, i32_w]
        rfl
      refine pure_ (i := 21) (N := some 86) (v := undef) (a' := ?_) #[true, true, true, true, true, true, true, true, true, true, true, true, true, true, true, true, true, true, true, true, true, true, false, false, false, false, false] rfl rfl (any_of HT_.out (by kernel_rfl)) (fun _ _ _ h => h) (Or.inr ⟨by rfl, rfl⟩) ?_ ?_
      rotate_left
      · simp only [Act.put, List.setIfInBounds_toArray, List.set_cons_zero, List.set_cons_succ, i64_w, i32_w]
        rfl
      refine pure_ (i := 22) (N := some 87) (v := undef) (a' := ?_) #[true, true, true, true, true, true, true, true, true, true, true, true, true, true, true, true, true, true, true, true, true, true, true, false, false, false, false] rfl rfl (any_of HT_.out (by kernel_rfl)) (fun _ _ _ h => h) (Or.inr ⟨by rfl, rfl⟩) ?_ ?_
      rotate_left
      · simp only [Act.put, List.setIfInBounds_toArray, List.set_cons_zero, List.set_cons_succ, i64_w, i32_w]
        rfl
      refine pure_ (i := 23) (N := some 88) (v := undef) (a' := ?_) #[true, true, true, true, true, true, true, true, true, true, true, true, true, true, true, true, true, true, true, true, true, true, true, true, false, false, false] rfl rfl (any_of HT_.out (by kernel_rfl)) (fun _ _ _ h => h) (Or.inr ⟨by rfl, rfl⟩) ?_ ?_
      rotate_left
      · simp only [Act.put, List.setIfInBounds_toArray, List.set_cons_zero, List.set_cons_succ, i64_w, i32_w]
        rfl
      refine pure_ (i := 24) (N := some 89) (v := ?_) (a' := ?_) #[true, true, true, true, true, true, true, true, true, true, true, true, true, true, true, true, true, true, true, true, true, true, true, true, true, false, false] rfl rfl (any_of HT_.out (by kernel_rfl)) (fun _ _ _ h => h) (Or.inl ⟨by rfl, ?_⟩) ?_ ?_
      rotate_left
      · intro w'
        go_simp
        with_reducible rfl
      rotate_left
      · simp only [Act.put, List.setIfInBounds_toArray, List.set_cons_zero, List.set_cons_succ, i64_w, i32_w]
        rfl
      refine pure_ (i := 25) (N := some 90) (v := ?_) (a' := ?_) #[true, true, true, true, true, true, true, true, true, true, true, true, true, true, true, true, true, true, true, true, true, true, true, true, true, true, false] rfl rfl (any_of HT_.out (by kernel_rfl)) (fun _ _ _ h => h) (Or.inl ⟨by rfl, ?_⟩) ?_ ?_
      rotate_left
      · intro w'
        go_simp
        with_reducible rfl
      rotate_left
      · simp only [Act.put, List.setIfInBounds_toArray, List.set_cons_zero, List.set_cons_succ, i64_w, i32_w]
        rfl
      refine pure_ (i := 26) (N := some 6) (v := ?_) (a' := ?_) #[true, true, true, true, true, true, true, true, true, true, true, true, true, true, true, true, true, true, true, true, true, true, true, true, true, true, true] rfl rfl (any_of HT_.out (by kernel_rfl)) (fun _ _ _ h => h) (Or.inl ⟨by rfl, ?_⟩) ?_ ?_
      rotate_left
      · intro w'
        go_simp
        with_reducible rfl
      rotate_left
      · simp only [Act.put, List.setIfInBounds_toArray, List.set_cons_zero, List.set_cons_succ, i64_w, i32_w]
        rfl
      refine done_ (done_of HT_.out (by kernel_rfl)) ?_
      try go_wp2
      go_ret
      exact ⟨rfl, HBd.out⟩
    · go_wp2_with fail
      have HBd := Aside0.mk (below_drew1 HB8.out)
      have HRd := Aside0.mk (RowB.drew HR8.out)
      have HZd := Aside0.mk (blk_drew HZ8.out)
      have HYd := Aside0.mk (blk_drew HY8.out)
      clear HB8 HR8 HZ8 HY8
      refine start_ (n := 27) (S := fun w' => w'.cell? ⟨w7.heap.size, 0, none⟩ = some (.int .i64 y0) ∧ w'.cell? ⟨w7.heap.size, 1, none⟩ = some (.int .i64 y1) ∧ w'.cell? ⟨w7.heap.size, 2, none⟩ = some (.int .i64 y2) ∧ w'.cell? ⟨w7.heap.size, 3, none⟩ = some (.int .i64 y3) ∧ w'.cell? ⟨gz, 0, none⟩ = some (.int .i64 z0) ∧ w'.cell? ⟨gz, 1, none⟩ = some (.int .i64 z1) ∧ w'.cell? ⟨gz, 2, none⟩ = some (.int .i64 z2) ∧ w'.cell? ⟨gz, 3, none⟩ = some (.int .i64 z3) ∧ RowB w' g xs2) (ds := []) #[false, false, false, false, false, false, false, false, false, false, false, false, false, false, false, false, false, false, false, false, false, false, false, false, false, false, false] (by kernel_rfl) rfl rfl ⟨(blk_cell HYd.out 0).trans rfl, (blk_cell HYd.out 1).trans rfl, (blk_cell HYd.out 2).trans rfl, (blk_cell HYd.out 3).trans rfl, (blk_cell HZd.out 0).trans rfl, (blk_cell HZd.out 1).trans rfl, (blk_cell HZd.out 2).trans rfl, (blk_cell HZd.out 3).trans rfl, HRd.out⟩ (fun hHeld => ?_)
      refine with_tabW donjonlaw4_LabelTexts.tab13 donjonlaw4_LabelTexts.bits13 (fun HT_ HW_ => ?_)
      generalize World.drew _ = wd at HBd HRd HZd HYd hHeld ⊢
      refine pure_ (i := 0) (N := some 65) (v := ?_) (a' := ?_) #[true, false, false, false, false, false, false, false, false, false, false, false, false, false, false, false, false, false, false, false, false, false, false, false, false, false, false] rfl rfl (any_of HT_.out (by kernel_rfl)) (fun _ _ _ h => h) (Or.inl ⟨by rfl, ?_⟩) ?_ ?_
      rotate_left
      · intro w'
        go_simp
        with_reducible rfl
      rotate_left
      · simp only [Act.put, List.setIfInBounds_toArray, List.set_cons_zero, List.set_cons_succ, i64_w, i32_w]
        rfl
      refine pure_ (i := 1) (N := some 66) (v := ?_) (a' := ?_) #[true, true, false, false, false, false, false, false, false, false, false, false, false, false, false, false, false, false, false, false, false, false, false, false, false, false, false] rfl rfl (any_of HT_.out (by kernel_rfl)) (fun _ _ _ h => h) (Or.inl ⟨by rfl, ?_⟩) ?_ ?_
      rotate_left
      · intro w'
        go_simp
        with_reducible rfl
      rotate_left
      · simp only [Act.put, List.setIfInBounds_toArray, List.set_cons_zero, List.set_cons_succ, i64_w, i32_w]
        rfl
      refine pure_ (i := 2) (N := some 67) (v := ?_) (a' := ?_) #[true, true, true, false, false, false, false, false, false, false, false, false, false, false, false, false, false, false, false, false, false, false, false, false, false, false, false] rfl rfl (any_of HT_.out (by kernel_rfl)) (fun _ _ _ h => h) (Or.inl ⟨by rfl, ?_⟩) ?_ ?_
      rotate_left
      · intro w'
        go_simp
        with_reducible rfl
      rotate_left
      · simp only [Act.put, List.setIfInBounds_toArray, List.set_cons_zero, List.set_cons_succ, i64_w, i32_w]
        rfl
      refine pure_ (i := 3) (N := some 68) (v := undef) (a' := ?_) #[true, true, true, true, false, false, false, false, false, false, false, false, false, false, false, false, false, false, false, false, false, false, false, false, false, false, false] rfl rfl (any_of HT_.out (by kernel_rfl)) (fun _ _ _ h => h) (Or.inr ⟨by rfl, rfl⟩) ?_ ?_
      rotate_left
      · simp only [Act.put, List.setIfInBounds_toArray, List.set_cons_zero, List.set_cons_succ, i64_w, i32_w]
        rfl
      refine pure_ (i := 4) (N := some 69) (v := undef) (a' := ?_) #[true, true, true, true, true, false, false, false, false, false, false, false, false, false, false, false, false, false, false, false, false, false, false, false, false, false, false] rfl rfl (any_of HT_.out (by kernel_rfl)) (fun _ _ _ h => h) (Or.inr ⟨by rfl, rfl⟩) ?_ ?_
      rotate_left
      · simp only [Act.put, List.setIfInBounds_toArray, List.set_cons_zero, List.set_cons_succ, i64_w, i32_w]
        rfl
      refine pure_ (i := 5) (N := some 70) (v := undef) (a' := ?_) #[true, true, true, true, true, true, false, false, false, false, false, false, false, false, false, false, false, false, false, false, false, false, false, false, false, false, false] rfl rfl (any_of HT_.out (by kernel_rfl)) (fun _ _ _ h => h) (Or.inr ⟨by rfl, rfl⟩) ?_ ?_
      rotate_left
      · simp only [Act.put, List.setIfInBounds_toArray, List.set_cons_zero, List.set_cons_succ, i64_w, i32_w]
        rfl
      refine pure_ (i := 6) (N := some 71) (v := undef) (a' := ?_) #[true, true, true, true, true, true, true, false, false, false, false, false, false, false, false, false, false, false, false, false, false, false, false, false, false, false, false] rfl rfl (any_of HT_.out (by kernel_rfl)) (fun _ _ _ h => h) (Or.inr ⟨by rfl, rfl⟩) ?_ ?_
      rotate_left
      · simp only [Act.put, List.setIfInBounds_toArray, List.set_cons_zero, List.set_cons_succ, i64_w, i32_w]
        rfl
      refine pure_ (i := 7) (N := some 72) (v := undef) (a' := ?_) #[true, true, true, true, true, true, true, true, false, false, false, false, false, false, false, false, false, false, false, false, false, false, false, false, false, false, false] rfl rfl (any_of HT_.out (by kernel_rfl)) (fun _ _ _ h => h) (Or.inr ⟨by rfl, rfl⟩) ?_ ?_
      rotate_left
      · simp only [Act.put, List.setIfInBounds_toArray, List.set_cons_zero, List.set_cons_succ, i64_w, i32_w]
        rfl
      refine pure_ (i := 8) (N := some 73) (v := ?_) (a' := ?_) #[true, true, true, true, true, true, true, true, true, false, false, false, false, false, false, false, false, false, false, false, false, false, false, false, false, false, false] rfl rfl (any_of HT_.out (by kernel_rfl)) (fun _ _ _ h => h) (Or.inl ⟨by rfl, ?_⟩) ?_ ?_
      rotate_left
      · intro w'
        go_simp
        with_reducible rfl
      rotate_left
      · simp only [Act.put, List.setIfInBounds_toArray, List.set_cons_zero, List.set_cons_succ, i64_w, i32_w]
        rfl
      refine pure_ (i := 9) (N := some 74) (v := ?_) (a' := ?_) #[true, true, true, true, true, true, true, true, true, true, false, false, false, false, false, false, false, false, false, false, false, false, false, false, false, false, false] rfl rfl (any_of HT_.out (by kernel_rfl)) (fun _ _ _ h => h) (Or.inl ⟨by rfl, ?_⟩) ?_ ?_
      rotate_left
      · intro w'
        go_simp
        with_reducible rfl
      rotate_left
      · simp only [Act.put, List.setIfInBounds_toArray, List.set_cons_zero, List.set_cons_succ, i64_w, i32_w]
        rfl
      refine pure_ (i := 10) (N := some 75) (v := ?_) (a' := ?_) #[true, true, true, true, true, true, true, true, true, true, true, false, false, false, false, false, false, false, false, false, false, false, false, false, false, false, false] rfl rfl (any_of HT_.out (by kernel_rfl)) (fun _ _ _ h => h) (Or.inl ⟨by rfl, ?_⟩) ?_ ?_
      rotate_left
      · intro w'
        go_simp
        with_reducible rfl
      rotate_left
      · simp only [Act.put, List.setIfInBounds_toArray, List.set_cons_zero, List.set_cons_succ, i64_w, i32_w]
        rfl
      refine pure_ (i := 11) (N := some 76) (v := ?_) (a' := ?_) #[true, true, true, true, true, true, true, true, true, true, true, true, false, false, false, false, false, false, false, false, false, false, false, false, false, false, false] rfl rfl (any_of HT_.out (by kernel_rfl)) (fun _ _ _ h => h) (Or.inl ⟨by rfl, ?_⟩) ?_ ?_
      rotate_left
      · intro w'
        go_simp
        with_reducible rfl
      rotate_left
      · simp only [Act.put, List.setIfInBounds_toArray, List.set_cons_zero, List.set_cons_succ, i64_w, i32_w]
        rfl
      refine pure_ (i := 12) (N := some 77) (v := ?_) (a' := ?_) #[true, true, true, true, true, true, true, true, true, true, true, true, true, false, false, false, false, false, false, false, false, false, false, false, false, false, false] rfl rfl (any_of HT_.out (by kernel_rfl)) (fun _ _ _ h => h) (Or.inl ⟨by rfl, ?_⟩) ?_ ?_
      rotate_left
      · intro w'
        go_simp
        with_reducible rfl
      rotate_left
      · simp only [Act.put, List.setIfInBounds_toArray, List.set_cons_zero, List.set_cons_succ, i64_w, i32_w]
        rfl
      refine take_ (i := 13) (N := some 78) (v := ?_) (a' := ?_) #[true, true, true, true, true, true, true, true, true, true, true, true, true, true, false, false, false, false, false, false, false, false, false, false, false, false, false] rfl rfl (take_ofW HT_.out HW_.out (by kernel_rfl)) (fun _ _ _ h => h) (Or.inl ⟨by rfl, ?_⟩) hHeld ?_ ?_
      rotate_left
      · rintro w' ⟨s0, s1, s2, s3, s4, s5, s6, s7, s8⟩
        go_simp
        with_reducible rfl
      rotate_left
      · simp only [Act.put, List.setIfInBounds_toArray, List.set_cons_zero, List.set_cons_succ, i64_w, i32_w]
        rfl
      refine pure_ (i := 15) (N := some 80) (v := ?_) (a' := ?_) #[true, true, true, true, true, true, true, true, true, true, true, true, true, true, false, true, false, false, false, false, false, false, false, false, false, false, false] rfl rfl (any_of HT_.out (by kernel_rfl)) (fun _ _ _ h => h) (Or.inl ⟨by rfl, ?_⟩) ?_ ?_
      rotate_left
      · intro w'
        go_simp
        with_reducible rfl
      rotate_left
      · simp only [Act.put, List.setIfInBounds_toArray, List.set_cons_zero, List.set_cons_succ, i64_w, i32_w]
        rfl
      refine pure_ (i := 16) (N := some 81) (v := ?_) (a' := ?_) #[true, true, true, true, true, true, true, true, true, true, true, true, true, true, false, true, true, false, false, false, false, false, false, false, false, false, false] rfl rfl (any_of HT_.out (by kernel_rfl)) (fun _ _ _ h => h) (Or.inl ⟨by rfl, ?_⟩) ?_ ?_
      rotate_left
      · intro w'
        go_simp
        with_reducible rfl
      rotate_left
      · simp only [Act.put, List.setIfInBounds_toArray, List.set_cons_zero, List.set_cons_succ, i64_w, i32_w]
        rfl
      refine pure_ (i := 17) (N := some 82) (v := ?_) (a' := ?_) #[true, true, true, true, true, true, true, true, true, true, true, true, true, true, false, true, true, true, false, false, false, false, false, false, false, false, false] rfl rfl (any_of HT_.out (by kernel_rfl)) (fun _ _ _ h => h) (Or.inl ⟨by rfl, ?_⟩) ?_ ?_
      rotate_left
      · intro w'
        go_simp
        with_reducible rfl
      rotate_left
      · simp only [Act.put, List.setIfInBounds_toArray, List.set_cons_zero, List.set_cons_succ, i64_w, i32_w]
        rfl
      refine pure_ (i := 18) (N := some 83) (v := ?_) (a' := ?_) #[true, true, true, true, true, true, true, true, true, true, true, true, true, true, false, true, true, true, true, false, false, false, false, false, false, false, false] rfl rfl (any_of HT_.out (by kernel_rfl)) (fun _ _ _ h => h) (Or.inl ⟨by rfl, ?_⟩) ?_ ?_
      rotate_left
      · intro w'
        go_simp
        with_reducible rfl
      rotate_left
      · simp only [Act.put, List.setIfInBounds_toArray, List.set_cons_zero, List.set_cons_succ, i64_w, i32_w]
        rfl
      refine pure_ (i := 19) (N := some 84) (v := ?_) (a' := ?_) #[true, true, true, true, true, true, true, true, true, true, true, true, true, true, false, true, true, true, true, true, false, false, false, false, false, false, false] rfl rfl (any_of HT_.out (by kernel_rfl)) (fun _ _ _ h => h) (Or.inl ⟨by rfl, ?_⟩) ?_ ?_
      rotate_left
      · intro w'
        go_simp
        with_reducible rfl
      rotate_left
      · simp only [Act.put, List.setIfInBounds_toArray, List.set_cons_zero, List.set_cons_succ, i64_w, i32_w]
        rfl
      refine pure_ (i := 20) (N := some 85) (v := ?_) (a' := ?_) #[true, true, true, true, true, true, true, true, true, true, true, true, true, true, false, true, true, true, true, true, true, false, false, false, false, false, false] rfl rfl (any_of HT_.out (by kernel_rfl)) (fun _ _ _ h => h) (Or.inl ⟨by rfl, ?_⟩) ?_ ?_
      rotate_left
      · intro w'
        go_simp
        with_reducible rfl
      rotate_left
      · simp only [Act.put, List.setIfInBounds_toArray, List.set_cons_zero, List.set_cons_succ, i64_w, i32_w]
        rfl
      refine pure_ (i := 21) (N := some 86) (v := ?_) (a' := ?_) #[true, true, true, true, true, true, true, true, true, true, true, true, true, true, false, true, true, true, true, true, true, true, false, false, false, false, false] rfl rfl (any_of HT_.out (by kernel_rfl)) (fun _ _ _ h => h) (Or.inl ⟨by rfl, ?_⟩) ?_ ?_
      rotate_left
      · intro w'
        go_simp
        with_reducible rfl
      rotate_left
      · simp only [Act.put, List.setIfInBounds_toArray, List.set_cons_zero, List.set_cons_succ, i64_w, i32_w]
        rfl
      refine pure_ (i := 22) (N := some 87) (v := ?_) (a' := ?_) #[true, true, true, true, true, true, true, true, true, true, true, true, true, true, false, true, true, true, true, true, true, true, true, false, false, false, false] rfl rfl (any_of HT_.out (by kernel_rfl)) (fun _ _ _ h => h) (Or.inl ⟨by rfl, ?_⟩) ?_ ?_
      rotate_left
      · intro w'
        go_simp
        with_reducible rfl
      rotate_left
      · simp only [Act.put, List.setIfInBounds_toArray, List.set_cons_zero, List.set_cons_succ, i64_w, i32_w]
        rfl
      refine one_ (i := 14) (N := some 79) #[true, true, true, true, true, true, true, true, true, true, true, true, true, true, true, true, true, true, true, true, true, true, true, false, false, false, false] rfl rfl (one_of HT_.out (by kernel_rfl)) (by decide) (fun K hK => ?_)
      refine goes_ Tryd.func23 (by kernel_rfl) rfl #[.agg #[.int .i64 z0, .int .i64 z1, .int .i64 z2, .int .i64 z3]] (by rfl) rfl rfl (by (try simp only [List.map_toArray, List.map_cons, List.map_nil]); first | done | rfl) ?_
      with_reducible refine (label_Text.calls z0 z1 z2 z3 tz _ (HG.out.base.below HBd.out) HTZ.out).mono ?_
      rintro e w10 ⟨rfl, hb_⟩
      have HBw10 := Aside0.mk (below_step HBd.out hb_)
      have HRw10 := Aside0.mk (RowB.below HRd.out hb_)
      have HZw10 := Aside0.mk (blk_below HZd.out hb_)
      have HYw10 := Aside0.mk (blk_below HYd.out hb_)
      clear hb_
      refine ⟨_, rfl, ?_⟩
      refine hK.out _ _ ⟨(blk_cell HYw10.out 0).trans rfl, (blk_cell HYw10.out 1).trans rfl, (blk_cell HYw10.out 2).trans rfl, (blk_cell HYw10.out 3).trans rfl, (blk_cell HZw10.out 0).trans rfl, (blk_cell HZw10.out 1).trans rfl, (blk_cell HZw10.out 2).trans rfl, (blk_cell HZw10.out 3).trans rfl, HRw10.out⟩ (fun hHeld => ?_)
      clear hK K
      refine norm_ (a' := ?_) ?_ ?_
      rotate_left
      · show Act.put _ (some 79) _ = _
        simp only [Act.put, List.setIfInBounds_toArray, List.set_cons_zero, List.set_cons_succ, i64_w, i32_w]
        rfl
      refine pure_ (i := 23) (N := some 88) (v := ?_) (a' := ?_) #[true, true, true, true, true, true, true, true, true, true, true, true, true, true, true, true, true, true, true, true, true, true, true, true, false, false, false] rfl rfl (any_of HT_.out (by kernel_rfl)) (fun _ _ _ h => h) (Or.inl ⟨by rfl, ?_⟩) ?_ ?_
      rotate_left
      · intro w'
        go_simp
        with_reducible rfl
      rotate_left
      · simp only [Act.put, List.setIfInBounds_toArray, List.set_cons_zero, List.set_cons_succ, i64_w, i32_w]
        rfl
      refine pure_ (i := 24) (N := some 89) (v := ?_) (a' := ?_) #[true, true, true, true, true, true, true, true, true, true, true, true, true, true, true, true, true, true, true, true, true, true, true, true, true, false, false] rfl rfl (any_of HT_.out (by kernel_rfl)) (fun _ _ _ h => h) (Or.inl ⟨by rfl, ?_⟩) ?_ ?_
      rotate_left
      · intro w'
        go_simp
        with_reducible rfl
      rotate_left
      · simp only [Act.put, List.setIfInBounds_toArray, List.set_cons_zero, List.set_cons_succ, i64_w, i32_w]
        rfl
      refine pure_ (i := 25) (N := some 90) (v := ?_) (a' := ?_) #[true, true, true, true, true, true, true, true, true, true, true, true, true, true, true, true, true, true, true, true, true, true, true, true, true, true, false] rfl rfl (any_of HT_.out (by kernel_rfl)) (fun _ _ _ h => h) (Or.inl ⟨by rfl, ?_⟩) ?_ ?_
      rotate_left
      · intro w'
        go_simp
        with_reducible rfl
      rotate_left
      · simp only [Act.put, List.setIfInBounds_toArray, List.set_cons_zero, List.set_cons_succ, i64_w, i32_w]
        rfl
      refine pure_ (i := 26) (N := some 6) (v := ?_) (a' := ?_) #[true, true, true, true, true, true, true, true, true, true, true, true, true, true, true, true, true, true, true, true, true, true, true, true, true, true, true] rfl rfl (any_of HT_.out (by kernel_rfl)) (fun _ _ _ h => h) (Or.inl ⟨by rfl, ?_⟩) ?_ ?_
      rotate_left
      · intro w'
        go_simp
        with_reducible rfl
      rotate_left
      · simp only [Act.put, List.setIfInBounds_toArray, List.set_cons_zero, List.set_cons_succ, i64_w, i32_w]
        rfl
      refine done_ (done_of HT_.out (by kernel_rfl)) ?_
      try go_wp2
      go_ret
      exact ⟨rfl, HBw10.out⟩
    · go_wp2_with fail
      have HBd := Aside0.mk (below_drew1 HB8.out)
      have HRd := Aside0.mk (RowB.drew HR8.out)
      have HZd := Aside0.mk (blk_drew HZ8.out)
      have HYd := Aside0.mk (blk_drew HY8.out)
      clear HB8 HR8 HZ8 HY8
      refine start_ (n := 27) (S := fun w' => w'.cell? ⟨w7.heap.size, 0, none⟩ = some (.int .i64 y0) ∧ w'.cell? ⟨w7.heap.size, 1, none⟩ = some (.int .i64 y1) ∧ w'.cell? ⟨w7.heap.size, 2, none⟩ = some (.int .i64 y2) ∧ w'.cell? ⟨w7.heap.size, 3, none⟩ = some (.int .i64 y3) ∧ w'.cell? ⟨gz, 0, none⟩ = some (.int .i64 z0) ∧ w'.cell? ⟨gz, 1, none⟩ = some (.int .i64 z1) ∧ w'.cell? ⟨gz, 2, none⟩ = some (.int .i64 z2) ∧ w'.cell? ⟨gz, 3, none⟩ = some (.int .i64 z3) ∧ RowB w' g xs2) (ds := []) #[false, false, false, false, false, false, false, false, false, false, false, false, false, false, false, false, false, false, false, false, false, false, false, false, false, false, false] (by kernel_rfl) rfl rfl ⟨(blk_cell HYd.out 0).trans rfl, (blk_cell HYd.out 1).trans rfl, (blk_cell HYd.out 2).trans rfl, (blk_cell HYd.out 3).trans rfl, (blk_cell HZd.out 0).trans rfl, (blk_cell HZd.out 1).trans rfl, (blk_cell HZd.out 2).trans rfl, (blk_cell HZd.out 3).trans rfl, HRd.out⟩ (fun hHeld => ?_)
      refine with_tabW donjonlaw4_LabelTexts.tab13 donjonlaw4_LabelTexts.bits13 (fun HT_ HW_ => ?_)
      generalize World.drew _ = wd at HBd HRd HZd HYd hHeld ⊢
      refine pure_ (i := 0) (N := some 65) (v := ?_) (a' := ?_) #[true, false, false, false, false, false, false, false, false, false, false, false, false, false, false, false, false, false, false, false, false, false, false, false, false, false, false] rfl rfl (any_of HT_.out (by kernel_rfl)) (fun _ _ _ h => h) (Or.inl ⟨by rfl, ?_⟩) ?_ ?_
      rotate_left
      · intro w'
        go_simp
        with_reducible rfl
      rotate_left
      · simp only [Act.put, List.setIfInBounds_toArray, List.set_cons_zero, List.set_cons_succ, i64_w, i32_w]
        rfl
      refine pure_ (i := 1) (N := some 66) (v := ?_) (a' := ?_) #[true, true, false, false, false, false, false, false, false, false, false, false, false, false, false, false, false, false, false, false, false, false, false, false, false, false, false] rfl rfl (any_of HT_.out (by kernel_rfl)) (fun _ _ _ h => h) (Or.inl ⟨by rfl, ?_⟩) ?_ ?_
      rotate_left
      · intro w'
        go_simp
        with_reducible rfl
      rotate_left
      · simp only [Act.put, List.setIfInBounds_toArray, List.set_cons_zero, List.set_cons_succ, i64_w, i32_w]
        rfl
      refine pure_ (i := 2) (N := some 67) (v := ?_) (a' := ?_) #[true, true, true, false, false, false, false, false, false, false, false, false, false, false, false, false, false, false, false, false, false, false, false, false, false, false, false] rfl rfl (any_of HT_.out (by kernel_rfl)) (fun _ _ _ h => h) (Or.inl ⟨by rfl, ?_⟩) ?_ ?_
      rotate_left
      · intro w'
        go_simp
        with_reducible rfl
      rotate_left
      · simp only [Act.put, List.setIfInBounds_toArray, List.set_cons_zero, List.set_cons_succ, i64_w, i32_w]
        rfl
      refine take_ (i := 3) (N := some 68) (v := ?_) (a' := ?_) #[true, true, true, true, false, false, false, false, false, false, false, false, false, false, false, false, false, false, false, false, false, false, false, false, false, false, false] rfl rfl (take_ofW HT_.out HW_.out (by kernel_rfl)) (fun _ _ _ h => h) (Or.inl ⟨by rfl, ?_⟩) hHeld ?_ ?_
      rotate_left
      · rintro w' ⟨s0, s1, s2, s3, s4, s5, s6, s7, s8⟩
        go_simp
        with_reducible rfl
      rotate_left
      · simp only [Act.put, List.setIfInBounds_toArray, List.set_cons_zero, List.set_cons_succ, i64_w, i32_w]
        rfl
      refine pure_ (i := 5) (N := some 70) (v := ?_) (a' := ?_) #[true, true, true, true, false, true, false, false, false, false, false, false, false, false, false, false, false, false, false, false, false, false, false, false, false, false, false] rfl rfl (any_of HT_.out (by kernel_rfl)) (fun _ _ _ h => h) (Or.inl ⟨by rfl, ?_⟩) ?_ ?_
      rotate_left
      · intro w'
        go_simp
        with_reducible rfl
      rotate_left
      · simp only [Act.put, List.setIfInBounds_toArray, List.set_cons_zero, List.set_cons_succ, i64_w, i32_w]
        rfl
      refine take_ (i := 6) (N := some 71) (v := ?_) (a' := ?_) #[true, true, true, true, false, true, true, false, false, false, false, false, false, false, false, false, false, false, false, false, false, false, false, false, false, false, false] rfl rfl (take_ofW HT_.out HW_.out (by kernel_rfl)) (fun _ _ _ h => h) (Or.inl ⟨by rfl, ?_⟩) hHeld ?_ ?_
      rotate_left
      · rintro w' ⟨s0, s1, s2, s3, s4, s5, s6, s7, s8⟩
        have hcv := HCV.out w' s8
        go_simp
        with_reducible rfl
      rotate_left
      · simp only [Act.put, List.setIfInBounds_toArray, List.set_cons_zero, List.set_cons_succ, i64_w, i32_w]
        rfl
      refine one_ (i := 4) (N := some 69) #[true, true, true, true, true, true, true, false, false, false, false, false, false, false, false, false, false, false, false, false, false, false, false, false, false, false, false] rfl rfl (one_of HT_.out (by kernel_rfl)) (by decide) (fun K hK => ?_)
      refine goes_ Tryd.func23 (by kernel_rfl) rfl #[.agg #[.int .i64 y0, .int .i64 y1, .int .i64 y2, .int .i64 y3]] (by rfl) rfl rfl (by (try simp only [List.map_toArray, List.map_cons, List.map_nil]); first | done | rfl) ?_
      with_reducible refine (label_Text.calls y0 y1 y2 y3 ty _ (HG.out.base.below HBd.out) HTY.out).mono ?_
      rintro e w9 ⟨rfl, hb_⟩
      have HBw9 := Aside0.mk (below_step HBd.out hb_)
      have HRw9 := Aside0.mk (RowB.below HRd.out hb_)
      have HZw9 := Aside0.mk (blk_below HZd.out hb_)
      have HYw9 := Aside0.mk (blk_below HYd.out hb_)
      clear hb_
      refine ⟨_, rfl, ?_⟩
      refine hK.out _ _ ⟨(blk_cell HYw9.out 0).trans rfl, (blk_cell HYw9.out 1).trans rfl, (blk_cell HYw9.out 2).trans rfl, (blk_cell HYw9.out 3).trans rfl, (blk_cell HZw9.out 0).trans rfl, (blk_cell HZw9.out 1).trans rfl, (blk_cell HZw9.out 2).trans rfl, (blk_cell HZw9.out 3).trans rfl, HRw9.out⟩ (fun hHeld => ?_)
      clear hK K
      refine norm_ (a' := ?_) ?_ ?_
      rotate_left
      · show Act.put _ (some 69) _ = _
        simp only [Act.put, List.setIfInBounds_toArray, List.set_cons_zero, List.set_cons_succ, i64_w, i32_w]
        rfl
      refine pure_ (i := 7) (N := some 72) (v := ?_) (a' := ?_) #[true, true, true, true, true, true, true, true, false, false, false, false, false, false, false, false, false, false, false, false, false, false, false, false, false, false, false] rfl rfl (any_of HT_.out (by kernel_rfl)) (fun _ _ _ h => h) (Or.inl ⟨by rfl, ?_⟩) ?_ ?_
      rotate_left
      · intro w'
        go_simp
        with_reducible rfl
      rotate_left
      · simp only [Act.put, List.setIfInBounds_toArray, List.set_cons_zero, List.set_cons_succ, i64_w, i32_w]
        rfl
      refine pure_ (i := 8) (N := some 73) (v := ?_) (a' := ?_) #[true, true, true, true, true, true, true, true, true, false, false, false, false, false, false, false, false, false, false, false, false, false, false, false, false, false, false] rfl rfl (any_of HT_.out (by kernel_rfl)) (fun _ _ _ h => h) (Or.inl ⟨by rfl, ?_⟩) ?_ ?_
      rotate_left
      · intro w'
        go_simp
        with_reducible rfl
      rotate_left
      · simp only [Act.put, List.setIfInBounds_toArray, List.set_cons_zero, List.set_cons_succ, i64_w, i32_w]
        rfl
      refine pure_ (i := 9) (N := some 74) (v := ?_) (a' := ?_) #[true, true, true, true, true, true, true, true, true, true, false, false, false, false, false, false, false, false, false, false, false, false, false, false, false, false, false] rfl rfl (any_of HT_.out (by kernel_rfl)) (fun _ _ _ h => h) (Or.inl ⟨by rfl, ?_⟩) ?_ ?_
      rotate_left
      · intro w'
        go_simp
        with_reducible rfl
      rotate_left
      · simp only [Act.put, List.setIfInBounds_toArray, List.set_cons_zero, List.set_cons_succ, i64_w, i32_w]
        rfl
      refine pure_ (i := 10) (N := some 75) (v := ?_) (a' := ?_) #[true, true, true, true, true, true, true, true, true, true, true, false, false, false, false, false, false, false, false, false, false, false, false, false, false, false, false] rfl rfl (any_of HT_.out (by kernel_rfl)) (fun _ _ _ h => h) (Or.inl ⟨by rfl, ?_⟩) ?_ ?_
      rotate_left
      · intro w'
        go_simp
        with_reducible rfl
      rotate_left
      · simp only [Act.put, List.setIfInBounds_toArray, List.set_cons_zero, List.set_cons_succ, i64_w, i32_w]
        rfl
      refine pure_ (i := 11) (N := some 76) (v := ?_) (a' := ?_) #[true, true, true, true, true, true, true, true, true, true, true, true, false, false, false, false, false, false, false, false, false, false, false, false, false, false, false] rfl rfl (any_of HT_.out (by kernel_rfl)) (fun _ _ _ h => h) (Or.inl ⟨by rfl, ?_⟩) ?_ ?_
      rotate_left
      · intro w'
        go_simp
        with_reducible rfl
      rotate_left
      · simp only [Act.put, List.setIfInBounds_toArray, List.set_cons_zero, List.set_cons_succ, i64_w, i32_w]
        rfl
      refine pure_ (i := 12) (N := some 77) (v := ?_) (a' := ?_) #[true, true, true, true, true, true, true, true, true, true, true, true, true, false, false, false, false, false, false, false, false, false, false, false, false, false, false] rfl rfl (any_of HT_.out (by kernel_rfl)) (fun _ _ _ h => h) (Or.inl ⟨by rfl, ?_⟩) ?_ ?_
      rotate_left
      · intro w'
        go_simp
        with_reducible rfl
      rotate_left
      · simp only [Act.put, List.setIfInBounds_toArray, List.set_cons_zero, List.set_cons_succ, i64_w, i32_w]
        rfl
      refine pure_ (i := 13) (N := some 78) (v := undef) (a' := ?_) #[true, true, true, true, true, true, true, true, true, true, true, true, true, true, false, false, false, false, false, false, false, false, false, false, false, false, false] rfl rfl (any_of HT_.out (by kernel_rfl)) (fun _ _ _ h => h) (Or.inr ⟨by rfl, rfl⟩) ?_ ?_
      rotate_left
      · simp only [Act.put, List.setIfInBounds_toArray, List.set_cons_zero, List.set_cons_succ, i64_w, i32_w]
        rfl
      refine pure_ (i := 14) (N := some 79) (v := undef) (a' := ?_) #[true, true, true, true, true, true, true, true, true, true, true, true, true, true, true, false, false, false, false, false, false, false, false, false, false, false, false] rfl rfl (any_of HT_.out (by kernel_rfl)) (fun _ _ _ h => h) (Or.inr ⟨by rfl, rfl⟩) ?_ ?_
      rotate_left
      · simp only [Act.put, List.setIfInBounds_toArray, List.set_cons_zero, List.set_cons_succ, i64_w, i32_w]
        rfl
      refine pure_ (i := 15) (N := some 80) (v := undef) (a' := ?_) #[true, true, true, true, true, true, true, true, true, true, true, true, true, true, true, true, false, false, false, false, false, false, false, false, false, false, false] rfl rfl (any_of HT_.out (by kernel_rfl)) (fun _ _ _ h => h) (Or.inr ⟨by rfl, rfl⟩) ?_ ?_
      rotate_left
      · simp only [Act.put, List.setIfInBounds_toArray, List.set_cons_zero, List.set_cons_succ, i64_w, i32_w]
        rfl
      refine pure_ (i := 16) (N := some 81) (v := undef) (a' := ?_) #[true, true, true, true, true, true, true, true, true, true, true, true, true, true, true, true, true, false, false, false, false, false, false, false, false, false, false] rfl rfl (any_of HT_.out (by kernel_rfl)) (fun _ _ _ h => h) (Or.inr ⟨by rfl, rfl⟩) ?_ ?_
      rotate_left
      · simp only [Act.put, List.setIfInBounds_toArray, List.set_cons_zero, List.set_cons_succ, i64_w, i32_w]
        rfl
      refine pure_ (i := 17) (N := some 82) (v := undef) (a' := ?_) #[true, true, true, true, true, true, true, true, true, true, true, true, true, true, true, true, true, true, false, false, false, false, false, false, false, false, false] rfl rfl (any_of HT_.out (by kernel_rfl)) (fun _ _ _ h => h) (Or.inr ⟨by rfl, rfl⟩) ?_ ?_
      rotate_left
      · simp only [Act.put, List.setIfInBounds_toArray, List.set_cons_zero, List.set_cons_succ, i64_w, i32_w]
        rfl
      refine pure_ (i := 18) (N := some 83) (v := undef) (a' := ?_) #[true, true, true, true, true, true, true, true, true, true, true, true, true, true, true, true, true, true, true, false, false, false, false, false, false, false, false] rfl rfl (any_of HT_.out (by kernel_rfl)) (fun _ _ _ h => h) (Or.inr ⟨by rfl, rfl⟩) ?_ ?_
      rotate_left
      · simp only [Act.put, List.setIfInBounds_toArray, List.set_cons_zero, List.set_cons_succ, i64_w, i32_w]
        rfl
      refine pure_ (i := 19) (N := some 84) (v := undef) (a' := ?_) #[true, true, true, true, true, true, true, true, true, true, true, true, true, true, true, true, true, true, true, true, false, false, false, false, false, false, false] rfl rfl (any_of HT_.out (by kernel_rfl)) (fun _ _ _ h => h) (Or.inr ⟨by rfl, rfl⟩) ?_ ?_
      rotate_left
      · simp only [Act.put, List.setIfInBounds_toArray, List.set_cons_zero, List.set_cons_succ, i64_w, i32_w]
        rfl
      refine pure_ (i := 20) (N := some 85) (v := undef) (a' := ?_) #[true, true, true, true, true, true, true, true, true, true, true, true, true, true, true, true, true, true, true, true, true, false, false, false, false, false, false] rfl rfl (any_of HT_.out (by kernel_rfl)) (fun _ _ _ h => h) (Or.inr ⟨by rfl, rfl⟩) ?_ ?_
      rotate_left
      · simp only [Act.put, List.setIfInBounds_toArray, List.set_cons_zero, List.set_cons_succ, i64_w, i32_w]
        rfl
      refine pure_ (i := 21) (N := some 86) (v := undef) (a' := ?_) #[true, true, true, true, true, true, true, true, true, true, true, true, true, true, true, true, true, true, true, true, true, true, false, false, false, false, false] rfl rfl (any_of HT_.out (by kernel_rfl)) (fun _ _ _ h => h) (Or.inr ⟨by rfl, rfl⟩) ?_ ?_
      rotate_left
      · simp only [Act.put, List.setIfInBounds_toArray, List.set_cons_zero, List.set_cons_succ, i64_w, i32_w]
        rfl
      refine pure_ (i := 22) (N := some 87) (v := undef) (a' := ?_) #[true, true, true, true, true, true, true, true, true, true, true, true, true, true, true, true, true, true, true, true, true, true, true, false, false, false, false] rfl rfl (any_of HT_.out (by kernel_rfl)) (fun _ _ _ h => h) (Or.inr ⟨by rfl, rfl⟩) ?_ ?_
      rotate_left
      · simp only [Act.put, List.setIfInBounds_toArray, List.set_cons_zero, List.set_cons_succ, i64_w, i32_w]
        rfl
      refine pure_ (i := 23) (N := some 88) (v := undef) (a' := ?_) #[true, true, true, true, true, true, true, true, true, true, true, true, true, true, true, true, true, true, true, true, true, true, true, true, false, false, false] rfl rfl (any_of HT_.out (by kernel_rfl)) (fun _ _ _ h => h) (Or.inr ⟨by rfl, rfl⟩) ?_ ?_
      rotate_left
      · simp only [Act.put, List.setIfInBounds_toArray, List.set_cons_zero, List.set_cons_succ, i64_w, i32_w]
        rfl
      refine pure_ (i := 24) (N := some 89) (v := ?_) (a' := ?_) #[true, true, true, true, true, true, true, true, true, true, true, true, true, true, true, true, true, true, true, true, true, true, true, true, true, false, false] rfl rfl (any_of HT_.out (by kernel_rfl)) (fun _ _ _ h => h) (Or.inl ⟨by rfl, ?_⟩) ?_ ?_
      rotate_left
      · intro w'
        go_simp
        with_reducible rfl
      rotate_left
      · simp only [Act.put, List.setIfInBounds_toArray, List.set_cons_zero, List.set_cons_succ, i64_w, i32_w]
        rfl
      refine pure_ (i := 25) (N := some 90) (v := ?_) (a' := ?_) #[true, true, true, true, true, true, true, true, true, true, true, true, true, true, true, true, true, true, true, true, true, true, true, true, true, true, false] rfl rfl (any_of HT_.out (by kernel_rfl)) (fun _ _ _ h => h) (Or.inl ⟨by rfl, ?_⟩) ?_ ?_
      rotate_left
      · intro w'
        go_simp
        with_reducible rfl
      rotate_left
      · simp only [Act.put, List.setIfInBounds_toArray, List.set_cons_zero, List.set_cons_succ, i64_w, i32_w]
        rfl
      refine pure_ (i := 26) (N := some 6) (v := ?_) (a' := ?_) #[true, true, true, true, true, true, true, true, true, true, true, true, true, true, true, true, true, true, true, true, true, true, true, true, true, true, true] rfl rfl (any_of HT_.out (by kernel_rfl)) (fun _ _ _ h => h) (Or.inl ⟨by rfl, ?_⟩) ?_ ?_
      rotate_left
      · intro w'
        go_simp
        with_reducible rfl
      rotate_left
      · simp only [Act.put, List.setIfInBounds_toArray, List.set_cons_zero, List.set_cons_succ, i64_w, i32_w]
        rfl
      refine done_ (done_of HT_.out (by kernel_rfl)) ?_
      try go_wp2
      go_ret
      exact ⟨rfl, HBw9.out⟩
    · go_wp2_with fail
      have HBd := Aside0.mk (below_drew1 HB8.out)
      have HRd := Aside0.mk (RowB.drew HR8.out)
      have HZd := Aside0.mk (blk_drew HZ8.out)
      have HYd := Aside0.mk (blk_drew HY8.out)
      clear HB8 HR8 HZ8 HY8
      refine start_ (n := 27) (S := fun w' => w'.cell? ⟨w7.heap.size, 0, none⟩ = some (.int .i64 y0) ∧ w'.cell? ⟨w7.heap.size, 1, none⟩ = some (.int .i64 y1) ∧ w'.cell? ⟨w7.heap.size, 2, none⟩ = some (.int .i64 y2) ∧ w'.cell? ⟨w7.heap.size, 3, none⟩ = some (.int .i64 y3) ∧ w'.cell? ⟨gz, 0, none⟩ = some (.int .i64 z0) ∧ w'.cell? ⟨gz, 1, none⟩ = some (.int .i64 z1) ∧ w'.cell? ⟨gz, 2, none⟩ = some (.int .i64 z2) ∧ w'.cell? ⟨gz, 3, none⟩ = some (.int .i64 z3) ∧ RowB w' g xs2) (ds := []) #[false, false, false, false, false, false, false, false, false, false, false, false, false, false, false, false, false, false, false, false, false, false, false, false, false, false, false] (by kernel_rfl) rfl rfl ⟨(blk_cell HYd.out 0).trans rfl, (blk_cell HYd.out 1).trans rfl, (blk_cell HYd.out 2).trans rfl, (blk_cell HYd.out 3).trans rfl, (blk_cell HZd.out 0).trans rfl, (blk_cell HZd.out 1).trans rfl, (blk_cell HZd.out 2).trans rfl, (blk_cell HZd.out 3).trans rfl, HRd.out⟩ (fun hHeld => ?_)
      refine with_tabW donjonlaw4_LabelTexts.tab13 donjonlaw4_LabelTexts.bits13 (fun HT_ HW_ => ?_)
      generalize World.drew _ = wd at HBd HRd HZd HYd hHeld ⊢
      refine pure_ (i := 0) (N := some 65) (v := ?_) (a' := ?_) #[true, false, false, false, false, false, false, false, false, false, false, false, false, false, false, false, false, false, false, false, false, false, false, false, false, false, false] rfl rfl (any_of HT_.out (by kernel_rfl)) (fun _ _ _ h => h) (Or.inl ⟨by rfl, ?_⟩) ?_ ?_
      rotate_left
      · intro w'
        go_simp
        with_reducible rfl
      rotate_left
      · simp only [Act.put, List.setIfInBounds_toArray, List.set_cons_zero, List.set_cons_succ, i64_w, i32_w]
        rfl
      refine pure_ (i := 1) (N := some 66) (v := ?_) (a' := ?_) #[true, true, false, false, false, false, false, false, false, false, false, false, false, false, false, false, false, false, false, false, false, false, false, false, false, false, false] rfl rfl (any_of HT_.out (by kernel_rfl)) (fun _ _ _ h => h) (Or.inl ⟨by rfl, ?_⟩) ?_ ?_
      rotate_left
      · intro w'
        go_simp
        with_reducible rfl
      rotate_left
      · simp only [Act.put, List.setIfInBounds_toArray, List.set_cons_zero, List.set_cons_succ, i64_w, i32_w]
        rfl
      refine pure_ (i := 2) (N := some 67) (v := ?_) (a' := ?_) #[true, true, true, false, false, false, false, false, false, false, false, false, false, false, false, false, false, false, false, false, false, false, false, false, false, false, false] rfl rfl (any_of HT_.out (by kernel_rfl)) (fun _ _ _ h => h) (Or.inl ⟨by rfl, ?_⟩) ?_ ?_
      rotate_left
      · intro w'
        go_simp
        with_reducible rfl
      rotate_left
      · simp only [Act.put, List.setIfInBounds_toArray, List.set_cons_zero, List.set_cons_succ, i64_w, i32_w]
        rfl
      refine take_ (i := 3) (N := some 68) (v := ?_) (a' := ?_) #[true, true, true, true, false, false, false, false, false, false, false, false, false, false, false, false, false, false, false, false, false, false, false, false, false, false, false] rfl rfl (take_ofW HT_.out HW_.out (by kernel_rfl)) (fun _ _ _ h => h) (Or.inl ⟨by rfl, ?_⟩) hHeld ?_ ?_
      rotate_left
      · rintro w' ⟨s0, s1, s2, s3, s4, s5, s6, s7, s8⟩
        go_simp
        with_reducible rfl
      rotate_left
      · simp only [Act.put, List.setIfInBounds_toArray, List.set_cons_zero, List.set_cons_succ, i64_w, i32_w]
        rfl
      refine pure_ (i := 5) (N := some 70) (v := ?_) (a' := ?_) #[true, true, true, true, false, true, false, false, false, false, false, false, false, false, false, false, false, false, false, false, false, false, false, false, false, false, false] rfl rfl (any_of HT_.out (by kernel_rfl)) (fun _ _ _ h => h) (Or.inl ⟨by rfl, ?_⟩) ?_ ?_
      rotate_left
      · intro w'
        go_simp
        with_reducible rfl
      rotate_left
      · simp only [Act.put, List.setIfInBounds_toArray, List.set_cons_zero, List.set_cons_succ, i64_w, i32_w]
        rfl
      refine take_ (i := 6) (N := some 71) (v := ?_) (a' := ?_) #[true, true, true, true, false, true, true, false, false, false, false, false, false, false, false, false, false, false, false, false, false, false, false, false, false, false, false] rfl rfl (take_ofW HT_.out HW_.out (by kernel_rfl)) (fun _ _ _ h => h) (Or.inl ⟨by rfl, ?_⟩) hHeld ?_ ?_
      rotate_left
      · rintro w' ⟨s0, s1, s2, s3, s4, s5, s6, s7, s8⟩
        have hcv := HCV.out w' s8
        go_simp
        with_reducible rfl
      rotate_left
      · simp only [Act.put, List.setIfInBounds_toArray, List.set_cons_zero, List.set_cons_succ, i64_w, i32_w]
        rfl
      refine one_ (i := 4) (N := some 69) #[true, true, true, true, true, true, true, false, false, false, false, false, false, false, false, false, false, false, false, false, false, false, false, false, false, false, false] rfl rfl (one_of HT_.out (by kernel_rfl)) (by decide) (fun K hK => ?_)
      refine goes_ Tryd.func23 (by kernel_rfl) rfl #[.agg #[.int .i64 y0, .int .i64 y1, .int .i64 y2, .int .i64 y3]] (by rfl) rfl rfl (by (try simp only [List.map_toArray, List.map_cons, List.map_nil]); first | done | rfl) ?_
      with_reducible refine (label_Text.calls y0 y1 y2 y3 ty _ (HG.out.base.below HBd.out) HTY.out).mono ?_
      rintro e w9 ⟨rfl, hb_⟩
      have HBw9 := Aside0.mk (below_step HBd.out hb_)
      have HRw9 := Aside0.mk (RowB.below HRd.out hb_)
      have HZw9 := Aside0.mk (blk_below HZd.out hb_)
      have HYw9 := Aside0.mk (blk_below HYd.out hb_)
      clear hb_
      refine ⟨_, rfl, ?_⟩
      refine hK.out _ _ ⟨(blk_cell HYw9.out 0).trans rfl, (blk_cell HYw9.out 1).trans rfl, (blk_cell HYw9.out 2).trans rfl, (blk_cell HYw9.out 3).trans rfl, (blk_cell HZw9.out 0).trans rfl, (blk_cell HZw9.out 1).trans rfl, (blk_cell HZw9.out 2).trans rfl, (blk_cell HZw9.out 3).trans rfl, HRw9.out⟩ (fun hHeld => ?_)
      clear hK K
      refine norm_ (a' := ?_) ?_ ?_
      rotate_left
      · show Act.put _ (some 69) _ = _
        simp only [Act.put, List.setIfInBounds_toArray, List.set_cons_zero, List.set_cons_succ, i64_w, i32_w]
        rfl
      refine pure_ (i := 7) (N := some 72) (v := ?_) (a' := ?_) #[true, true, true, true, true, true, true, true, false, false, false, false, false, false, false, false, false, false, false, false, false, false, false, false, false, false, false] rfl rfl (any_of HT_.out (by kernel_rfl)) (fun _ _ _ h => h) (Or.inl ⟨by rfl, ?_⟩) ?_ ?_
      rotate_left
      · intro w'
        go_simp
        with_reducible rfl
      rotate_left
      · simp only [Act.put, List.setIfInBounds_toArray, List.set_cons_zero, List.set_cons_succ, i64_w, i32_w]
        rfl
      refine pure_ (i := 8) (N := some 73) (v := ?_) (a' := ?_) #[true, true, true, true, true, true, true, true, true, false, false, false, false, false, false, false, false, false, false, false, false, false, false, false, false, false, false] rfl rfl (any_of HT_.out (by kernel_rfl)) (fun _ _ _ h => h) (Or.inl ⟨by rfl, ?_⟩) ?_ ?_
      rotate_left
      · intro w'
        go_simp
        with_reducible rfl
      rotate_left
      · simp only [Act.put, List.setIfInBounds_toArray, List.set_cons_zero, List.set_cons_succ, i64_w, i32_w]
        rfl
      refine pure_ (i := 9) (N := some 74) (v := ?_) (a' := ?_) #[true, true, true, true, true, true, true, true, true, true, false, false, false, false, false, false, false, false, false, false, false, false, false, false, false, false, false] rfl rfl (any_of HT_.out (by kernel_rfl)) (fun _ _ _ h => h) (Or.inl ⟨by rfl, ?_⟩) ?_ ?_
      rotate_left
      · intro w'
        go_simp
        with_reducible rfl
      rotate_left
      · simp only [Act.put, List.setIfInBounds_toArray, List.set_cons_zero, List.set_cons_succ, i64_w, i32_w]
        rfl
      refine pure_ (i := 10) (N := some 75) (v := ?_) (a' := ?_) #[true, true, true, true, true, true, true, true, true, true, true, false, false, false, false, false, false, false, false, false, false, false, false, false, false, false, false] rfl rfl (any_of HT_.out (by kernel_rfl)) (fun _ _ _ h => h) (Or.inl ⟨by rfl, ?_⟩) ?_ ?_
      rotate_left
      · intro w'
        go_simp
        with_reducible rfl
      rotate_left
      · simp only [Act.put, List.setIfInBounds_toArray, List.set_cons_zero, List.set_cons_succ, i64_w, i32_w]
        rfl
      refine pure_ (i := 11) (N := some 76) (v := ?_) (a' := ?_) #[true, true, true, true, true, true, true, true, true, true, true, true, false, false, false, false, false, false, false, false, false, false, false, false, false, false, false] rfl rfl (any_of HT_.out (by kernel_rfl)) (fun _ _ _ h => h) (Or.inl ⟨by rfl, ?_⟩) ?_ ?_
      rotate_left
      · intro w'
        go_simp
        with_reducible rfl
      rotate_left
      · simp only [Act.put, List.setIfInBounds_toArray, List.set_cons_zero, List.set_cons_succ, i64_w, i32_w]
        rfl
      refine pure_ (i := 12) (N := some 77) (v := ?_) (a' := ?_) #[true, true, true, true, true, true, true, true, true, true, true, true, true, false, false, false, false, false, false, false, false, false, false, false, false, false, false] rfl rfl (any_of HT_.out (by kernel_rfl)) (fun _ _ _ h => h) (Or.inl ⟨by rfl, ?_⟩) ?_ ?_
      rotate_left
      · intro w'
        go_simp
        with_reducible rfl
      rotate_left
      · simp only [Act.put, List.setIfInBounds_toArray, List.set_cons_zero, List.set_cons_succ, i64_w, i32_w]
        rfl
      refine take_ (i := 13) (N := some 78) (v := ?_) (a' := ?_) #[true, true, true, true, true, true, true, true, true, true, true, true, true, true, false, false, false, false, false, false, false, false, false, false, false, false, false] rfl rfl (take_ofW HT_.out HW_.out (by kernel_rfl)) (fun _ _ _ h => h) (Or.inl ⟨by rfl, ?_⟩) hHeld ?_ ?_
      rotate_left
      · rintro w' ⟨s0, s1, s2, s3, s4, s5, s6, s7, s8⟩
        go_simp
        with_reducible rfl
      rotate_left
      · simp only [Act.put, List.setIfInBounds_toArray, List.set_cons_zero, List.set_cons_succ, i64_w, i32_w]
        rfl
      refine pure_ (i := 15) (N := some 80) (v := ?_) (a' := ?_) #[true, true, true, true, true, true, true, true, true, true, true, true, true, true, false, true, false, false, false, false, false, false, false, false, false, false, false] rfl rfl (any_of HT_.out (by kernel_rfl)) (fun _ _ _ h => h) (Or.inl ⟨by rfl, ?_⟩) ?_ ?_
      rotate_left
      · intro w'
        go_simp
        with_reducible rfl
      rotate_left
      · simp only [Act.put, List.setIfInBounds_toArray, List.set_cons_zero, List.set_cons_succ, i64_w, i32_w]
        rfl
      refine pure_ (i := 16) (N := some 81) (v := ?_) (a' := ?_) #[true, true, true, true, true, true, true, true, true, true, true, true, true, true, false, true, true, false, false, false, false, false, false, false, false, false, false] rfl rfl (any_of HT_.out (by kernel_rfl)) (fun _ _ _ h => h) (Or.inl ⟨by rfl, ?_⟩) ?_ ?_
      rotate_left
      · intro w'
        go_simp
        with_reducible rfl
      rotate_left
      · simp only [Act.put, List.setIfInBounds_toArray, List.set_cons_zero, List.set_cons_succ, i64_w, i32_w]
        rfl
      refine pure_ (i := 17) (N := some 82) (v := ?_) (a' := ?_) #[true, true, true, true, true, true, true, true, true, true, true, true, true, true, false, true, true, true, false, false, false, false, false, false, false, false, false] rfl rfl (any_of HT_.out (by kernel_rfl)) (fun _ _ _ h => h) (Or.inl ⟨by rfl, ?_⟩) ?_ ?_
      rotate_left
      · intro w'
        go_simp
        with_reducible rfl
      rotate_left
      · simp only [Act.put, List.setIfInBounds_toArray, List.set_cons_zero, List.set_cons_succ, i64_w, i32_w]
        rfl
      refine pure_ (i := 18) (N := some 83) (v := ?_) (a' := ?_) #[true, true, true, true, true, true, true, true, true, true, true, true, true, true, false, true, true, true, true, false, false, false, false, false, false, false, false] rfl rfl (any_of HT_.out (by kernel_rfl)) (fun _ _ _ h => h) (Or.inl ⟨by rfl, ?_⟩) ?_ ?_
      rotate_left
      · intro w'
        go_simp
        with_reducible rfl
      rotate_left
      · simp only [Act.put, List.setIfInBounds_toArray, List.set_cons_zero, List.set_cons_succ, i64_w, i32_w]
        rfl
      refine pure_ (i := 19) (N := some 84) (v := ?_) (a' := ?_) #[true, true, true, true, true, true, true, true, true, true, true, true, true, true, false, true, true, true, true, true, false, false, false, false, false, false, false] rfl rfl (any_of HT_.out (by kernel_rfl)) (fun _ _ _ h => h) (Or.inl ⟨by rfl, ?_⟩) ?_ ?_
      rotate_left
      · intro w'
        go_simp
        with_reducible rfl
      rotate_left
      · simp only [Act.put, List.setIfInBounds_toArray, List.set_cons_zero, List.set_cons_succ, i64_w, i32_w]
        rfl
      refine pure_ (i := 20) (N := some 85) (v := ?_) (a' := ?_) #[true, true, true, true, true, true, true, true, true, true, true, true, true, true, false, true, true, true, true, true, true, false, false, false, false, false, false] rfl rfl (any_of HT_.out (by kernel_rfl)) (fun _ _ _ h => h) (Or.inl ⟨by rfl, ?_⟩) ?_ ?_
      rotate_left
      · intro w'
        go_simp
        with_reducible rfl
      rotate_left
      · simp only [Act.put, List.setIfInBounds_toArray, List.set_cons_zero, List.set_cons_succ, i64_w, i32_w]
        rfl
      refine pure_ (i := 21) (N := some 86) (v := ?_) (a' := ?_) #[true, true, true, true, true, true, true, true, true, true, true, true, true, true, false, true, true, true, true, true, true, true, false, false, false, false, false] rfl rfl (any_of HT_.out (by kernel_rfl)) (fun _ _ _ h => h) (Or.inl ⟨by rfl, ?_⟩) ?_ ?_
      rotate_left
      · intro w'
        go_simp
        with_reducible rfl
      rotate_left
      · simp only [Act.put, List.setIfInBounds_toArray, List.set_cons_zero, List.set_cons_succ, i64_w, i32_w]
        rfl
      refine pure_ (i := 22) (N := some 87) (v := ?_) (a' := ?_) #[true, true, true, true, true, true, true, true, true, true, true, true, true, true, false, true, true, true, true, true, true, true, true, false, false, false, false] rfl rfl (any_of HT_.out (by kernel_rfl)) (fun _ _ _ h => h) (Or.inl ⟨by rfl, ?_⟩) ?_ ?_
      rotate_left
      · intro w'
        go_simp
        with_reducible rfl
      rotate_left
      · simp only [Act.put, List.setIfInBounds_toArray, List.set_cons_zero, List.set_cons_succ, i64_w, i32_w]
        rfl
      refine one_ (i := 14) (N := some 79) #[true, true, true, true, true, true, true, true, true, true, true, true, true, true, true, true, true, true, true, true, true, true, true, false, false, false, false] rfl rfl (one_of HT_.out (by kernel_rfl)) (by decide) (fun K hK => ?_)
      refine goes_ Tryd.func23 (by kernel_rfl) rfl #[.agg #[.int .i64 z0, .int .i64 z1, .int .i64 z2, .int .i64 z3]] (by rfl) rfl rfl (by (try simp only [List.map_toArray, List.map_cons, List.map_nil]); first | done | rfl) ?_
      with_reducible refine (label_Text.calls z0 z1 z2 z3 tz _ (HG.out.base.below HBw9.out) HTZ.out).mono ?_
      rintro e w10 ⟨rfl, hb_⟩
      have HBw10 := Aside0.mk (below_step HBw9.out hb_)
      have HRw10 := Aside0.mk (RowB.below HRw9.out hb_)
      have HZw10 := Aside0.mk (blk_below HZw9.out hb_)
      have HYw10 := Aside0.mk (blk_below HYw9.out hb_)
      clear hb_
      refine ⟨_, rfl, ?_⟩
      refine hK.out _ _ ⟨(blk_cell HYw10.out 0).trans rfl, (blk_cell HYw10.out 1).trans rfl, (blk_cell HYw10.out 2).trans rfl, (blk_cell HYw10.out 3).trans rfl, (blk_cell HZw10.out 0).trans rfl, (blk_cell HZw10.out 1).trans rfl, (blk_cell HZw10.out 2).trans rfl, (blk_cell HZw10.out 3).trans rfl, HRw10.out⟩ (fun hHeld => ?_)
      clear hK K
      refine norm_ (a' := ?_) ?_ ?_
      rotate_left
      · show Act.put _ (some 79) _ = _
        simp only [Act.put, List.setIfInBounds_toArray, List.set_cons_zero, List.set_cons_succ, i64_w, i32_w]
        rfl
      refine pure_ (i := 23) (N := some 88) (v := ?_) (a' := ?_) #[true, true, true, true, true, true, true, true, true, true, true, true, true, true, true, true, true, true, true, true, true, true, true, true, false, false, false] rfl rfl (any_of HT_.out (by kernel_rfl)) (fun _ _ _ h => h) (Or.inl ⟨by rfl, ?_⟩) ?_ ?_
      rotate_left
      · intro w'
        go_simp
        with_reducible rfl
      rotate_left
      · simp only [Act.put, List.setIfInBounds_toArray, List.set_cons_zero, List.set_cons_succ, i64_w, i32_w]
        rfl
      refine pure_ (i := 24) (N := some 89) (v := ?_) (a' := ?_) #[true, true, true, true, true, true, true, true, true, true, true, true, true, true, true, true, true, true, true, true, true, true, true, true, true, false, false] rfl rfl (any_of HT_.out (by kernel_rfl)) (fun _ _ _ h => h) (Or.inl ⟨by rfl, ?_⟩) ?_ ?_
      rotate_left
      · intro w'
        go_simp
        with_reducible rfl
      rotate_left
      · simp only [Act.put, List.setIfInBounds_toArray, List.set_cons_zero, List.set_cons_succ, i64_w, i32_w]
        rfl
      refine pure_ (i := 25) (N := some 90) (v := ?_) (a' := ?_) #[true, true, true, true, true, true, true, true, true, true, true, true, true, true, true, true, true, true, true, true, true, true, true, true, true, true, false] rfl rfl (any_of HT_.out (by kernel_rfl)) (fun _ _ _ h => h) (Or.inl ⟨by rfl, ?_⟩) ?_ ?_
      rotate_left
      · intro w'
        go_simp
        with_reducible rfl
      rotate_left
      · simp only [Act.put, List.setIfInBounds_toArray, List.set_cons_zero, List.set_cons_succ, i64_w, i32_w]
        rfl
      refine pure_ (i := 26) (N := some 6) (v := ?_) (a' := ?_) #[true, true, true, true, true, true, true, true, true, true, true, true, true, true, true, true, true, true, true, true, true, true, true, true, true, true, true] rfl rfl (any_of HT_.out (by kernel_rfl)) (fun _ _ _ h => h) (Or.inl ⟨by rfl, ?_⟩) ?_ ?_
      rotate_left
      · intro w'
        go_simp
        with_reducible rfl
      rotate_left
      · simp only [Act.put, List.setIfInBounds_toArray, List.set_cons_zero, List.set_cons_succ, i64_w, i32_w]
        rfl
      refine done_ (done_of HT_.out (by kernel_rfl)) ?_
      try go_wp2
      go_ret
      exact ⟨rfl, HBw10.out⟩

end Go.Proofs.YtnepinkookbanaaDoor.X
