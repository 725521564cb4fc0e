/- Written by a program of this session over the kit's print: YtdbnjjkapelekaaF20. -/
import Derived.Test.YtdbnjjkapelekaaH
import Derived.Test.YtdbnjjkapelekaaE26
namespace Go.Proofs.Ytdbnjjkapelekaa.X
open Go.RowKit Go.Proofs.YtdbnjjkapelekaaW.PrintWords Go.Proofs.YtdbnjjkapelekaaW.PrintLast Go.Proofs.YtdbnjjkapelekaaW.PrintMore Go.Proofs.Ytdbnjjkapelekaa.More
attribute [local go_sem] max2_int min2_int max_two min_two max_three min_three max_four min_four binOp_string_leq binOp_string_gtr   -- for this text's walks alone
set_option linter.unusedVariables false
set_option linter.unusedSimpArgs false

attribute [local go_sem high] eqA26
/-! ### donjonref18_Rule: function 20 -/
def donjonref18_Rule.l0 : Nat → List (S44) → Int → ByteArray → Int → Int → Int → Int → ByteArray → Int → Int → Int → Int → ByteArray → Option (Int × Int × Int × Int × Int × Int × Int × Int × ByteArray × Bool)
 | 0, _, _, _, _, _, _, _, _, _, _, _, _, _ => none
 | k + 1, x0, x6, x102000, x102001, x102002, x102003, x102004, x102005, x102006, x102007, x102008, x102009, x102010 => if x6 < (x0.length : Int) then (if 0 ≤ x6 then (if (((rd_T44 x0 x6).f0.f0) == x102001 && (((rd_T44 x0 x6).f0.f1) == x102002 && (((rd_T44 x0 x6).f0.f2) == x102003 && (((rd_T44 x0 x6).f0.f3) == x102004)))) = true then (if (((rd_T44 x0 x6).f1.f0) == x102006 && (((rd_T44 x0 x6).f1.f1) == x102007 && (((rd_T44 x0 x6).f1.f2) == x102008 && (((rd_T44 x0 x6).f1.f3) == x102009)))) = true then (some ((rd_T44 x0 x6).f0.f0, (rd_T44 x0 x6).f0.f1, (rd_T44 x0 x6).f0.f2, (rd_T44 x0 x6).f0.f3, (rd_T44 x0 x6).f1.f0, (rd_T44 x0 x6).f1.f1, (rd_T44 x0 x6).f1.f2, (rd_T44 x0 x6).f1.f3, (rd_T44 x0 x6).f2, true)) else (donjonref18_Rule.l0 k x0 (wrap64 (x6 + 1)) x102000 x102001 x102002 x102003 x102004 x102005 x102006 x102007 x102008 x102009 x102010)) else (donjonref18_Rule.l0 k x0 (wrap64 (x6 + 1)) x102000 x102001 x102002 x102003 x102004 x102005 x102006 x102007 x102008 x102009 x102010)) else (none)) else (some (0, 0, 0, 0, 0, 0, 0, 0, (⟨#[]⟩ : ByteArray), false))
def donjonref18_Rule.f (k : Nat) (l0 : List (S44)) (a1_0 : ByteArray) (a1_1 : Int) (a1_2 : Int) (a1_3 : Int) (a1_4 : Int) (a1_5 : ByteArray) (a1_6 : Int) (a1_7 : Int) (a1_8 : Int) (a1_9 : Int) (a1_10 : ByteArray) : Option (Int × Int × Int × Int × Int × Int × Int × Int × ByteArray × Bool) := donjonref18_Rule.l0 k l0 0 a1_0 a1_1 a1_2 a1_3 a1_4 a1_5 a1_6 a1_7 a1_8 a1_9 a1_10
theorem donjonref18_Rule.mono_l : ∀ k, (∀ y0 y1 y2 y3 y4 y5 y6 y7 y8 y9 y10 y11 y12, LeO (donjonref18_Rule.l0 k y0 y1 y2 y3 y4 y5 y6 y7 y8 y9 y10 y11 y12) (donjonref18_Rule.l0 (k + 1) y0 y1 y2 y3 y4 y5 y6 y7 y8 y9 y10 y11 y12))
 | 0 => fun _ _ _ _ _ _ _ _ _ _ _ _ _ r h => by simp [donjonref18_Rule.l0] at h
 | k + 1 => by
  have ih0 := donjonref18_Rule.mono_l k
  ·intro y0 y1 y2 y3 y4 y5 y6 y7 y8 y9 y10 y11 y12
   unfold donjonref18_Rule.l0
   repeat' first
   | (with_reducible exact ih0 _ _ _ _ _ _ _ _ _ _ _ _ _)
   | (with_reducible exact LeO.refl _)
   | (with_reducible exact LeO.none _)
   | (with_reducible refine LeO.ite ?_ ?_)
   | (with_reducible refine LeO.bind ?_ (fun _ => ?_))
   | exact ih0 _ _ _ _ _ _ _ _ _ _ _ _ _
   | exact LeO.none _
   | refine LeO.ite ?_ ?_
   | refine LeO.bind ?_ (fun _ => ?_)
theorem donjonref18_Rule.mono : ∀ a0 a1 a2 a3 a4 a5 a6 a7 a8 a9 a10 a11 k, LeO (donjonref18_Rule.f k a0 a1 a2 a3 a4 a5 a6 a7 a8 a9 a10 a11) (donjonref18_Rule.f (k + 1) a0 a1 a2 a3 a4 a5 a6 a7 a8 a9 a10 a11) := by
 intro a0 a1 a2 a3 a4 a5 a6 a7 a8 a9 a10 a11 k
 have ih0 := donjonref18_Rule.mono_l k
 unfold donjonref18_Rule.f
 repeat' first
   | (with_reducible exact ih0 _ _ _ _ _ _ _ _ _ _ _ _ _)
   | (with_reducible exact LeO.refl _)
   | (with_reducible exact LeO.none _)
   | (with_reducible refine LeO.ite ?_ ?_)
   | (with_reducible refine LeO.bind ?_ (fun _ => ?_))
   | exact ih0 _ _ _ _ _ _ _ _ _ _ _ _ _
   | exact LeO.none _
   | refine LeO.ite ?_ ?_
   | refine LeO.bind ?_ (fun _ => ?_)
set_option maxHeartbeats 8000000 in
set_option maxRecDepth 100000 in
theorem donjonref18_Rule.calls (k : Nat) (A0 : Option Addr) (c0 : Nat) (l0 : List (S44)) (a1_0 : ByteArray) (a1_1 : Int) (a1_2 : Int) (a1_3 : Int) (a1_4 : Int) (a1_5 : ByteArray) (a1_6 : Int) (a1_7 : Int) (a1_8 : Int) (a1_9 : Int) (a1_10 : ByteArray) (r1 : Int) (r2 : Int) (r3 : Int) (r4 : Int) (r5 : Int) (r6 : Int) (r7 : Int) (r8 : Int) (r9 : ByteArray) (r10 : Bool) (w : World) (hr0 : Kd.C k44 w A0 l0.length l0) (hc0 : l0.length ≤ c0) (h : donjonref18_Rule.f k l0 a1_0 a1_1 a1_2 a1_3 a1_4 a1_5 a1_6 a1_7 a1_8 a1_9 a1_10 = some (r1, r2, r3, r4, r5, r6, r7, r8, r9, r10)) :
  Calls Try.prog 20 #[.slice A0 l0.length c0, .agg #[.string a1_0, .int .i64 a1_1, .int .i64 a1_2, .int .i64 a1_3, .int .i64 a1_4, .string a1_5, .int .i64 a1_6, .int .i64 a1_7, .int .i64 a1_8, .int .i64 a1_9, .string a1_10]] w fun e w' => e = .returned (.tuple #[.agg #[.int .i64 r1, .int .i64 r2, .int .i64 r3, .int .i64 r4, .int .i64 r5, .int .i64 r6, .int .i64 r7, .int .i64 r8, .string r9], .bool r10]) ∧ Below w.heap.size w w' := by
 have hu28 := Try.underlying28
 have hu44 := Try.underlying44
 have hu26 := Try.underlying26
 have HR0 := Aside0.mk hr0
 have HC0 := Aside0.mk hc0
 clear hr0 hc0
 have HB := Aside0.mk (Below.refl w.heap.size w)
 have H : (donjonref18_Rule.l0 k l0 0 a1_0 a1_1 a1_2 a1_3 a1_4 a1_5 a1_6 a1_7 a1_8 a1_9 a1_10) = some (r1, r2, r3, r4, r5, r6, r7, r8, r9, r10) := h
 clear h
 have H' := Aside0.mk H
 clear H
 go_enter Try.func20, Try.ntmps20
 go_wp2_with (first | ((with_reducible refine gate_dst (N := 3) rfl ?_); refine box_event ?hg (N := 3) ?hd (cs := #[.string a1_0, .int .i64 a1_1, .int .i64 a1_2, .int .i64 a1_3, .int .i64 a1_4, .string a1_5, .int .i64 a1_6, .int .i64 a1_7, .int .i64 a1_8, .int .i64 a1_9, .string a1_10]) (t := 28) ?hr ?_; (case hd => rfl); (case hg => rfl); (case hr => first | (go_simp; done) | (go_simp; rfl)); intro gb101 hg w3 hbox hb; have n0_ := Aside0.mk (below_step (bl_ HB.out) hb); have n1_ := Aside0.mk (hbox); have n2_ := Aside0.mk ((by rw [hg]; exact (below_size (bl_ HB.out)) : w.heap.size ≤ gb101)); have n3_ := Aside0.mk ((by rw [hg]; exact (below_size (bl_ HB.out)) : w.heap.size ≤ gb101)); clear HB; have HB := n0_; have BK101 := n1_; have GW101 := n2_; have GE101 := n3_; clear n0_ n1_ n2_ n3_; clear hb hbox hg) | ((with_reducible refine gate_dst (N := 4) rfl ?_); refine box_event ?hg (N := 4) ?hd (cs := #[.int .i64 0, .int .i64 0, .int .i64 0, .int .i64 0, .int .i64 0, .int .i64 0, .int .i64 0, .int .i64 0, .string ⟨#[]⟩]) (t := 44) ?hr ?_; (case hd => rfl); (case hg => rfl); (case hr => first | (go_simp; done) | (go_simp; rfl)); intro gb102 hg w4 hbox hb; have n0_ := Aside0.mk (blk_below (g := gb101) (o := .cells #[.string a1_0, .int .i64 a1_1, .int .i64 a1_2, .int .i64 a1_3, .int .i64 a1_4, .string a1_5, .int .i64 a1_6, .int .i64 a1_7, .int .i64 a1_8, .int .i64 a1_9, .string a1_10] 28 (0, 0)) (bk_ BK101.out) hb); have n1_ := Aside0.mk (below_step (bl_ HB.out) hb); have n2_ := Aside0.mk (hbox); have n3_ := Aside0.mk ((by rw [hg]; exact (below_size (bl_ HB.out)) : w.heap.size ≤ gb102)); have n4_ := Aside0.mk ((by rw [hg]; exact (below_size (bl_ HB.out)) : w.heap.size ≤ gb102)); have n5_ := Aside0.mk ((by rw [hg]; exact Nat.ne_of_lt (blk_lt (g := gb101) (o := .cells #[.string a1_0, .int .i64 a1_1, .int .i64 a1_2, .int .i64 a1_3, .int .i64 a1_4, .string a1_5, .int .i64 a1_6, .int .i64 a1_7, .int .i64 a1_8, .int .i64 a1_9, .string a1_10] 28 (0, 0)) (bk_ BK101.out)) : gb101 ≠ gb102)); have n6_ := Aside0.mk ((by rw [hg]; exact Nat.ne_of_gt (blk_lt (g := gb101) (o := .cells #[.string a1_0, .int .i64 a1_1, .int .i64 a1_2, .int .i64 a1_3, .int .i64 a1_4, .string a1_5, .int .i64 a1_6, .int .i64 a1_7, .int .i64 a1_8, .int .i64 a1_9, .string a1_10] 28 (0, 0)) (bk_ BK101.out)) : gb102 ≠ gb101)); clear BK101 HB; have BK101 := n0_; have HB := n1_; have BK102 := n2_; have GW102 := n3_; have GE102 := n4_; have NB101_102 := n5_; have NB102_101 := n6_; clear n0_ n1_ n2_ n3_ n4_ n5_ n6_; clear hb hbox hg))
 repeat (go_quiet (first | ((with_reducible refine gate_dst (N := 3) rfl ?_); refine box_event ?hg (N := 3) ?hd (cs := #[.string a1_0, .int .i64 a1_1, .int .i64 a1_2, .int .i64 a1_3, .int .i64 a1_4, .string a1_5, .int .i64 a1_6, .int .i64 a1_7, .int .i64 a1_8, .int .i64 a1_9, .string a1_10]) (t := 28) ?hr ?_; (case hd => rfl); (case hg => rfl); (case hr => first | (go_simp; done) | (go_simp; rfl)); intro gb101 hg w3 hbox hb; have n0_ := Aside0.mk (below_step (bl_ HB.out) hb); have n1_ := Aside0.mk (hbox); have n2_ := Aside0.mk ((by rw [hg]; exact (below_size (bl_ HB.out)) : w.heap.size ≤ gb101)); have n3_ := Aside0.mk ((by rw [hg]; exact (below_size (bl_ HB.out)) : w.heap.size ≤ gb101)); clear HB; have HB := n0_; have BK101 := n1_; have GW101 := n2_; have GE101 := n3_; clear n0_ n1_ n2_ n3_; clear hb hbox hg) | ((with_reducible refine gate_dst (N := 4) rfl ?_); refine box_event ?hg (N := 4) ?hd (cs := #[.int .i64 0, .int .i64 0, .int .i64 0, .int .i64 0, .int .i64 0, .int .i64 0, .int .i64 0, .int .i64 0, .string ⟨#[]⟩]) (t := 44) ?hr ?_; (case hd => rfl); (case hg => rfl); (case hr => first | (go_simp; done) | (go_simp; rfl)); intro gb102 hg w4 hbox hb; have n0_ := Aside0.mk (blk_below (g := gb101) (o := .cells #[.string a1_0, .int .i64 a1_1, .int .i64 a1_2, .int .i64 a1_3, .int .i64 a1_4, .string a1_5, .int .i64 a1_6, .int .i64 a1_7, .int .i64 a1_8, .int .i64 a1_9, .string a1_10] 28 (0, 0)) (bk_ BK101.out) hb); have n1_ := Aside0.mk (below_step (bl_ HB.out) hb); have n2_ := Aside0.mk (hbox); have n3_ := Aside0.mk ((by rw [hg]; exact (below_size (bl_ HB.out)) : w.heap.size ≤ gb102)); have n4_ := Aside0.mk ((by rw [hg]; exact (below_size (bl_ HB.out)) : w.heap.size ≤ gb102)); have n5_ := Aside0.mk ((by rw [hg]; exact Nat.ne_of_lt (blk_lt (g := gb101) (o := .cells #[.string a1_0, .int .i64 a1_1, .int .i64 a1_2, .int .i64 a1_3, .int .i64 a1_4, .string a1_5, .int .i64 a1_6, .int .i64 a1_7, .int .i64 a1_8, .int .i64 a1_9, .string a1_10] 28 (0, 0)) (bk_ BK101.out)) : gb101 ≠ gb102)); have n6_ := Aside0.mk ((by rw [hg]; exact Nat.ne_of_gt (blk_lt (g := gb101) (o := .cells #[.string a1_0, .int .i64 a1_1, .int .i64 a1_2, .int .i64 a1_3, .int .i64 a1_4, .string a1_5, .int .i64 a1_6, .int .i64 a1_7, .int .i64 a1_8, .int .i64 a1_9, .string a1_10] 28 (0, 0)) (bk_ BK101.out)) : gb102 ≠ gb101)); clear BK101 HB; have BK101 := n0_; have HB := n1_; have BK102 := n2_; have GW102 := n3_; have GE102 := n4_; have NB101_102 := n5_; have NB102_101 := n6_; clear n0_ n1_ n2_ n3_ n4_ n5_ n6_; clear hb hbox hg)); try go_wp2_with (first | ((with_reducible refine gate_dst (N := 3) rfl ?_); refine box_event ?hg (N := 3) ?hd (cs := #[.string a1_0, .int .i64 a1_1, .int .i64 a1_2, .int .i64 a1_3, .int .i64 a1_4, .string a1_5, .int .i64 a1_6, .int .i64 a1_7, .int .i64 a1_8, .int .i64 a1_9, .string a1_10]) (t := 28) ?hr ?_; (case hd => rfl); (case hg => rfl); (case hr => first | (go_simp; done) | (go_simp; rfl)); intro gb101 hg w3 hbox hb; have n0_ := Aside0.mk (below_step (bl_ HB.out) hb); have n1_ := Aside0.mk (hbox); have n2_ := Aside0.mk ((by rw [hg]; exact (below_size (bl_ HB.out)) : w.heap.size ≤ gb101)); have n3_ := Aside0.mk ((by rw [hg]; exact (below_size (bl_ HB.out)) : w.heap.size ≤ gb101)); clear HB; have HB := n0_; have BK101 := n1_; have GW101 := n2_; have GE101 := n3_; clear n0_ n1_ n2_ n3_; clear hb hbox hg) | ((with_reducible refine gate_dst (N := 4) rfl ?_); refine box_event ?hg (N := 4) ?hd (cs := #[.int .i64 0, .int .i64 0, .int .i64 0, .int .i64 0, .int .i64 0, .int .i64 0, .int .i64 0, .int .i64 0, .string ⟨#[]⟩]) (t := 44) ?hr ?_; (case hd => rfl); (case hg => rfl); (case hr => first | (go_simp; done) | (go_simp; rfl)); intro gb102 hg w4 hbox hb; have n0_ := Aside0.mk (blk_below (g := gb101) (o := .cells #[.string a1_0, .int .i64 a1_1, .int .i64 a1_2, .int .i64 a1_3, .int .i64 a1_4, .string a1_5, .int .i64 a1_6, .int .i64 a1_7, .int .i64 a1_8, .int .i64 a1_9, .string a1_10] 28 (0, 0)) (bk_ BK101.out) hb); have n1_ := Aside0.mk (below_step (bl_ HB.out) hb); have n2_ := Aside0.mk (hbox); have n3_ := Aside0.mk ((by rw [hg]; exact (below_size (bl_ HB.out)) : w.heap.size ≤ gb102)); have n4_ := Aside0.mk ((by rw [hg]; exact (below_size (bl_ HB.out)) : w.heap.size ≤ gb102)); have n5_ := Aside0.mk ((by rw [hg]; exact Nat.ne_of_lt (blk_lt (g := gb101) (o := .cells #[.string a1_0, .int .i64 a1_1, .int .i64 a1_2, .int .i64 a1_3, .int .i64 a1_4, .string a1_5, .int .i64 a1_6, .int .i64 a1_7, .int .i64 a1_8, .int .i64 a1_9, .string a1_10] 28 (0, 0)) (bk_ BK101.out)) : gb101 ≠ gb102)); have n6_ := Aside0.mk ((by rw [hg]; exact Nat.ne_of_gt (blk_lt (g := gb101) (o := .cells #[.string a1_0, .int .i64 a1_1, .int .i64 a1_2, .int .i64 a1_3, .int .i64 a1_4, .string a1_5, .int .i64 a1_6, .int .i64 a1_7, .int .i64 a1_8, .int .i64 a1_9, .string a1_10] 28 (0, 0)) (bk_ BK101.out)) : gb102 ≠ gb101)); clear BK101 HB; have BK101 := n0_; have HB := n1_; have BK102 := n2_; have GW102 := n3_; have GE102 := n4_; have NB101_102 := n5_; have NB102_101 := n6_; clear n0_ n1_ n2_ n3_ n4_ n5_ n6_; clear hb hbox hg)))
 go_loopg [6] k (fun kq v6 w' => ∃ (x6_1 : Int) (x103000_1 : Int) (x103001_1 : Int) (x103002_1 : Int) (x103003_1 : Int) (x103004_1 : Int) (x103005_1 : Int) (x103006_1 : Int) (x103007_1 : Int) (x103008_1 : ByteArray), v6 = .int .i64 x6_1 ∧ Aside0 (donjonref18_Rule.l0 kq l0 x6_1 a1_0 a1_1 a1_2 a1_3 a1_4 a1_5 a1_6 a1_7 a1_8 a1_9 a1_10 = some (r1, r2, r3, r4, r5, r6, r7, r8, r9, r10)) ∧ Aside0 (kq ≤ k) ∧ Aside0 (w'.heap[gb101]? = some (.cells #[.string a1_0, .int .i64 a1_1, .int .i64 a1_2, .int .i64 a1_3, .int .i64 a1_4, .string a1_5, .int .i64 a1_6, .int .i64 a1_7, .int .i64 a1_8, .int .i64 a1_9, .string a1_10] 28 (0, 0))) ∧ Aside0 (w'.heap[gb102]? = some (.cells #[.int .i64 x103000_1, .int .i64 x103001_1, .int .i64 x103002_1, .int .i64 x103003_1, .int .i64 x103004_1, .int .i64 x103005_1, .int .i64 x103006_1, .int .i64 x103007_1, .string x103008_1] 44 (0, 0))) ∧ Aside0 (Below w.heap.size w w'))
 case atStart => exact ⟨(0), (0), (0), (0), (0), (0), (0), (0), (0), ((⟨#[]⟩ : ByteArray)), (by first | rfl | (simp; done) | (simp [*]; done)), H', ⟨Nat.le_refl _⟩, ⟨by (with_reducible repeat (first | refine blk_drewN ?_ _ | refine blk_drew ?_ | refine blk_alloc ?_ _)); exact BK101.out⟩, ⟨by (with_reducible repeat (first | refine blk_drewN ?_ _ | refine blk_drew ?_ | refine blk_alloc ?_ _)); exact BK102.out⟩, ⟨by repeat (first | (with_reducible first | exact HB.out | apply below_alloc | apply pw_below_drewN | apply below_drew1 | refine below_set ?_ GE101.out | refine below_set ?_ GE102.out) | exact HB.out)⟩⟩
 case round =>
  clear H'
  try clear c2
  try clear p2
  obtain ⟨x6_1, x103000_1, x103001_1, x103002_1, x103003_1, x103004_1, x103005_1, x103006_1, x103007_1, x103008_1, rfl, HA, HK1, BK101, BK102, HB⟩ := hrel
  cases gk with
  | zero => exact absurd HA.out (by simp [donjonref18_Rule.l0])
  | succ k1 =>
   have H := HA.out
   clear HA
   simp only [donjonref18_Rule.l0] at H
   by_cases c5 : x6_1 < (l0.length : Int)
   ·rw [if_pos c5] at H
    have c5b0 : decide (x6_1 < (l0.length : Int)) = true := decide_eq_true c5
    clear c5
    by_cases c6 : 0 ≤ x6_1
    ·rw [if_pos c6] at H
     have c6b0 : decide (0 ≤ x6_1) = true := decide_eq_true c6
     clear c6
     by_cases c7 : (((rd_T44 l0 x6_1).f0.f0) == a1_1 && (((rd_T44 l0 x6_1).f0.f1) == a1_2 && (((rd_T44 l0 x6_1).f0.f2) == a1_3 && (((rd_T44 l0 x6_1).f0.f3) == a1_4)))) = true
     ·rw [if_pos c7] at H
      have c7b0 : (((rd_T44 l0 x6_1).f0.f0) == a1_1 && (((rd_T44 l0 x6_1).f0.f1) == a1_2 && (((rd_T44 l0 x6_1).f0.f2) == a1_3 && (((rd_T44 l0 x6_1).f0.f3) == a1_4)))) = true := c7
      (try (have c7b1 : decide (((rd_T44 l0 x6_1).f0.f0) = a1_1 && (((rd_T44 l0 x6_1).f0.f1) == a1_2 && (((rd_T44 l0 x6_1).f0.f2) == a1_3 && (((rd_T44 l0 x6_1).f0.f3) == a1_4)))) = true := by simpa using c7))
      (try (have c7b2 : (((rd_T44 l0 x6_1).f0.f0) == a1_1 && (((rd_T44 l0 x6_1).f0.f1) == a1_2 && (((rd_T44 l0 x6_1).f0.f2) == a1_3 && (((rd_T44 l0 x6_1).f0.f3) == a1_4)))) = true := by simpa using c7))
      clear c7
      by_cases c8 : (((rd_T44 l0 x6_1).f1.f0) == a1_6 && (((rd_T44 l0 x6_1).f1.f1) == a1_7 && (((rd_T44 l0 x6_1).f1.f2) == a1_8 && (((rd_T44 l0 x6_1).f1.f3) == a1_9)))) = true
      ·rw [if_pos c8] at H
       have c8b0 : (((rd_T44 l0 x6_1).f1.f0) == a1_6 && (((rd_T44 l0 x6_1).f1.f1) == a1_7 && (((rd_T44 l0 x6_1).f1.f2) == a1_8 && (((rd_T44 l0 x6_1).f1.f3) == a1_9)))) = true := c8
       (try (have c8b1 : decide (((rd_T44 l0 x6_1).f1.f0) = a1_6 && (((rd_T44 l0 x6_1).f1.f1) == a1_7 && (((rd_T44 l0 x6_1).f1.f2) == a1_8 && (((rd_T44 l0 x6_1).f1.f3) == a1_9)))) = true := by simpa using c8))
       (try (have c8b2 : (((rd_T44 l0 x6_1).f1.f0) == a1_6 && (((rd_T44 l0 x6_1).f1.f1) == a1_7 && (((rd_T44 l0 x6_1).f1.f2) == a1_8 && (((rd_T44 l0 x6_1).f1.f3) == a1_9)))) = true := by simpa using c8))
       clear c8
       simp only [Option.some.injEq, Prod.mk.injEq] at H
       obtain ⟨rfl, rfl, rfl, rfl, rfl, rfl, rfl, rfl, rfl, rfl⟩ := H
       have p103 : 0 ≤ (x6_1 : Int) := of_decide_eq_true (by first | (with_reducible assumption) | assumption)
       have q103 : x6_1 < (l0.length : Int) := of_decide_eq_true (by first | (with_reducible assumption) | assumption)
       obtain ⟨ad103, e103, hx103_0, hx103_1, hx103_2, hx103_3, hx103_4, hx103_5, hx103_6, hx103_7, hx103_8⟩ := at_T44 HR0.out x6_1 p103 q103
       cases e103
       replace hx103_0 := bcell_ HB.out hx103_0
       replace hx103_1 := bcell_ HB.out hx103_1
       replace hx103_2 := bcell_ HB.out hx103_2
       replace hx103_3 := bcell_ HB.out hx103_3
       replace hx103_4 := bcell_ HB.out hx103_4
       replace hx103_5 := bcell_ HB.out hx103_5
       replace hx103_6 := bcell_ HB.out hx103_6
       replace hx103_7 := bcell_ HB.out hx103_7
       replace hx103_8 := bcell_ HB.out hx103_8
       replace p103 := eq_true p103
       replace q103 := eq_true q103
       have hnb9 := NB101_102.out
       have hnc9 := NB102_101.out
       obtain ⟨hcz10_0, hcz10_1, hcz10_2, hcz10_3, hcz10_4, hcz10_5, hcz10_6, hcz10_7, hcz10_8, hcz10_9, hcz10_10⟩ := bcs11 BK101.out
       obtain ⟨hfz10_0, hfz10_1, hfz10_2, hfz10_3, hfz10_4, hfz10_5, hfz10_6, hfz10_7, hfz10_8, hfz10_9, hfz10_10⟩ := bfs11 BK101.out
       have p104 : 0 ≤ (x6_1 : Int) := of_decide_eq_true (by first | (with_reducible assumption) | assumption)
       have q104 : x6_1 < (l0.length : Int) := of_decide_eq_true (by first | (with_reducible assumption) | assumption)
       obtain ⟨ad104, e104, hx104_0, hx104_1, hx104_2, hx104_3, hx104_4, hx104_5, hx104_6, hx104_7, hx104_8⟩ := at_T44 HR0.out x6_1 p104 q104
       obtain rfl : ad103 = ad104 := (by injection e104)
       replace hx104_0 := bcell_ HB.out hx104_0
       replace hx104_1 := bcell_ HB.out hx104_1
       replace hx104_2 := bcell_ HB.out hx104_2
       replace hx104_3 := bcell_ HB.out hx104_3
       replace hx104_4 := bcell_ HB.out hx104_4
       replace hx104_5 := bcell_ HB.out hx104_5
       replace hx104_6 := bcell_ HB.out hx104_6
       replace hx104_7 := bcell_ HB.out hx104_7
       replace hx104_8 := bcell_ HB.out hx104_8
       replace p104 := eq_true p104
       replace q104 := eq_true q104
       have p105 : 0 ≤ (x6_1 : Int) := of_decide_eq_true (by first | (with_reducible assumption) | assumption)
       have q105 : x6_1 < (l0.length : Int) := of_decide_eq_true (by first | (with_reducible assumption) | assumption)
       obtain ⟨ad105, e105, hx105_0, hx105_1, hx105_2, hx105_3, hx105_4, hx105_5, hx105_6, hx105_7, hx105_8⟩ := at_T44 HR0.out x6_1 p105 q105
       obtain rfl : ad103 = ad105 := (by injection e105)
       replace hx105_0 := bcell_ HB.out hx105_0
       replace hx105_1 := bcell_ HB.out hx105_1
       replace hx105_2 := bcell_ HB.out hx105_2
       replace hx105_3 := bcell_ HB.out hx105_3
       replace hx105_4 := bcell_ HB.out hx105_4
       replace hx105_5 := bcell_ HB.out hx105_5
       replace hx105_6 := bcell_ HB.out hx105_6
       replace hx105_7 := bcell_ HB.out hx105_7
       replace hx105_8 := bcell_ HB.out hx105_8
       replace p105 := eq_true p105
       replace q105 := eq_true q105
       obtain ⟨hcz11_0, hcz11_1, hcz11_2, hcz11_3, hcz11_4, hcz11_5, hcz11_6, hcz11_7, hcz11_8⟩ := bcs9 BK102.out
       obtain ⟨hfz11_0, hfz11_1, hfz11_2, hfz11_3, hfz11_4, hfz11_5, hfz11_6, hfz11_7, hfz11_8⟩ := bfs9 BK102.out
       go_wp2
       repeat (go_quiet (fail); try go_wp2)
       refine bodyPost_ret (results_ct rfl _ _ gb102 44 #[.int .i64 ((rd_T44 l0 x6_1).f0.f0), .int .i64 ((rd_T44 l0 x6_1).f0.f1), .int .i64 ((rd_T44 l0 x6_1).f0.f2), .int .i64 ((rd_T44 l0 x6_1).f0.f3), .int .i64 ((rd_T44 l0 x6_1).f1.f0), .int .i64 ((rd_T44 l0 x6_1).f1.f1), .int .i64 ((rd_T44 l0 x6_1).f1.f2), .int .i64 ((rd_T44 l0 x6_1).f1.f3), .string ((rd_T44 l0 x6_1).f2)] (0, 0) _ rfl (by (with_reducible repeat (first | refine blk_drewN ?_ _ | refine blk_drew ?_ | refine blk_alloc ?_ _)); refine puts9 (cs := #[.int .i64 x103000_1, .int .i64 x103001_1, .int .i64 x103002_1, .int .i64 x103003_1, .int .i64 x103004_1, .int .i64 x103005_1, .int .i64 x103006_1, .int .i64 x103007_1, .string x103008_1]) ?_ rfl; (with_reducible repeat (first | refine blk_drewN ?_ _ | refine blk_drew ?_ | refine blk_alloc ?_ _)); exact BK102.out) Try.underlying44 rfl (by kernel_rfl)) rfl ?_
       exact ⟨by first | rfl | (simp [errW_none, errW_some] <;> rfl) | (simp [*, errW_none, errW_some] <;> rfl), by repeat (first | (with_reducible first | exact HB.out | apply below_alloc | apply pw_below_drewN | apply below_drew1 | refine below_set ?_ GE101.out | refine below_set ?_ GE102.out) | exact HB.out)⟩
      ·rw [if_neg c8] at H
       have c8b0 : (((rd_T44 l0 x6_1).f1.f0) == a1_6 && (((rd_T44 l0 x6_1).f1.f1) == a1_7 && (((rd_T44 l0 x6_1).f1.f2) == a1_8 && (((rd_T44 l0 x6_1).f1.f3) == a1_9)))) = false := by simpa using c8
       (try (have c8b1 : decide (((rd_T44 l0 x6_1).f1.f0) = a1_6 && (((rd_T44 l0 x6_1).f1.f1) == a1_7 && (((rd_T44 l0 x6_1).f1.f2) == a1_8 && (((rd_T44 l0 x6_1).f1.f3) == a1_9)))) = false := by simpa using c8))
       (try (have c8b2 : (((rd_T44 l0 x6_1).f1.f0) == a1_6 && (((rd_T44 l0 x6_1).f1.f1) == a1_7 && (((rd_T44 l0 x6_1).f1.f2) == a1_8 && (((rd_T44 l0 x6_1).f1.f3) == a1_9)))) = false := by simpa using c8))
       (try (have c8b3 : ¬ (((rd_T44 l0 x6_1).f1.f0) = a1_6 && (((rd_T44 l0 x6_1).f1.f1) == a1_7 && (((rd_T44 l0 x6_1).f1.f2) == a1_8 && (((rd_T44 l0 x6_1).f1.f3) == a1_9)))) := by simpa using c8))
       clear c8
       have H' := Aside0.mk H
       clear H
       have p103 : 0 ≤ (x6_1 : Int) := of_decide_eq_true (by first | (with_reducible assumption) | assumption)
       have q103 : x6_1 < (l0.length : Int) := of_decide_eq_true (by first | (with_reducible assumption) | assumption)
       obtain ⟨ad103, e103, hx103_0, hx103_1, hx103_2, hx103_3, hx103_4, hx103_5, hx103_6, hx103_7, hx103_8⟩ := at_T44 HR0.out x6_1 p103 q103
       cases e103
       replace hx103_0 := bcell_ HB.out hx103_0
       replace hx103_1 := bcell_ HB.out hx103_1
       replace hx103_2 := bcell_ HB.out hx103_2
       replace hx103_3 := bcell_ HB.out hx103_3
       replace hx103_4 := bcell_ HB.out hx103_4
       replace hx103_5 := bcell_ HB.out hx103_5
       replace hx103_6 := bcell_ HB.out hx103_6
       replace hx103_7 := bcell_ HB.out hx103_7
       replace hx103_8 := bcell_ HB.out hx103_8
       replace p103 := eq_true p103
       replace q103 := eq_true q103
       have hnb12 := NB101_102.out
       have hnc12 := NB102_101.out
       obtain ⟨hcz13_0, hcz13_1, hcz13_2, hcz13_3, hcz13_4, hcz13_5, hcz13_6, hcz13_7, hcz13_8, hcz13_9, hcz13_10⟩ := bcs11 BK101.out
       obtain ⟨hfz13_0, hfz13_1, hfz13_2, hfz13_3, hfz13_4, hfz13_5, hfz13_6, hfz13_7, hfz13_8, hfz13_9, hfz13_10⟩ := bfs11 BK101.out
       have p104 : 0 ≤ (x6_1 : Int) := of_decide_eq_true (by first | (with_reducible assumption) | assumption)
       have q104 : x6_1 < (l0.length : Int) := of_decide_eq_true (by first | (with_reducible assumption) | assumption)
       obtain ⟨ad104, e104, hx104_0, hx104_1, hx104_2, hx104_3, hx104_4, hx104_5, hx104_6, hx104_7, hx104_8⟩ := at_T44 HR0.out x6_1 p104 q104
       obtain rfl : ad103 = ad104 := (by injection e104)
       replace hx104_0 := bcell_ HB.out hx104_0
       replace hx104_1 := bcell_ HB.out hx104_1
       replace hx104_2 := bcell_ HB.out hx104_2
       replace hx104_3 := bcell_ HB.out hx104_3
       replace hx104_4 := bcell_ HB.out hx104_4
       replace hx104_5 := bcell_ HB.out hx104_5
       replace hx104_6 := bcell_ HB.out hx104_6
       replace hx104_7 := bcell_ HB.out hx104_7
       replace hx104_8 := bcell_ HB.out hx104_8
       replace p104 := eq_true p104
       replace q104 := eq_true q104
       go_wp2
       repeat (go_quiet (fail); try go_wp2)
       go_roundg k1
       case measure => have := HK1.out; omega
       case rel => exact ⟨(wrap64 (x6_1 + 1)), (x103000_1), (x103001_1), (x103002_1), (x103003_1), (x103004_1), (x103005_1), (x103006_1), (x103007_1), (x103008_1), (by first | rfl | (simp; done) | (simp [*]; done)), H', ⟨by have := HK1.out; omega⟩, ⟨by (with_reducible repeat (first | refine blk_drewN ?_ _ | refine blk_drew ?_ | refine blk_alloc ?_ _)); exact BK101.out⟩, ⟨by (with_reducible repeat (first | refine blk_drewN ?_ _ | refine blk_drew ?_ | refine blk_alloc ?_ _)); exact BK102.out⟩, ⟨by repeat (first | (with_reducible first | exact HB.out | apply below_alloc | apply pw_below_drewN | apply below_drew1 | refine below_set ?_ GE101.out | refine below_set ?_ GE102.out) | exact HB.out)⟩⟩
     ·rw [if_neg c7] at H
      have c7b0 : (((rd_T44 l0 x6_1).f0.f0) == a1_1 && (((rd_T44 l0 x6_1).f0.f1) == a1_2 && (((rd_T44 l0 x6_1).f0.f2) == a1_3 && (((rd_T44 l0 x6_1).f0.f3) == a1_4)))) = false := by simpa using c7
      (try (have c7b1 : decide (((rd_T44 l0 x6_1).f0.f0) = a1_1 && (((rd_T44 l0 x6_1).f0.f1) == a1_2 && (((rd_T44 l0 x6_1).f0.f2) == a1_3 && (((rd_T44 l0 x6_1).f0.f3) == a1_4)))) = false := by simpa using c7))
      (try (have c7b2 : (((rd_T44 l0 x6_1).f0.f0) == a1_1 && (((rd_T44 l0 x6_1).f0.f1) == a1_2 && (((rd_T44 l0 x6_1).f0.f2) == a1_3 && (((rd_T44 l0 x6_1).f0.f3) == a1_4)))) = false := by simpa using c7))
      (try (have c7b3 : ¬ (((rd_T44 l0 x6_1).f0.f0) = a1_1 && (((rd_T44 l0 x6_1).f0.f1) == a1_2 && (((rd_T44 l0 x6_1).f0.f2) == a1_3 && (((rd_T44 l0 x6_1).f0.f3) == a1_4)))) := by simpa using c7))
      clear c7
      have H' := Aside0.mk H
      clear H
      have p103 : 0 ≤ (x6_1 : Int) := of_decide_eq_true (by first | (with_reducible assumption) | assumption)
      have q103 : x6_1 < (l0.length : Int) := of_decide_eq_true (by first | (with_reducible assumption) | assumption)
      obtain ⟨ad103, e103, hx103_0, hx103_1, hx103_2, hx103_3, hx103_4, hx103_5, hx103_6, hx103_7, hx103_8⟩ := at_T44 HR0.out x6_1 p103 q103
      cases e103
      replace hx103_0 := bcell_ HB.out hx103_0
      replace hx103_1 := bcell_ HB.out hx103_1
      replace hx103_2 := bcell_ HB.out hx103_2
      replace hx103_3 := bcell_ HB.out hx103_3
      replace hx103_4 := bcell_ HB.out hx103_4
      replace hx103_5 := bcell_ HB.out hx103_5
      replace hx103_6 := bcell_ HB.out hx103_6
      replace hx103_7 := bcell_ HB.out hx103_7
      replace hx103_8 := bcell_ HB.out hx103_8
      replace p103 := eq_true p103
      replace q103 := eq_true q103
      have hnb14 := NB101_102.out
      have hnc14 := NB102_101.out
      obtain ⟨hcz15_0, hcz15_1, hcz15_2, hcz15_3, hcz15_4, hcz15_5, hcz15_6, hcz15_7, hcz15_8, hcz15_9, hcz15_10⟩ := bcs11 BK101.out
      obtain ⟨hfz15_0, hfz15_1, hfz15_2, hfz15_3, hfz15_4, hfz15_5, hfz15_6, hfz15_7, hfz15_8, hfz15_9, hfz15_10⟩ := bfs11 BK101.out
      go_wp2
      repeat (go_quiet (fail); try go_wp2)
      go_roundg k1
      case measure => have := HK1.out; omega
      case rel => exact ⟨(wrap64 (x6_1 + 1)), (x103000_1), (x103001_1), (x103002_1), (x103003_1), (x103004_1), (x103005_1), (x103006_1), (x103007_1), (x103008_1), (by first | rfl | (simp; done) | (simp [*]; done)), H', ⟨by have := HK1.out; omega⟩, ⟨by (with_reducible repeat (first | refine blk_drewN ?_ _ | refine blk_drew ?_ | refine blk_alloc ?_ _)); exact BK101.out⟩, ⟨by (with_reducible repeat (first | refine blk_drewN ?_ _ | refine blk_drew ?_ | refine blk_alloc ?_ _)); exact BK102.out⟩, ⟨by repeat (first | (with_reducible first | exact HB.out | apply below_alloc | apply pw_below_drewN | apply below_drew1 | refine below_set ?_ GE101.out | refine below_set ?_ GE102.out) | exact HB.out)⟩⟩
    ·rw [if_neg c6] at H
     exact absurd H (by simp)
   ·rw [if_neg c5] at H
    have c5b0 : decide (x6_1 < (l0.length : Int)) = false := decide_eq_false c5
    clear c5
    simp only [Option.some.injEq, Prod.mk.injEq] at H
    obtain ⟨rfl, rfl, rfl, rfl, rfl, rfl, rfl, rfl, rfl, rfl⟩ := H
    have hnb16 := NB102_101.out
    have hnc16 := NB101_102.out
    obtain ⟨hcz17_0, hcz17_1, hcz17_2, hcz17_3, hcz17_4, hcz17_5, hcz17_6, hcz17_7, hcz17_8⟩ := bcs9 BK102.out
    obtain ⟨hfz17_0, hfz17_1, hfz17_2, hfz17_3, hfz17_4, hfz17_5, hfz17_6, hfz17_7, hfz17_8⟩ := bfs9 BK102.out
    go_wp2
    repeat (go_quiet (fail); try go_wp2)
    refine bodyPost_ret (results_ct rfl _ _ gb102 44 #[.int .i64 0, .int .i64 0, .int .i64 0, .int .i64 0, .int .i64 0, .int .i64 0, .int .i64 0, .int .i64 0, .string ⟨#[]⟩] (0, 0) _ rfl (by (with_reducible repeat (first | refine blk_drewN ?_ _ | refine blk_drew ?_ | refine blk_alloc ?_ _)); refine puts9 (cs := #[.int .i64 x103000_1, .int .i64 x103001_1, .int .i64 x103002_1, .int .i64 x103003_1, .int .i64 x103004_1, .int .i64 x103005_1, .int .i64 x103006_1, .int .i64 x103007_1, .string x103008_1]) ?_ rfl; (with_reducible repeat (first | refine blk_drewN ?_ _ | refine blk_drew ?_ | refine blk_alloc ?_ _)); exact BK102.out) Try.underlying44 rfl (by kernel_rfl)) rfl ?_
    exact ⟨by first | rfl | (simp [errW_none, errW_some] <;> rfl) | (simp [*, errW_none, errW_some] <;> rfl), by repeat (first | (with_reducible first | exact HB.out | apply below_alloc | apply pw_below_drewN | apply below_drew1 | refine below_set ?_ GE101.out | refine below_set ?_ GE102.out) | exact HB.out)⟩

end Go.Proofs.Ytdbnjjkapelekaa.X
