/- Written by a program of this session over the kit's print: YtdbnjjkapelekaaF17. -/
import Derived.Test.YtdbnjjkapelekaaH
import Derived.Test.YtdbnjjkapelekaaF25
namespace Go.Proofs.Ytdbnjjkapelekaa.X
open Go.RowKit Go.Proofs.YtdbnjjkapelekaaW.PrintWords Go.Proofs.YtdbnjjkapelekaaW.PrintLast Go.Proofs.YtdbnjjkapelekaaW.PrintMore Go.Proofs.Ytdbnjjkapelekaa.More
attribute [local go_sem] max2_int min2_int max_two min_two max_three min_three max_four min_four binOp_string_leq binOp_string_gtr   -- for this text's walks alone
set_option linter.unusedVariables false
set_option linter.unusedSimpArgs false

/-! ### donjonlaw18_rules: function 17 -/
mutual
def donjonlaw18_rules.l0 : Nat → List (S44) → Int → List (S44) → Int → ByteArray → Int → Int → Int → Int → ByteArray → Int → Int → Int → Int → ByteArray → Option ((List (S44)))
 | 0, _, _, _, _, _, _, _, _, _, _, _, _, _, _, _ => none
 | k + 1, x0, x2, x7, x8, x102000, x102001, x102002, x102003, x102004, x102005, x102006, x102007, x102008, x102009, x102010 => if x8 < (x0.length : Int) then (donjonlaw18_rules.j1 k x0 x2 x7 x8 (decide (x8 < 8)) x102000 x102001 x102002 x102003 x102004 x102005 x102006 x102007 x102008 x102009 x102010) else (donjonlaw18_rules.j1 k x0 x2 x7 x8 false x102000 x102001 x102002 x102003 x102004 x102005 x102006 x102007 x102008 x102009 x102010)
def donjonlaw18_rules.j1 : Nat → List (S44) → Int → List (S44) → Int → Bool → ByteArray → Int → Int → Int → Int → ByteArray → Int → Int → Int → Int → ByteArray → Option ((List (S44)))
 | 0, _, _, _, _, _, _, _, _, _, _, _, _, _, _, _, _ => none
 | k + 1, x0, x2, x7, x8, x17, x102000, x102001, x102002, x102003, x102004, x102005, x102006, x102007, x102008, x102009, x102010 => if x17 = true then (if 0 ≤ x8 then (if x8 < (x0.length : Int) then ((donjonlaw4_Good.f ((rd_T44 x0 x8).f0.f0) ((rd_T44 x0 x8).f0.f1) ((rd_T44 x0 x8).f0.f2) ((rd_T44 x0 x8).f0.f3)).bind fun bt103 => ((donjonlaw4_Good.f ((rd_T44 x0 x8).f1.f0) ((rd_T44 x0 x8).f1.f1) ((rd_T44 x0 x8).f1.f2) ((rd_T44 x0 x8).f1.f3)).bind fun bt108 => (if x8 = x2 then (if x7.length < 1759218604441 then (donjonlaw18_rules.l0 k x0 x2 (x7 ++ [(⟨(⟨x102001, x102002, x102003, x102004⟩ : S26), (⟨x102006, x102007, x102008, x102009⟩ : S26), (rd_T44 x0 x8).f2⟩ : S44)]) (wrap64 (x8 + 1)) x102000 x102001 x102002 x102003 x102004 x102005 x102006 x102007 x102008 x102009 x102010) else (none)) else (if x7.length < 1759218604441 then (donjonlaw18_rules.l0 k x0 x2 (x7 ++ [(⟨(⟨bt103.1, bt103.2.1, bt103.2.2.1, bt103.2.2.2⟩ : S26), (⟨bt108.1, bt108.2.1, bt108.2.2.1, bt108.2.2.2⟩ : S26), (rd_T44 x0 x8).f2⟩ : S44)]) (wrap64 (x8 + 1)) x102000 x102001 x102002 x102003 x102004 x102005 x102006 x102007 x102008 x102009 x102010) else (none))))) else (none)) else (none)) else (some x7)
end
def donjonlaw18_rules.f (k : Nat) (l0 : List (S44)) (a1_0 : ByteArray) (a1_1 : Int) (a1_2 : Int) (a1_3 : Int) (a1_4 : Int) (a1_5 : ByteArray) (a1_6 : Int) (a1_7 : Int) (a1_8 : Int) (a1_9 : Int) (a1_10 : ByteArray) (a2 : Int) : Option ((List (S44))) := donjonlaw18_rules.l0 k l0 a2 ([] : List (S44)) 0 a1_0 a1_1 a1_2 a1_3 a1_4 a1_5 a1_6 a1_7 a1_8 a1_9 a1_10
theorem donjonlaw18_rules.mono_l : ∀ k, (∀ y0 y1 y2 y3 y4 y5 y6 y7 y8 y9 y10 y11 y12 y13 y14, LeO (donjonlaw18_rules.l0 k y0 y1 y2 y3 y4 y5 y6 y7 y8 y9 y10 y11 y12 y13 y14) (donjonlaw18_rules.l0 (k + 1) y0 y1 y2 y3 y4 y5 y6 y7 y8 y9 y10 y11 y12 y13 y14)) ∧ (∀ y0 y1 y2 y3 y4 y5 y6 y7 y8 y9 y10 y11 y12 y13 y14 y15, LeO (donjonlaw18_rules.j1 k y0 y1 y2 y3 y4 y5 y6 y7 y8 y9 y10 y11 y12 y13 y14 y15) (donjonlaw18_rules.j1 (k + 1) y0 y1 y2 y3 y4 y5 y6 y7 y8 y9 y10 y11 y12 y13 y14 y15))
 | 0 => ⟨fun _ _ _ _ _ _ _ _ _ _ _ _ _ _ _ r h => by simp [donjonlaw18_rules.l0] at h, fun _ _ _ _ _ _ _ _ _ _ _ _ _ _ _ _ r h => by simp [donjonlaw18_rules.j1] at h⟩
 | k + 1 => by
  obtain ⟨ih0, ih1⟩ := donjonlaw18_rules.mono_l k
  refine ⟨?_, ?_⟩
  ·intro y0 y1 y2 y3 y4 y5 y6 y7 y8 y9 y10 y11 y12 y13 y14
   unfold donjonlaw18_rules.l0
   repeat' first
   | (with_reducible exact ih0 _ _ _ _ _ _ _ _ _ _ _ _ _ _ _)
   | (with_reducible exact ih1 _ _ _ _ _ _ _ _ _ _ _ _ _ _ _ _)
   | (with_reducible exact LeO.refl _)
   | (with_reducible exact LeO.none _)
   | (with_reducible refine LeO.ite ?_ ?_)
   | (with_reducible refine LeO.bind ?_ (fun _ => ?_))
   | exact ih0 _ _ _ _ _ _ _ _ _ _ _ _ _ _ _
   | exact ih1 _ _ _ _ _ _ _ _ _ _ _ _ _ _ _ _
   | exact LeO.none _
   | refine LeO.ite ?_ ?_
   | refine LeO.bind ?_ (fun _ => ?_)
  ·intro y0 y1 y2 y3 y4 y5 y6 y7 y8 y9 y10 y11 y12 y13 y14 y15
   unfold donjonlaw18_rules.j1
   repeat' first
   | (with_reducible exact ih0 _ _ _ _ _ _ _ _ _ _ _ _ _ _ _)
   | (with_reducible exact ih1 _ _ _ _ _ _ _ _ _ _ _ _ _ _ _ _)
   | (with_reducible exact LeO.refl _)
   | (with_reducible exact LeO.none _)
   | (with_reducible refine LeO.ite ?_ ?_)
   | (with_reducible refine LeO.bind ?_ (fun _ => ?_))
   | exact ih0 _ _ _ _ _ _ _ _ _ _ _ _ _ _ _
   | exact ih1 _ _ _ _ _ _ _ _ _ _ _ _ _ _ _ _
   | exact LeO.none _
   | refine LeO.ite ?_ ?_
   | refine LeO.bind ?_ (fun _ => ?_)
theorem donjonlaw18_rules.mono : ∀ a0 a1 a2 a3 a4 a5 a6 a7 a8 a9 a10 a11 a12 k, LeO (donjonlaw18_rules.f k a0 a1 a2 a3 a4 a5 a6 a7 a8 a9 a10 a11 a12) (donjonlaw18_rules.f (k + 1) a0 a1 a2 a3 a4 a5 a6 a7 a8 a9 a10 a11 a12) := by
 intro a0 a1 a2 a3 a4 a5 a6 a7 a8 a9 a10 a11 a12 k
 obtain ⟨ih0, ih1⟩ := donjonlaw18_rules.mono_l k
 unfold donjonlaw18_rules.f
 repeat' first
   | (with_reducible exact ih0 _ _ _ _ _ _ _ _ _ _ _ _ _ _ _)
   | (with_reducible exact ih1 _ _ _ _ _ _ _ _ _ _ _ _ _ _ _ _)
   | (with_reducible exact LeO.refl _)
   | (with_reducible exact LeO.none _)
   | (with_reducible refine LeO.ite ?_ ?_)
   | (with_reducible refine LeO.bind ?_ (fun _ => ?_))
   | exact ih0 _ _ _ _ _ _ _ _ _ _ _ _ _ _ _
   | exact ih1 _ _ _ _ _ _ _ _ _ _ _ _ _ _ _ _
   | exact LeO.none _
   | refine LeO.ite ?_ ?_
   | refine LeO.bind ?_ (fun _ => ?_)
def donjonlaw18_rules.T5 : Bool × List (List Nat × List Nat) := (true, [([], []), ([], []), ([0, 1], [0, 1]), ([2], [2]), ([3], [3]), ([4], [4]), ([], []), ([], []), ([6, 7], [6, 7]), ([8], [8]), ([9], [9]), ([10, 5], [10]), ([], []), ([], []), ([12, 13], [12, 13]), ([14], [14]), ([15], [15]), ([5, 11, 16], [5, 11, 16]), ([], []), ([18, 17, 11, 0, 1, 2, 3, 4, 5, 6, 7, 8, 9, 10, 11, 12, 13, 14, 15, 16, 17, 18], [17, 18])])
def donjonlaw18_rules.B5 : List Nat := [0, 0, 3, 7, 15, 31, 0, 0, 192, 448, 960, 2047, 0, 0, 12288, 28672, 61440, 131071, 0, 524287]
theorem donjonlaw18_rules.tab5 : rtab .any (opsOf Try.f17 5) = donjonlaw18_rules.T5 := by kernel_rfl
theorem donjonlaw18_rules.bits5 : waitsOk donjonlaw18_rules.T5.2 donjonlaw18_rules.B5 = true := by kernel_rfl
def donjonlaw18_rules.T7 : Bool × List (List Nat × List Nat) := (true, [([], []), ([0], [0]), ([], []), ([2], [2]), ([0, 1], []), ([4, 1, 0, 1], [1, 4]), ([0, 1, 2, 3, 4, 5], []), ([6, 3, 5, 0, 1, 2, 3, 4, 5], [3, 6])])
def donjonlaw18_rules.B7 : List Nat := [0, 1, 0, 4, 3, 19, 63, 127]
theorem donjonlaw18_rules.tab7 : rtab .any (opsOf Try.f17 7) = donjonlaw18_rules.T7 := by kernel_rfl
theorem donjonlaw18_rules.bits7 : waitsOk donjonlaw18_rules.T7.2 donjonlaw18_rules.B7 = true := by kernel_rfl
set_option maxHeartbeats 8000000 in
set_option maxRecDepth 100000 in
theorem donjonlaw18_rules.calls (k : Nat) (A0 : Option Addr) (c0 : Nat) (l0 : List (S44)) (a1_0 : ByteArray) (a1_1 : Int) (a1_2 : Int) (a1_3 : Int) (a1_4 : Int) (a1_5 : ByteArray) (a1_6 : Int) (a1_7 : Int) (a1_8 : Int) (a1_9 : Int) (a1_10 : ByteArray) (a2 : Int) (r : List (S44)) (w : World) (hr0 : Kd.C k44 w A0 l0.length l0) (hc0 : l0.length ≤ c0) (h : donjonlaw18_rules.f k l0 a1_0 a1_1 a1_2 a1_3 a1_4 a1_5 a1_6 a1_7 a1_8 a1_9 a1_10 a2 = some r) :
  Calls Try.prog 17 #[.slice A0 l0.length c0, .agg #[.string a1_0, .int .i64 a1_1, .int .i64 a1_2, .int .i64 a1_3, .int .i64 a1_4, .string a1_5, .int .i64 a1_6, .int .i64 a1_7, .int .i64 a1_8, .int .i64 a1_9, .string a1_10], .int .i64 a2] w fun e w' => ∃ v0_ : Value, e = .returned (v0_) ∧ Kd.R k44 44 w' w.heap.size (fun _ => True) v0_ r ∧ Below w.heap.size w w' := by
 have hu28 := Try.underlying28
 have hu26 := Try.underlying26
 have hu44 := Try.underlying44
 have HR0 := Aside0.mk hr0
 have HC0 := Aside0.mk hc0
 clear hr0 hc0
 have HB := Aside0.mk (Below.refl w.heap.size w)
 have H : (donjonlaw18_rules.l0 k l0 a2 ([] : List (S44)) 0 a1_0 a1_1 a1_2 a1_3 a1_4 a1_5 a1_6 a1_7 a1_8 a1_9 a1_10) = some r := h
 clear h
 have H' := Aside0.mk H
 clear H
 go_enter Try.func17, Try.ntmps17
 go_wp2_with (first | ((with_reducible refine gate_dst (N := 4) rfl ?_); refine box_event ?hg (N := 4) ?hd (cs := #[.string a1_0, .int .i64 a1_1, .int .i64 a1_2, .int .i64 a1_3, .int .i64 a1_4, .string a1_5, .int .i64 a1_6, .int .i64 a1_7, .int .i64 a1_8, .int .i64 a1_9, .string a1_10]) (t := 28) ?hr ?_; (case hd => rfl); (case hg => rfl); (case hr => first | (go_simp; done) | (go_simp; rfl)); intro gb101 hg w4 hbox hb; have n0_ := Aside0.mk (below_step (bl_ HB.out) hb); have n1_ := Aside0.mk (hbox); have n2_ := Aside0.mk ((by rw [hg]; exact (below_size (bl_ HB.out)) : w.heap.size ≤ gb101)); have n3_ := Aside0.mk ((by rw [hg]; exact (below_size (bl_ HB.out)) : w.heap.size ≤ gb101)); clear HB; have HB := n0_; have BK101 := n1_; have GW101 := n2_; have GE101 := n3_; clear n0_ n1_ n2_ n3_; clear hb hbox hg))
 go_loopg [7, 8] k (fun kq v7 v8 w' => ∃ (x7_1 : List (S44)) (x8_1 : Int), v8 = .int .i64 x8_1 ∧ Aside0 (donjonlaw18_rules.l0 kq l0 a2 x7_1 x8_1 a1_0 a1_1 a1_2 a1_3 a1_4 a1_5 a1_6 a1_7 a1_8 a1_9 a1_10 = some r) ∧ Aside0 (kq ≤ k) ∧ Aside0 (Kd.R k44 44 w' w.heap.size (fun _ => True) v7 x7_1) ∧ Aside0 (w'.heap[gb101]? = some (.cells #[.string a1_0, .int .i64 a1_1, .int .i64 a1_2, .int .i64 a1_3, .int .i64 a1_4, .string a1_5, .int .i64 a1_6, .int .i64 a1_7, .int .i64 a1_8, .int .i64 a1_9, .string a1_10] 28 (0, 0))) ∧ Aside0 (Below w.heap.size w w'))
 case atStart => exact ⟨(([] : List (S44))), (0), (by first | rfl | (simp; done) | (simp [*]; done)), H', ⟨Nat.le_refl _⟩, ⟨by first | exact Kd.R_nil _ _ _ _ _ | exact Kd.N_nil _ _ _ _ _ | exact Kd.V_nil _ _ _ _ _ | exact Kd.Q_nil _ _ _ _ _ | exact Kd.S_nil _ _ _ _ _⟩, ⟨by (with_reducible repeat (first | refine blk_drewN ?_ _ | refine blk_drew ?_ | refine blk_alloc ?_ _)); exact BK101.out⟩, ⟨by repeat (first | (with_reducible first | exact HB.out | apply below_alloc | apply pw_below_drewN | apply below_drew1 | refine below_set ?_ GE101.out) | exact HB.out)⟩⟩
 case round =>
  clear H'
  try clear c1
  try clear p2
  obtain ⟨x7_1, x8_1, rfl, HA, HK1, HO_7, BK101, HB⟩ := hrel
  cases gk with
  | zero => exact absurd HA.out (by simp [donjonlaw18_rules.l0])
  | succ k1 =>
   have H := HA.out
   clear HA
   simp only [donjonlaw18_rules.l0] at H
   have HC5 := Aside0.mk H
   clear H
   go_upto_region 3 with (fail)
   go_cut [17] (fun v17 wc => ∃ (kq : Nat) (x17_4 : Bool), v17 = .bool x17_4 ∧ Aside0 (donjonlaw18_rules.j1 kq l0 a2 x7_1 x8_1 x17_4 a1_0 a1_1 a1_2 a1_3 a1_4 a1_5 a1_6 a1_7 a1_8 a1_9 a1_10 = some r) ∧ Aside0 (kq ≤ k1) ∧ Aside0 (Kd.R k44 44 wc w.heap.size (fun _ => True) u7 x7_1) ∧ Aside0 (wc.heap[gb101]? = some (.cells #[.string a1_0, .int .i64 a1_1, .int .i64 a1_2, .int .i64 a1_3, .int .i64 a1_4, .string a1_5, .int .i64 a1_6, .int .i64 a1_7, .int .i64 a1_8, .int .i64 a1_9, .string a1_10] 28 (0, 0))) ∧ Aside0 (Below w.heap.size w wc))
   case first =>
    have H := HC5.out
    clear HC5
    by_cases c6 : x8_1 < (l0.length : Int)
    ·rw [if_pos c6] at H
     have c6b0 : decide (x8_1 < (l0.length : Int)) = true := decide_eq_true c6
     clear c6
     (first | rw [c6b0] | (simp only [i64_w, i32_w]; rw [c6b0]) | skip)
     have H' := Aside0.mk H
     clear H
     go_wp2
     go_meet
     case rel => exact ⟨_, (decide (x8_1 < 8)), (by first | rfl | (simp; done) | (simp [*]; done)), H', ⟨by have := HK1.out; first | omega | exact Nat.le_refl _⟩, ⟨by (with_reducible repeat (first | apply Kd.R_alloc | apply Kd.R_drewN | apply Kd.R_drew)); exact HO_7.out⟩, ⟨by (with_reducible repeat (first | refine blk_drewN ?_ _ | refine blk_drew ?_ | refine blk_alloc ?_ _)); exact BK101.out⟩, ⟨by repeat (first | (with_reducible first | exact HB.out | apply below_alloc | apply pw_below_drewN | apply below_drew1 | refine below_set ?_ GE101.out) | exact HB.out)⟩⟩
    ·rw [if_neg c6] at H
     have c6b0 : decide (x8_1 < (l0.length : Int)) = false := decide_eq_false c6
     clear c6
     (first | rw [c6b0] | (simp only [i64_w, i32_w]; rw [c6b0]) | skip)
     have H' := Aside0.mk H
     clear H
     go_wp2
     go_meet
     case rel => exact ⟨_, (false), (by first | rfl | (simp; done) | (simp [*]; done)), H', ⟨by have := HK1.out; first | omega | exact Nat.le_refl _⟩, ⟨by (with_reducible repeat (first | apply Kd.R_alloc | apply Kd.R_drewN | apply Kd.R_drew)); exact HO_7.out⟩, ⟨by (with_reducible repeat (first | refine blk_drewN ?_ _ | refine blk_drew ?_ | refine blk_alloc ?_ _)); exact BK101.out⟩, ⟨by repeat (first | (with_reducible first | exact HB.out | apply below_alloc | apply pw_below_drewN | apply below_drew1 | refine below_set ?_ GE101.out) | exact HB.out)⟩⟩
   case rest =>
    clear HC5
    try clear c1
    try clear p2
    try clear c6
    try clear c6b0
    try clear p2
    obtain ⟨kq, x17_4, rfl, HA, HJ4, HO_7, BK101, HB⟩ := hcut
    cases kq with
    | zero => exact absurd HA.out (by simp [donjonlaw18_rules.j1])
    | succ kj4 =>
     have H := HA.out
     clear HA
     simp only [donjonlaw18_rules.j1] at H
     by_cases c7 : x17_4 = true
     ·subst c7
      have H1 : (if 0 ≤ x8_1 then (if x8_1 < (l0.length : Int) then ((donjonlaw4_Good.f ((rd_T44 l0 x8_1).f0.f0) ((rd_T44 l0 x8_1).f0.f1) ((rd_T44 l0 x8_1).f0.f2) ((rd_T44 l0 x8_1).f0.f3)).bind fun bt103 => ((donjonlaw4_Good.f ((rd_T44 l0 x8_1).f1.f0) ((rd_T44 l0 x8_1).f1.f1) ((rd_T44 l0 x8_1).f1.f2) ((rd_T44 l0 x8_1).f1.f3)).bind fun bt108 => (if x8_1 = a2 then (if x7_1.length < 1759218604441 then (donjonlaw18_rules.l0 kj4 l0 a2 (x7_1 ++ [(⟨(⟨a1_1, a1_2, a1_3, a1_4⟩ : S26), (⟨a1_6, a1_7, a1_8, a1_9⟩ : S26), (rd_T44 l0 x8_1).f2⟩ : S44)]) (wrap64 (x8_1 + 1)) a1_0 a1_1 a1_2 a1_3 a1_4 a1_5 a1_6 a1_7 a1_8 a1_9 a1_10) else (none)) else (if x7_1.length < 1759218604441 then (donjonlaw18_rules.l0 kj4 l0 a2 (x7_1 ++ [(⟨(⟨bt103.1, bt103.2.1, bt103.2.2.1, bt103.2.2.2⟩ : S26), (⟨bt108.1, bt108.2.1, bt108.2.2.1, bt108.2.2.2⟩ : S26), (rd_T44 l0 x8_1).f2⟩ : S44)]) (wrap64 (x8_1 + 1)) a1_0 a1_1 a1_2 a1_3 a1_4 a1_5 a1_6 a1_7 a1_8 a1_9 a1_10) else (none))))) else (none)) else (none)) = some r := by rw [if_pos rfl] at H; exact H
      clear H
      have H := H1
      clear H1
      by_cases c8 : 0 ≤ x8_1
      ·rw [if_pos c8] at H
       have c8b0 : decide (0 ≤ x8_1) = true := decide_eq_true c8
       clear c8
       by_cases c9 : x8_1 < (l0.length : Int)
       ·rw [if_pos c9] at H
        have c9b0 : decide (x8_1 < (l0.length : Int)) = true := decide_eq_true c9
        clear c9
        replace H := Option.bind_eq_some_iff.mp H
        obtain ⟨⟨t103, t104, t105, t106⟩, A100, H⟩ := H
        replace H : ((donjonlaw4_Good.f ((rd_T44 l0 x8_1).f1.f0) ((rd_T44 l0 x8_1).f1.f1) ((rd_T44 l0 x8_1).f1.f2) ((rd_T44 l0 x8_1).f1.f3)).bind fun bt108 => (if x8_1 = a2 then (if x7_1.length < 1759218604441 then (donjonlaw18_rules.l0 kj4 l0 a2 (x7_1 ++ [(⟨(⟨a1_1, a1_2, a1_3, a1_4⟩ : S26), (⟨a1_6, a1_7, a1_8, a1_9⟩ : S26), (rd_T44 l0 x8_1).f2⟩ : S44)]) (wrap64 (x8_1 + 1)) a1_0 a1_1 a1_2 a1_3 a1_4 a1_5 a1_6 a1_7 a1_8 a1_9 a1_10) else (none)) else (if x7_1.length < 1759218604441 then (donjonlaw18_rules.l0 kj4 l0 a2 (x7_1 ++ [(⟨(⟨t103, t104, t105, t106⟩ : S26), (⟨bt108.1, bt108.2.1, bt108.2.2.1, bt108.2.2.2⟩ : S26), (rd_T44 l0 x8_1).f2⟩ : S44)]) (wrap64 (x8_1 + 1)) a1_0 a1_1 a1_2 a1_3 a1_4 a1_5 a1_6 a1_7 a1_8 a1_9 a1_10) else (none)))) = some r := H
        have A10 := Aside0.mk A100
        clear A100
        replace H := Option.bind_eq_some_iff.mp H
        obtain ⟨⟨t108, t109, t110, t111⟩, A110, H⟩ := H
        replace H : (if x8_1 = a2 then (if x7_1.length < 1759218604441 then (donjonlaw18_rules.l0 kj4 l0 a2 (x7_1 ++ [(⟨(⟨a1_1, a1_2, a1_3, a1_4⟩ : S26), (⟨a1_6, a1_7, a1_8, a1_9⟩ : S26), (rd_T44 l0 x8_1).f2⟩ : S44)]) (wrap64 (x8_1 + 1)) a1_0 a1_1 a1_2 a1_3 a1_4 a1_5 a1_6 a1_7 a1_8 a1_9 a1_10) else (none)) else (if x7_1.length < 1759218604441 then (donjonlaw18_rules.l0 kj4 l0 a2 (x7_1 ++ [(⟨(⟨t103, t104, t105, t106⟩ : S26), (⟨t108, t109, t110, t111⟩ : S26), (rd_T44 l0 x8_1).f2⟩ : S44)]) (wrap64 (x8_1 + 1)) a1_0 a1_1 a1_2 a1_3 a1_4 a1_5 a1_6 a1_7 a1_8 a1_9 a1_10) else (none))) = some r := H
        have A11 := Aside0.mk A110
        clear A110
        by_cases c12 : x8_1 = a2
        ·rw [if_pos c12] at H
         have c12b0 : (x8_1 == a2) = true := beq_iff_eq.mpr c12
         have c12b1 : (x8_1 != a2) = false := bne_eq_false_iff_eq.mpr c12
         clear c12
         by_cases c13 : x7_1.length < 1759218604441
         ·rw [if_pos c13] at H
          have LMc13 := Aside0.mk c13
          clear c13
          obtain ⟨y114, hy114⟩ : ∃ y_ : List (S44), y_ = (x7_1 ++ [(⟨(⟨a1_1, a1_2, a1_3, a1_4⟩ : S26), (⟨a1_6, a1_7, a1_8, a1_9⟩ : S26), (rd_T44 l0 x8_1).f2⟩ : S44)]) := ⟨_, rfl⟩
          replace H : (donjonlaw18_rules.l0 kj4 l0 a2 y114 (wrap64 (x8_1 + 1)) a1_0 a1_1 a1_2 a1_3 a1_4 a1_5 a1_6 a1_7 a1_8 a1_9 a1_10) = some r := by first | (rw [hy114]; with_reducible exact H) | (have H2_ := (Option.bind_some _ _).symm.trans H; rw [hy114]; with_reducible exact H2_) | (have H2_ := (Option.bind_some _ _).symm.trans H; with_reducible exact H2_) | with_reducible exact H | (rw [hy114]; exact H) | exact H
          have Ny114 := Aside0.mk hy114
          clear hy114
          have H' := Aside0.mk H
          clear H
          try go_wp2
          have n0_ := Aside0.mk (Kd.R_drew HO_7.out)
          have n1_ := Aside0.mk (blk_drew BK101.out)
          have n2_ := Aside0.mk (below_drew1 HB.out)
          clear HO_7 BK101 HB
          have HO_7 := n0_; have BK101 := n1_; have HB := n2_
          clear n0_ n1_ n2_
          have p102 : 0 ≤ (x8_1 : Int) := of_decide_eq_true (by first | (with_reducible assumption) | assumption)
          have q102 : x8_1 < (l0.length : Int) := of_decide_eq_true (by first | (with_reducible assumption) | assumption)
          obtain ⟨ad102, e102, hx102_0, hx102_1, hx102_2, hx102_3, hx102_4, hx102_5, hx102_6, hx102_7, hx102_8⟩ := at_T44 HR0.out x8_1 p102 q102
          have hw102_8 := hx102_8
          have hw102_7 := hx102_7
          have hw102_6 := hx102_6
          have hw102_5 := hx102_5
          have hw102_4 := hx102_4
          have hw102_3 := hx102_3
          have hw102_2 := hx102_2
          have hw102_1 := hx102_1
          have hw102_0 := hx102_0
          cases e102
          replace hx102_0 := bcell_ HB.out hx102_0
          replace hx102_1 := bcell_ HB.out hx102_1
          replace hx102_2 := bcell_ HB.out hx102_2
          replace hx102_3 := bcell_ HB.out hx102_3
          replace hx102_4 := bcell_ HB.out hx102_4
          replace hx102_5 := bcell_ HB.out hx102_5
          replace hx102_6 := bcell_ HB.out hx102_6
          replace hx102_7 := bcell_ HB.out hx102_7
          replace hx102_8 := bcell_ HB.out hx102_8
          replace p102 := eq_true p102
          replace q102 := eq_true q102
          have p107 : 0 ≤ (x8_1 : Int) := of_decide_eq_true (by first | (with_reducible assumption) | assumption)
          have q107 : x8_1 < (l0.length : Int) := of_decide_eq_true (by first | (with_reducible assumption) | assumption)
          obtain ⟨ad107, e107, hx107_0, hx107_1, hx107_2, hx107_3, hx107_4, hx107_5, hx107_6, hx107_7, hx107_8⟩ := at_T44 HR0.out x8_1 p107 q107
          have hw107_8 := hx107_8
          have hw107_7 := hx107_7
          have hw107_6 := hx107_6
          have hw107_5 := hx107_5
          have hw107_4 := hx107_4
          have hw107_3 := hx107_3
          have hw107_2 := hx107_2
          have hw107_1 := hx107_1
          have hw107_0 := hx107_0
          obtain rfl : ad102 = ad107 := (by injection e107)
          replace hx107_0 := bcell_ HB.out hx107_0
          replace hx107_1 := bcell_ HB.out hx107_1
          replace hx107_2 := bcell_ HB.out hx107_2
          replace hx107_3 := bcell_ HB.out hx107_3
          replace hx107_4 := bcell_ HB.out hx107_4
          replace hx107_5 := bcell_ HB.out hx107_5
          replace hx107_6 := bcell_ HB.out hx107_6
          replace hx107_7 := bcell_ HB.out hx107_7
          replace hx107_8 := bcell_ HB.out hx107_8
          replace p107 := eq_true p107
          replace q107 := eq_true q107
          have p112 : 0 ≤ (x8_1 : Int) := of_decide_eq_true (by first | (with_reducible assumption) | assumption)
          have q112 : x8_1 < (l0.length : Int) := of_decide_eq_true (by first | (with_reducible assumption) | assumption)
          obtain ⟨ad112, e112, hx112_0, hx112_1, hx112_2, hx112_3, hx112_4, hx112_5, hx112_6, hx112_7, hx112_8⟩ := at_T44 HR0.out x8_1 p112 q112
          have hw112_8 := hx112_8
          have hw112_7 := hx112_7
          have hw112_6 := hx112_6
          have hw112_5 := hx112_5
          have hw112_4 := hx112_4
          have hw112_3 := hx112_3
          have hw112_2 := hx112_2
          have hw112_1 := hx112_1
          have hw112_0 := hx112_0
          obtain rfl : ad102 = ad112 := (by injection e112)
          replace hx112_0 := bcell_ HB.out hx112_0
          replace hx112_1 := bcell_ HB.out hx112_1
          replace hx112_2 := bcell_ HB.out hx112_2
          replace hx112_3 := bcell_ HB.out hx112_3
          replace hx112_4 := bcell_ HB.out hx112_4
          replace hx112_5 := bcell_ HB.out hx112_5
          replace hx112_6 := bcell_ HB.out hx112_6
          replace hx112_7 := bcell_ HB.out hx112_7
          replace hx112_8 := bcell_ HB.out hx112_8
          replace p112 := eq_true p112
          replace q112 := eq_true q112
          refine start_ (n := 20) (S := fun w' => w'.cell? (ad102.add ((x8_1).toNat * 9)) = some (.int .i64 ((rd_T44 l0 x8_1).f0.f0)) ∧ w'.cell? ⟨(ad102.add ((x8_1).toNat * 9)).block, (ad102.add ((x8_1).toNat * 9)).off + 1, none⟩ = some (.int .i64 ((rd_T44 l0 x8_1).f0.f1)) ∧ w'.cell? ⟨(ad102.add ((x8_1).toNat * 9)).block, (ad102.add ((x8_1).toNat * 9)).off + 2, none⟩ = some (.int .i64 ((rd_T44 l0 x8_1).f0.f2)) ∧ w'.cell? ⟨(ad102.add ((x8_1).toNat * 9)).block, (ad102.add ((x8_1).toNat * 9)).off + 3, none⟩ = some (.int .i64 ((rd_T44 l0 x8_1).f0.f3)) ∧ w'.cell? ⟨(ad102.add ((x8_1).toNat * 9)).block, (ad102.add ((x8_1).toNat * 9)).off + 4, none⟩ = some (.int .i64 ((rd_T44 l0 x8_1).f1.f0)) ∧ w'.cell? ⟨(ad102.add ((x8_1).toNat * 9)).block, (ad102.add ((x8_1).toNat * 9)).off + 5, none⟩ = some (.int .i64 ((rd_T44 l0 x8_1).f1.f1)) ∧ w'.cell? ⟨(ad102.add ((x8_1).toNat * 9)).block, (ad102.add ((x8_1).toNat * 9)).off + 6, none⟩ = some (.int .i64 ((rd_T44 l0 x8_1).f1.f2)) ∧ w'.cell? ⟨(ad102.add ((x8_1).toNat * 9)).block, (ad102.add ((x8_1).toNat * 9)).off + 7, none⟩ = some (.int .i64 ((rd_T44 l0 x8_1).f1.f3)) ∧ w'.cell? ⟨(ad102.add ((x8_1).toNat * 9)).block, (ad102.add ((x8_1).toNat * 9)).off + 8, none⟩ = some (.string ((rd_T44 l0 x8_1).f2)) ∧ w'.cell? (ad102.add ((x8_1).toNat * 9)) = some (.int .i64 ((rd_T44 l0 x8_1).f0.f0)) ∧ w'.cell? ⟨(ad102.add ((x8_1).toNat * 9)).block, (ad102.add ((x8_1).toNat * 9)).off + 1, none⟩ = some (.int .i64 ((rd_T44 l0 x8_1).f0.f1)) ∧ w'.cell? ⟨(ad102.add ((x8_1).toNat * 9)).block, (ad102.add ((x8_1).toNat * 9)).off + 2, none⟩ = some (.int .i64 ((rd_T44 l0 x8_1).f0.f2)) ∧ w'.cell? ⟨(ad102.add ((x8_1).toNat * 9)).block, (ad102.add ((x8_1).toNat * 9)).off + 3, none⟩ = some (.int .i64 ((rd_T44 l0 x8_1).f0.f3)) ∧ w'.cell? ⟨(ad102.add ((x8_1).toNat * 9)).block, (ad102.add ((x8_1).toNat * 9)).off + 4, none⟩ = some (.int .i64 ((rd_T44 l0 x8_1).f1.f0)) ∧ w'.cell? ⟨(ad102.add ((x8_1).toNat * 9)).block, (ad102.add ((x8_1).toNat * 9)).off + 5, none⟩ = some (.int .i64 ((rd_T44 l0 x8_1).f1.f1)) ∧ w'.cell? ⟨(ad102.add ((x8_1).toNat * 9)).block, (ad102.add ((x8_1).toNat * 9)).off + 6, none⟩ = some (.int .i64 ((rd_T44 l0 x8_1).f1.f2)) ∧ w'.cell? ⟨(ad102.add ((x8_1).toNat * 9)).block, (ad102.add ((x8_1).toNat * 9)).off + 7, none⟩ = some (.int .i64 ((rd_T44 l0 x8_1).f1.f3)) ∧ w'.cell? ⟨(ad102.add ((x8_1).toNat * 9)).block, (ad102.add ((x8_1).toNat * 9)).off + 8, none⟩ = some (.string ((rd_T44 l0 x8_1).f2)) ∧ w'.cell? (ad102.add ((x8_1).toNat * 9)) = some (.int .i64 ((rd_T44 l0 x8_1).f0.f0)) ∧ w'.cell? ⟨(ad102.add ((x8_1).toNat * 9)).block, (ad102.add ((x8_1).toNat * 9)).off + 1, none⟩ = some (.int .i64 ((rd_T44 l0 x8_1).f0.f1)) ∧ w'.cell? ⟨(ad102.add ((x8_1).toNat * 9)).block, (ad102.add ((x8_1).toNat * 9)).off + 2, none⟩ = some (.int .i64 ((rd_T44 l0 x8_1).f0.f2)) ∧ w'.cell? ⟨(ad102.add ((x8_1).toNat * 9)).block, (ad102.add ((x8_1).toNat * 9)).off + 3, none⟩ = some (.int .i64 ((rd_T44 l0 x8_1).f0.f3)) ∧ w'.cell? ⟨(ad102.add ((x8_1).toNat * 9)).block, (ad102.add ((x8_1).toNat * 9)).off + 4, none⟩ = some (.int .i64 ((rd_T44 l0 x8_1).f1.f0)) ∧ w'.cell? ⟨(ad102.add ((x8_1).toNat * 9)).block, (ad102.add ((x8_1).toNat * 9)).off + 5, none⟩ = some (.int .i64 ((rd_T44 l0 x8_1).f1.f1)) ∧ w'.cell? ⟨(ad102.add ((x8_1).toNat * 9)).block, (ad102.add ((x8_1).toNat * 9)).off + 6, none⟩ = some (.int .i64 ((rd_T44 l0 x8_1).f1.f2)) ∧ w'.cell? ⟨(ad102.add ((x8_1).toNat * 9)).block, (ad102.add ((x8_1).toNat * 9)).off + 7, none⟩ = some (.int .i64 ((rd_T44 l0 x8_1).f1.f3)) ∧ w'.cell? ⟨(ad102.add ((x8_1).toNat * 9)).block, (ad102.add ((x8_1).toNat * 9)).off + 8, none⟩ = some (.string ((rd_T44 l0 x8_1).f2))) (ds := []) #[false, false, false, false, false, false, false, false, false, false, false, false, false, false, false, false, false, false, false, false] (by kernel_rfl) rfl rfl ⟨(bcell_ HB.out hw102_0), (bcell_ HB.out hw102_1), (bcell_ HB.out hw102_2), (bcell_ HB.out hw102_3), (bcell_ HB.out hw102_4), (bcell_ HB.out hw102_5), (bcell_ HB.out hw102_6), (bcell_ HB.out hw102_7), (bcell_ HB.out hw102_8), (bcell_ HB.out hw107_0), (bcell_ HB.out hw107_1), (bcell_ HB.out hw107_2), (bcell_ HB.out hw107_3), (bcell_ HB.out hw107_4), (bcell_ HB.out hw107_5), (bcell_ HB.out hw107_6), (bcell_ HB.out hw107_7), (bcell_ HB.out hw107_8), (bcell_ HB.out hw112_0), (bcell_ HB.out hw112_1), (bcell_ HB.out hw112_2), (bcell_ HB.out hw112_3), (bcell_ HB.out hw112_4), (bcell_ HB.out hw112_5), (bcell_ HB.out hw112_6), (bcell_ HB.out hw112_7), (bcell_ HB.out hw112_8)⟩ (fun hHeld => ?_); refine with_tabW donjonlaw18_rules.tab5 donjonlaw18_rules.bits5 (fun HT_ HW_ => ?_)
          generalize wc.drew = w14 at HO_7 BK101 HB hx102_0 hx102_1 hx102_2 hx102_3 hx102_4 hx102_5 hx102_6 hx102_7 hx102_8 hx107_0 hx107_1 hx107_2 hx107_3 hx107_4 hx107_5 hx107_6 hx107_7 hx107_8 hx112_0 hx112_1 hx112_2 hx112_3 hx112_4 hx112_5 hx112_6 hx112_7 hx112_8 hHeld ⊢
          refine pure_ (i := 0) (N := some 20) (v := ?_) (a' := ?_) #[true, false, false, false, false, false, false, false, false, false, false, false, false, false, false, false, false, false, false, false] rfl rfl (any_of HT_.out (by kernel_rfl)) (fun _ _ _ h => h) (Or.inl ⟨by rfl, ?_⟩) ?_ ?_
          rotate_left
          ·intro w'
           go_simp
           with_reducible rfl
          rotate_left
          ·simp only [Act.put, xset_a, xset_z, xset_s, i64_w, i32_w]
           rfl
          refine pure_ (i := 1) (N := some 21) (v := ?_) (a' := ?_) #[true, true, false, false, false, false, false, false, false, false, false, false, false, false, false, false, false, false, false, false] rfl rfl (any_of HT_.out (by kernel_rfl)) (fun _ _ _ h => h) (Or.inl ⟨by rfl, ?_⟩) ?_ ?_
          rotate_left
          ·intro w'
           go_simp
           with_reducible rfl
          rotate_left
          ·simp only [Act.put, xset_a, xset_z, xset_s, i64_w, i32_w]
           rfl
          refine pure_ (i := 2) (N := some 22) (v := ?_) (a' := ?_) #[true, true, true, false, false, false, false, false, false, false, false, false, false, false, false, false, false, false, false, false] rfl rfl (any_of HT_.out (by kernel_rfl)) (fun _ _ _ h => h) (Or.inl ⟨by rfl, ?_⟩) ?_ ?_
          rotate_left
          ·intro w'
           go_simp
           with_reducible rfl
          rotate_left
          ·simp only [Act.put, xset_a, xset_z, xset_s, i64_w, i32_w]
           rfl
          refine pure_ (i := 3) (N := some 23) (v := ?_) (a' := ?_) #[true, true, true, true, false, false, false, false, false, false, false, false, false, false, false, false, false, false, false, false] rfl rfl (any_of HT_.out (by kernel_rfl)) (fun _ _ _ h => h) (Or.inl ⟨by rfl, ?_⟩) ?_ ?_
          rotate_left
          ·intro w'
           go_simp
           with_reducible rfl
          rotate_left
          ·simp only [Act.put, xset_a, xset_z, xset_s, i64_w, i32_w]
           rfl
          refine pure_ (i := 6) (N := some 26) (v := ?_) (a' := ?_) #[true, true, true, true, false, false, true, false, false, false, false, false, false, false, false, false, false, false, false, false] rfl rfl (any_of HT_.out (by kernel_rfl)) (fun _ _ _ h => h) (Or.inl ⟨by rfl, ?_⟩) ?_ ?_
          rotate_left
          ·intro w'
           go_simp
           with_reducible rfl
          rotate_left
          ·simp only [Act.put, xset_a, xset_z, xset_s, i64_w, i32_w]
           rfl
          refine pure_ (i := 7) (N := some 27) (v := ?_) (a' := ?_) #[true, true, true, true, false, false, true, true, false, false, false, false, false, false, false, false, false, false, false, false] rfl rfl (any_of HT_.out (by kernel_rfl)) (fun _ _ _ h => h) (Or.inl ⟨by rfl, ?_⟩) ?_ ?_
          rotate_left
          ·intro w'
           go_simp
           with_reducible rfl
          rotate_left
          ·simp only [Act.put, xset_a, xset_z, xset_s, i64_w, i32_w]
           rfl
          refine pure_ (i := 8) (N := some 28) (v := ?_) (a' := ?_) #[true, true, true, true, false, false, true, true, true, false, false, false, false, false, false, false, false, false, false, false] rfl rfl (any_of HT_.out (by kernel_rfl)) (fun _ _ _ h => h) (Or.inl ⟨by rfl, ?_⟩) ?_ ?_
          rotate_left
          ·intro w'
           go_simp
           with_reducible rfl
          rotate_left
          ·simp only [Act.put, xset_a, xset_z, xset_s, i64_w, i32_w]
           rfl
          refine pure_ (i := 9) (N := some 29) (v := ?_) (a' := ?_) #[true, true, true, true, false, false, true, true, true, true, false, false, false, false, false, false, false, false, false, false] rfl rfl (any_of HT_.out (by kernel_rfl)) (fun _ _ _ h => h) (Or.inl ⟨by rfl, ?_⟩) ?_ ?_
          rotate_left
          ·intro w'
           go_simp
           with_reducible rfl
          rotate_left
          ·simp only [Act.put, xset_a, xset_z, xset_s, i64_w, i32_w]
           rfl
          refine pure_ (i := 12) (N := some 32) (v := ?_) (a' := ?_) #[true, true, true, true, false, false, true, true, true, true, false, false, true, false, false, false, false, false, false, false] rfl rfl (any_of HT_.out (by kernel_rfl)) (fun _ _ _ h => h) (Or.inl ⟨by rfl, ?_⟩) ?_ ?_
          rotate_left
          ·intro w'
           go_simp
           with_reducible rfl
          rotate_left
          ·simp only [Act.put, xset_a, xset_z, xset_s, i64_w, i32_w]
           rfl
          refine pure_ (i := 13) (N := some 33) (v := ?_) (a' := ?_) #[true, true, true, true, false, false, true, true, true, true, false, false, true, true, false, false, false, false, false, false] rfl rfl (any_of HT_.out (by kernel_rfl)) (fun _ _ _ h => h) (Or.inl ⟨by rfl, ?_⟩) ?_ ?_
          rotate_left
          ·intro w'
           go_simp
           with_reducible rfl
          rotate_left
          ·simp only [Act.put, xset_a, xset_z, xset_s, i64_w, i32_w]
           rfl
          refine pure_ (i := 14) (N := some 34) (v := ?_) (a' := ?_) #[true, true, true, true, false, false, true, true, true, true, false, false, true, true, true, false, false, false, false, false] rfl rfl (any_of HT_.out (by kernel_rfl)) (fun _ _ _ h => h) (Or.inl ⟨by rfl, ?_⟩) ?_ ?_
          rotate_left
          ·intro w'
           go_simp
           with_reducible rfl
          rotate_left
          ·simp only [Act.put, xset_a, xset_z, xset_s, i64_w, i32_w]
           rfl
          refine pure_ (i := 15) (N := some 35) (v := ?_) (a' := ?_) #[true, true, true, true, false, false, true, true, true, true, false, false, true, true, true, true, false, false, false, false] rfl rfl (any_of HT_.out (by kernel_rfl)) (fun _ _ _ h => h) (Or.inl ⟨by rfl, ?_⟩) ?_ ?_
          rotate_left
          ·intro w'
           go_simp
           with_reducible rfl
          rotate_left
          ·simp only [Act.put, xset_a, xset_z, xset_s, i64_w, i32_w]
           rfl
          refine take_ (i := 4) (N := some 24) (v := ?_) (a' := ?_) #[true, true, true, true, true, false, true, true, true, true, false, false, true, true, true, true, false, false, false, false] rfl rfl (take_ofW HT_.out HW_.out (by kernel_rfl)) (fun _ _ _ h => h) (Or.inl ⟨by rfl, ?_⟩) hHeld ?_ ?_
          rotate_left
          ·rintro w' ⟨s0, s1, s2, s3, s4, s5, s6, s7, s8, s9, s10, s11, s12, s13, s14, s15, s16, s17, s18, s19, s20, s21, s22, s23, s24, s25, s26⟩
           go_simp
           with_reducible rfl
          rotate_left
          ·simp only [Act.put, xset_a, xset_z, xset_s, i64_w, i32_w]
           rfl
          refine take_ (i := 10) (N := some 30) (v := ?_) (a' := ?_) #[true, true, true, true, true, false, true, true, true, true, true, false, true, true, true, true, false, false, false, false] rfl rfl (take_ofW HT_.out HW_.out (by kernel_rfl)) (fun _ _ _ h => h) (Or.inl ⟨by rfl, ?_⟩) hHeld ?_ ?_
          rotate_left
          ·rintro w' ⟨s0, s1, s2, s3, s4, s5, s6, s7, s8, s9, s10, s11, s12, s13, s14, s15, s16, s17, s18, s19, s20, s21, s22, s23, s24, s25, s26⟩
           go_simp
           with_reducible rfl
          rotate_left
          ·simp only [Act.put, xset_a, xset_z, xset_s, i64_w, i32_w]
           rfl
          refine take_ (i := 16) (N := some 36) (v := ?_) (a' := ?_) #[true, true, true, true, true, false, true, true, true, true, true, false, true, true, true, true, true, false, false, false] rfl rfl (take_ofW HT_.out HW_.out (by kernel_rfl)) (fun _ _ _ h => h) (Or.inl ⟨by rfl, ?_⟩) hHeld ?_ ?_
          rotate_left
          ·rintro w' ⟨s0, s1, s2, s3, s4, s5, s6, s7, s8, s9, s10, s11, s12, s13, s14, s15, s16, s17, s18, s19, s20, s21, s22, s23, s24, s25, s26⟩
           go_simp
           with_reducible rfl
          rotate_left
          ·simp only [Act.put, xset_a, xset_z, xset_s, i64_w, i32_w]
           rfl
          refine join_ (σ := Nat) 1 #[true, true, true, true, true, true, true, true, true, true, true, true, true, true, true, true, true, true, true, false] (fun s_ => [(25, .agg #[.int .i64 t103, .int .i64 t104, .int .i64 t105, .int .i64 t106]), (31, .agg #[.int .i64 t108, .int .i64 t109, .int .i64 t110, .int .i64 t111]), (9, .pointer (some ⟨s_, 0, none⟩)), (37, .agg #[.int .i64 t103, .int .i64 t104, .int .i64 t105, .int .i64 t106, .int .i64 t108, .int .i64 t109, .int .i64 t110, .int .i64 t111, .string ((rd_T44 l0 x8_1).f2)])]) (fun s_ w' => (w'.cell? (ad102.add ((x8_1).toNat * 9)) = some (.int .i64 ((rd_T44 l0 x8_1).f0.f0)) ∧ w'.cell? ⟨(ad102.add ((x8_1).toNat * 9)).block, (ad102.add ((x8_1).toNat * 9)).off + 1, none⟩ = some (.int .i64 ((rd_T44 l0 x8_1).f0.f1)) ∧ w'.cell? ⟨(ad102.add ((x8_1).toNat * 9)).block, (ad102.add ((x8_1).toNat * 9)).off + 2, none⟩ = some (.int .i64 ((rd_T44 l0 x8_1).f0.f2)) ∧ w'.cell? ⟨(ad102.add ((x8_1).toNat * 9)).block, (ad102.add ((x8_1).toNat * 9)).off + 3, none⟩ = some (.int .i64 ((rd_T44 l0 x8_1).f0.f3)) ∧ w'.cell? ⟨(ad102.add ((x8_1).toNat * 9)).block, (ad102.add ((x8_1).toNat * 9)).off + 4, none⟩ = some (.int .i64 ((rd_T44 l0 x8_1).f1.f0)) ∧ w'.cell? ⟨(ad102.add ((x8_1).toNat * 9)).block, (ad102.add ((x8_1).toNat * 9)).off + 5, none⟩ = some (.int .i64 ((rd_T44 l0 x8_1).f1.f1)) ∧ w'.cell? ⟨(ad102.add ((x8_1).toNat * 9)).block, (ad102.add ((x8_1).toNat * 9)).off + 6, none⟩ = some (.int .i64 ((rd_T44 l0 x8_1).f1.f2)) ∧ w'.cell? ⟨(ad102.add ((x8_1).toNat * 9)).block, (ad102.add ((x8_1).toNat * 9)).off + 7, none⟩ = some (.int .i64 ((rd_T44 l0 x8_1).f1.f3)) ∧ w'.cell? ⟨(ad102.add ((x8_1).toNat * 9)).block, (ad102.add ((x8_1).toNat * 9)).off + 8, none⟩ = some (.string ((rd_T44 l0 x8_1).f2)) ∧ w'.cell? (ad102.add ((x8_1).toNat * 9)) = some (.int .i64 ((rd_T44 l0 x8_1).f0.f0)) ∧ w'.cell? ⟨(ad102.add ((x8_1).toNat * 9)).block, (ad102.add ((x8_1).toNat * 9)).off + 1, none⟩ = some (.int .i64 ((rd_T44 l0 x8_1).f0.f1)) ∧ w'.cell? ⟨(ad102.add ((x8_1).toNat * 9)).block, (ad102.add ((x8_1).toNat * 9)).off + 2, none⟩ = some (.int .i64 ((rd_T44 l0 x8_1).f0.f2)) ∧ w'.cell? ⟨(ad102.add ((x8_1).toNat * 9)).block, (ad102.add ((x8_1).toNat * 9)).off + 3, none⟩ = some (.int .i64 ((rd_T44 l0 x8_1).f0.f3)) ∧ w'.cell? ⟨(ad102.add ((x8_1).toNat * 9)).block, (ad102.add ((x8_1).toNat * 9)).off + 4, none⟩ = some (.int .i64 ((rd_T44 l0 x8_1).f1.f0)) ∧ w'.cell? ⟨(ad102.add ((x8_1).toNat * 9)).block, (ad102.add ((x8_1).toNat * 9)).off + 5, none⟩ = some (.int .i64 ((rd_T44 l0 x8_1).f1.f1)) ∧ w'.cell? ⟨(ad102.add ((x8_1).toNat * 9)).block, (ad102.add ((x8_1).toNat * 9)).off + 6, none⟩ = some (.int .i64 ((rd_T44 l0 x8_1).f1.f2)) ∧ w'.cell? ⟨(ad102.add ((x8_1).toNat * 9)).block, (ad102.add ((x8_1).toNat * 9)).off + 7, none⟩ = some (.int .i64 ((rd_T44 l0 x8_1).f1.f3)) ∧ w'.cell? ⟨(ad102.add ((x8_1).toNat * 9)).block, (ad102.add ((x8_1).toNat * 9)).off + 8, none⟩ = some (.string ((rd_T44 l0 x8_1).f2)) ∧ w'.cell? (ad102.add ((x8_1).toNat * 9)) = some (.int .i64 ((rd_T44 l0 x8_1).f0.f0)) ∧ w'.cell? ⟨(ad102.add ((x8_1).toNat * 9)).block, (ad102.add ((x8_1).toNat * 9)).off + 1, none⟩ = some (.int .i64 ((rd_T44 l0 x8_1).f0.f1)) ∧ w'.cell? ⟨(ad102.add ((x8_1).toNat * 9)).block, (ad102.add ((x8_1).toNat * 9)).off + 2, none⟩ = some (.int .i64 ((rd_T44 l0 x8_1).f0.f2)) ∧ w'.cell? ⟨(ad102.add ((x8_1).toNat * 9)).block, (ad102.add ((x8_1).toNat * 9)).off + 3, none⟩ = some (.int .i64 ((rd_T44 l0 x8_1).f0.f3)) ∧ w'.cell? ⟨(ad102.add ((x8_1).toNat * 9)).block, (ad102.add ((x8_1).toNat * 9)).off + 4, none⟩ = some (.int .i64 ((rd_T44 l0 x8_1).f1.f0)) ∧ w'.cell? ⟨(ad102.add ((x8_1).toNat * 9)).block, (ad102.add ((x8_1).toNat * 9)).off + 5, none⟩ = some (.int .i64 ((rd_T44 l0 x8_1).f1.f1)) ∧ w'.cell? ⟨(ad102.add ((x8_1).toNat * 9)).block, (ad102.add ((x8_1).toNat * 9)).off + 6, none⟩ = some (.int .i64 ((rd_T44 l0 x8_1).f1.f2)) ∧ w'.cell? ⟨(ad102.add ((x8_1).toNat * 9)).block, (ad102.add ((x8_1).toNat * 9)).off + 7, none⟩ = some (.int .i64 ((rd_T44 l0 x8_1).f1.f3)) ∧ w'.cell? ⟨(ad102.add ((x8_1).toNat * 9)).block, (ad102.add ((x8_1).toNat * 9)).off + 8, none⟩ = some (.string ((rd_T44 l0 x8_1).f2))) ∧ (Kd.R k44 44 w' w.heap.size (fun k_ => k_ ≠ s_) u7 x7_1) ∧ (w'.heap[gb101]? = some (.cells #[.string a1_0, .int .i64 a1_1, .int .i64 a1_2, .int .i64 a1_3, .int .i64 a1_4, .string a1_5, .int .i64 a1_6, .int .i64 a1_7, .int .i64 a1_8, .int .i64 a1_9, .string a1_10] 28 (0, 0))) ∧ (w'.heap[s_]? = some (.cells #[.int .i64 0, .int .i64 0, .int .i64 0, .int .i64 0, .int .i64 0, .int .i64 0, .int .i64 0, .int .i64 0, .string ⟨#[]⟩] 44 (0, 0))) ∧ (w.heap.size ≤ s_) ∧ (w.heap.size ≤ s_) ∧ (gb101 ≠ s_) ∧ (s_ ≠ gb101) ∧ (Below w.heap.size w w')) ?_ ?_
          rotate_left
          ·intro hCont
           refine two_ (i := 5) (j := 18) (Ni := some 25) (Nj := some 9) #[true, true, true, true, true, true, true, true, true, true, true, false, true, true, true, true, true, false, false, false] #[true, true, true, true, true, false, true, true, true, true, true, false, true, true, true, true, true, false, true, false] rfl rfl rfl rfl (two_of HT_.out (by kernel_rfl)) (by decide) (by decide) (fun K hK => ?_) (fun K hK => ?_)
           ·skip
            refine goes_ Try.func25 (by kernel_rfl) rfl #[.agg #[.int .i64 ((rd_T44 l0 x8_1).f0.f0), .int .i64 ((rd_T44 l0 x8_1).f0.f1), .int .i64 ((rd_T44 l0 x8_1).f0.f2), .int .i64 ((rd_T44 l0 x8_1).f0.f3)]] (by rfl) rfl rfl (by (try simp only [List.map_toArray, List.map_cons, List.map_nil]); first | done | rfl | (simp only [List.length_drop, List.length_take]; rfl)) ?_
            with_reducible refine (donjonlaw4_Good.calls ((rd_T44 l0 x8_1).f0.f0) ((rd_T44 l0 x8_1).f0.f1) ((rd_T44 l0 x8_1).f0.f2) ((rd_T44 l0 x8_1).f0.f3) t103 t104 t105 t106 _ A10.out).mono ?_
            rintro e w15 ⟨rfl, hb⟩
            refine ⟨_, rfl, ?_⟩
            have n0_ := Aside0.mk (Kd.R_below (kr_ HO_7.out) hb)
            have n1_ := Aside0.mk (blk_below (g := gb101) (o := .cells #[.string a1_0, .int .i64 a1_1, .int .i64 a1_2, .int .i64 a1_3, .int .i64 a1_4, .string a1_5, .int .i64 a1_6, .int .i64 a1_7, .int .i64 a1_8, .int .i64 a1_9, .string a1_10] 28 (0, 0)) (bk_ BK101.out) hb)
            have n2_ := Aside0.mk (below_step (bl_ HB.out) hb)
            clear HO_7 BK101 HB
            have HO_7 := n0_; have BK101 := n1_; have HB := n2_
            clear n0_ n1_ n2_
            (try clear hb)
            (try clear hb2)
            (try clear hk)
            (try clear hi)
            refine hK.out _ _ ⟨(bcell_ HB.out hw102_0), (bcell_ HB.out hw102_1), (bcell_ HB.out hw102_2), (bcell_ HB.out hw102_3), (bcell_ HB.out hw102_4), (bcell_ HB.out hw102_5), (bcell_ HB.out hw102_6), (bcell_ HB.out hw102_7), (bcell_ HB.out hw102_8), (bcell_ HB.out hw107_0), (bcell_ HB.out hw107_1), (bcell_ HB.out hw107_2), (bcell_ HB.out hw107_3), (bcell_ HB.out hw107_4), (bcell_ HB.out hw107_5), (bcell_ HB.out hw107_6), (bcell_ HB.out hw107_7), (bcell_ HB.out hw107_8), (bcell_ HB.out hw112_0), (bcell_ HB.out hw112_1), (bcell_ HB.out hw112_2), (bcell_ HB.out hw112_3), (bcell_ HB.out hw112_4), (bcell_ HB.out hw112_5), (bcell_ HB.out hw112_6), (bcell_ HB.out hw112_7), (bcell_ HB.out hw112_8)⟩ (fun hHeld => ?_)
            clear hK K
            refine norm_ (a' := ?_) ?_ ?_
            rotate_left
            ·show Act.put _ (some 25) _ = _
             simp only [Act.put, xset_a, xset_z, xset_s, i64_w, i32_w]
             rfl
            refine two_ (i := 11) (j := 18) (Ni := some 31) (Nj := some 9) #[true, true, true, true, true, true, true, true, true, true, true, true, true, true, true, true, true, false, false, false] #[true, true, true, true, true, true, true, true, true, true, true, false, true, true, true, true, true, false, true, false] rfl rfl rfl rfl (two_of HT_.out (by kernel_rfl)) (by decide) (by decide) (fun K hK => ?_) (fun K hK => ?_)
            ·skip
             refine goes_ Try.func25 (by kernel_rfl) rfl #[.agg #[.int .i64 ((rd_T44 l0 x8_1).f1.f0), .int .i64 ((rd_T44 l0 x8_1).f1.f1), .int .i64 ((rd_T44 l0 x8_1).f1.f2), .int .i64 ((rd_T44 l0 x8_1).f1.f3)]] (by rfl) rfl rfl (by (try simp only [List.map_toArray, List.map_cons, List.map_nil]); first | done | rfl | (simp only [List.length_drop, List.length_take]; rfl)) ?_
             with_reducible refine (donjonlaw4_Good.calls ((rd_T44 l0 x8_1).f1.f0) ((rd_T44 l0 x8_1).f1.f1) ((rd_T44 l0 x8_1).f1.f2) ((rd_T44 l0 x8_1).f1.f3) t108 t109 t110 t111 _ A11.out).mono ?_
             rintro e w16 ⟨rfl, hb⟩
             refine ⟨_, rfl, ?_⟩
             have n0_ := Aside0.mk (Kd.R_below (kr_ HO_7.out) hb)
             have n1_ := Aside0.mk (blk_below (g := gb101) (o := .cells #[.string a1_0, .int .i64 a1_1, .int .i64 a1_2, .int .i64 a1_3, .int .i64 a1_4, .string a1_5, .int .i64 a1_6, .int .i64 a1_7, .int .i64 a1_8, .int .i64 a1_9, .string a1_10] 28 (0, 0)) (bk_ BK101.out) hb)
             have n2_ := Aside0.mk (below_step (bl_ HB.out) hb)
             clear HO_7 BK101 HB
             have HO_7 := n0_; have BK101 := n1_; have HB := n2_
             clear n0_ n1_ n2_
             (try clear hb)
             (try clear hb2)
             (try clear hk)
             (try clear hi)
             refine hK.out _ _ ⟨(bcell_ HB.out hw102_0), (bcell_ HB.out hw102_1), (bcell_ HB.out hw102_2), (bcell_ HB.out hw102_3), (bcell_ HB.out hw102_4), (bcell_ HB.out hw102_5), (bcell_ HB.out hw102_6), (bcell_ HB.out hw102_7), (bcell_ HB.out hw102_8), (bcell_ HB.out hw107_0), (bcell_ HB.out hw107_1), (bcell_ HB.out hw107_2), (bcell_ HB.out hw107_3), (bcell_ HB.out hw107_4), (bcell_ HB.out hw107_5), (bcell_ HB.out hw107_6), (bcell_ HB.out hw107_7), (bcell_ HB.out hw107_8), (bcell_ HB.out hw112_0), (bcell_ HB.out hw112_1), (bcell_ HB.out hw112_2), (bcell_ HB.out hw112_3), (bcell_ HB.out hw112_4), (bcell_ HB.out hw112_5), (bcell_ HB.out hw112_6), (bcell_ HB.out hw112_7), (bcell_ HB.out hw112_8)⟩ (fun hHeld => ?_)
             clear hK K
             refine norm_ (a' := ?_) ?_ ?_
             rotate_left
             ·show Act.put _ (some 31) _ = _
              simp only [Act.put, xset_a, xset_z, xset_s, i64_w, i32_w]
              rfl
             refine pure_ (i := 17) (N := some 37) (v := ?_) (a' := ?_) #[true, true, true, true, true, true, true, true, true, true, true, true, true, true, true, true, true, true, false, false] rfl rfl (any_of HT_.out (by kernel_rfl)) (fun _ _ _ h => h) (Or.inl ⟨by rfl, ?_⟩) ?_ ?_
             rotate_left
             ·intro w'
              go_simp
              with_reducible rfl
             rotate_left
             ·simp only [Act.put, xset_a, xset_z, xset_s, i64_w, i32_w]
              rfl
             refine one_ (i := 18) (N := some 9) #[true, true, true, true, true, true, true, true, true, true, true, true, true, true, true, true, true, true, true, false] rfl rfl (one_of HT_.out (by kernel_rfl)) (by decide) (fun K hK => ?_)
             refine box_step ?hg (N := 9) ?hd (cs := #[.int .i64 0, .int .i64 0, .int .i64 0, .int .i64 0, .int .i64 0, .int .i64 0, .int .i64 0, .int .i64 0, .string ⟨#[]⟩]) (t := 44) ?hr ?_; (case hd => rfl); (case hg => rfl); (case hr => first | (go_simp; done) | (go_simp; rfl))
             intro gb113 hg w17 hbox hb
             have n0_ := Aside0.mk (Kd.R_below (Kd.R_elderB (kr_ HO_7.out) gb113 (Nat.le_of_eq hg.symm)) hb)
             have n1_ := Aside0.mk (blk_below (g := gb101) (o := .cells #[.string a1_0, .int .i64 a1_1, .int .i64 a1_2, .int .i64 a1_3, .int .i64 a1_4, .string a1_5, .int .i64 a1_6, .int .i64 a1_7, .int .i64 a1_8, .int .i64 a1_9, .string a1_10] 28 (0, 0)) (bk_ BK101.out) hb)
             have n2_ := Aside0.mk (below_step (bl_ HB.out) hb)
             have n3_ := Aside0.mk (hbox)
             have n4_ := Aside0.mk ((by rw [hg]; exact (below_size (bl_ HB.out)) : w.heap.size ≤ gb113))
             have n5_ := Aside0.mk ((by rw [hg]; exact (below_size (bl_ HB.out)) : w.heap.size ≤ gb113))
             have n6_ := Aside0.mk ((by rw [hg]; exact Nat.ne_of_lt (blk_lt (g := gb101) (o := .cells #[.string a1_0, .int .i64 a1_1, .int .i64 a1_2, .int .i64 a1_3, .int .i64 a1_4, .string a1_5, .int .i64 a1_6, .int .i64 a1_7, .int .i64 a1_8, .int .i64 a1_9, .string a1_10] 28 (0, 0)) (bk_ BK101.out)) : gb101 ≠ gb113))
             have n7_ := Aside0.mk ((by rw [hg]; exact Nat.ne_of_gt (blk_lt (g := gb101) (o := .cells #[.string a1_0, .int .i64 a1_1, .int .i64 a1_2, .int .i64 a1_3, .int .i64 a1_4, .string a1_5, .int .i64 a1_6, .int .i64 a1_7, .int .i64 a1_8, .int .i64 a1_9, .string a1_10] 28 (0, 0)) (bk_ BK101.out)) : gb113 ≠ gb101))
             clear HO_7 BK101 HB
             have HO_7 := n0_; have BK101 := n1_; have HB := n2_; have BK113 := n3_; have GW113 := n4_; have GE113 := n5_; have NB101_113 := n6_; have NB113_101 := n7_
             clear n0_ n1_ n2_ n3_ n4_ n5_ n6_ n7_
             clear hb hbox hg
             refine hK.out _ _ ⟨(bcell_ HB.out hw102_0), (bcell_ HB.out hw102_1), (bcell_ HB.out hw102_2), (bcell_ HB.out hw102_3), (bcell_ HB.out hw102_4), (bcell_ HB.out hw102_5), (bcell_ HB.out hw102_6), (bcell_ HB.out hw102_7), (bcell_ HB.out hw102_8), (bcell_ HB.out hw107_0), (bcell_ HB.out hw107_1), (bcell_ HB.out hw107_2), (bcell_ HB.out hw107_3), (bcell_ HB.out hw107_4), (bcell_ HB.out hw107_5), (bcell_ HB.out hw107_6), (bcell_ HB.out hw107_7), (bcell_ HB.out hw107_8), (bcell_ HB.out hw112_0), (bcell_ HB.out hw112_1), (bcell_ HB.out hw112_2), (bcell_ HB.out hw112_3), (bcell_ HB.out hw112_4), (bcell_ HB.out hw112_5), (bcell_ HB.out hw112_6), (bcell_ HB.out hw112_7), (bcell_ HB.out hw112_8)⟩ (fun hHeld => ?_)
             clear hK K
             refine norm_ (a' := ?_) ?_ ?_
             rotate_left
             ·show Act.put _ (some 9) _ = _
              simp only [Act.put, xset_a, xset_z, xset_s, i64_w, i32_w]
              rfl
             exact norm_ (by simp only [putAll, Act.put, xset_a, xset_z, xset_s]) (hCont (gb113) _ ⟨hHeld, (by (with_reducible repeat (first | apply Kd.R_alloc | apply Kd.R_drewN | apply Kd.R_drew)); exact Kd.R_mono HO_7.out (fun _ hk => hk.2)), (bk_ BK101.out), (bk_ BK113.out), GW113.out, GE113.out, NB101_113.out, NB113_101.out, (bl_ HB.out)⟩)
            ·skip
             refine box_step ?hg (N := 9) ?hd (cs := #[.int .i64 0, .int .i64 0, .int .i64 0, .int .i64 0, .int .i64 0, .int .i64 0, .int .i64 0, .int .i64 0, .string ⟨#[]⟩]) (t := 44) ?hr ?_; (case hd => rfl); (case hg => rfl); (case hr => first | (go_simp; done) | (go_simp; rfl))
             intro gb113 hg w16 hbox hb
             have n0_ := Aside0.mk (Kd.R_below (Kd.R_elderB (kr_ HO_7.out) gb113 (Nat.le_of_eq hg.symm)) hb)
             have n1_ := Aside0.mk (blk_below (g := gb101) (o := .cells #[.string a1_0, .int .i64 a1_1, .int .i64 a1_2, .int .i64 a1_3, .int .i64 a1_4, .string a1_5, .int .i64 a1_6, .int .i64 a1_7, .int .i64 a1_8, .int .i64 a1_9, .string a1_10] 28 (0, 0)) (bk_ BK101.out) hb)
             have n2_ := Aside0.mk (below_step (bl_ HB.out) hb)
             have n3_ := Aside0.mk (hbox)
             have n4_ := Aside0.mk ((by rw [hg]; exact (below_size (bl_ HB.out)) : w.heap.size ≤ gb113))
             have n5_ := Aside0.mk ((by rw [hg]; exact (below_size (bl_ HB.out)) : w.heap.size ≤ gb113))
             have n6_ := Aside0.mk ((by rw [hg]; exact Nat.ne_of_lt (blk_lt (g := gb101) (o := .cells #[.string a1_0, .int .i64 a1_1, .int .i64 a1_2, .int .i64 a1_3, .int .i64 a1_4, .string a1_5, .int .i64 a1_6, .int .i64 a1_7, .int .i64 a1_8, .int .i64 a1_9, .string a1_10] 28 (0, 0)) (bk_ BK101.out)) : gb101 ≠ gb113))
             have n7_ := Aside0.mk ((by rw [hg]; exact Nat.ne_of_gt (blk_lt (g := gb101) (o := .cells #[.string a1_0, .int .i64 a1_1, .int .i64 a1_2, .int .i64 a1_3, .int .i64 a1_4, .string a1_5, .int .i64 a1_6, .int .i64 a1_7, .int .i64 a1_8, .int .i64 a1_9, .string a1_10] 28 (0, 0)) (bk_ BK101.out)) : gb113 ≠ gb101))
             clear HO_7 BK101 HB
             have HO_7 := n0_; have BK101 := n1_; have HB := n2_; have BK113 := n3_; have GW113 := n4_; have GE113 := n5_; have NB101_113 := n6_; have NB113_101 := n7_
             clear n0_ n1_ n2_ n3_ n4_ n5_ n6_ n7_
             clear hb hbox hg
             refine hK.out _ _ ⟨(bcell_ HB.out hw102_0), (bcell_ HB.out hw102_1), (bcell_ HB.out hw102_2), (bcell_ HB.out hw102_3), (bcell_ HB.out hw102_4), (bcell_ HB.out hw102_5), (bcell_ HB.out hw102_6), (bcell_ HB.out hw102_7), (bcell_ HB.out hw102_8), (bcell_ HB.out hw107_0), (bcell_ HB.out hw107_1), (bcell_ HB.out hw107_2), (bcell_ HB.out hw107_3), (bcell_ HB.out hw107_4), (bcell_ HB.out hw107_5), (bcell_ HB.out hw107_6), (bcell_ HB.out hw107_7), (bcell_ HB.out hw107_8), (bcell_ HB.out hw112_0), (bcell_ HB.out hw112_1), (bcell_ HB.out hw112_2), (bcell_ HB.out hw112_3), (bcell_ HB.out hw112_4), (bcell_ HB.out hw112_5), (bcell_ HB.out hw112_6), (bcell_ HB.out hw112_7), (bcell_ HB.out hw112_8)⟩ (fun hHeld => ?_)
             clear hK K
             refine norm_ (a' := ?_) ?_ ?_
             rotate_left
             ·show Act.put _ (some 9) _ = _
              simp only [Act.put, xset_a, xset_z, xset_s, i64_w, i32_w]
              rfl
             refine one_ (i := 11) (N := some 31) #[true, true, true, true, true, true, true, true, true, true, true, true, true, true, true, true, true, false, true, false] rfl rfl (one_of HT_.out (by kernel_rfl)) (by decide) (fun K hK => ?_)
             refine goes_ Try.func25 (by kernel_rfl) rfl #[.agg #[.int .i64 ((rd_T44 l0 x8_1).f1.f0), .int .i64 ((rd_T44 l0 x8_1).f1.f1), .int .i64 ((rd_T44 l0 x8_1).f1.f2), .int .i64 ((rd_T44 l0 x8_1).f1.f3)]] (by rfl) rfl rfl (by (try simp only [List.map_toArray, List.map_cons, List.map_nil]); first | done | rfl | (simp only [List.length_drop, List.length_take]; rfl)) ?_
             with_reducible refine (donjonlaw4_Good.calls ((rd_T44 l0 x8_1).f1.f0) ((rd_T44 l0 x8_1).f1.f1) ((rd_T44 l0 x8_1).f1.f2) ((rd_T44 l0 x8_1).f1.f3) t108 t109 t110 t111 _ A11.out).mono ?_
             rintro e w17 ⟨rfl, hb⟩
             refine ⟨_, rfl, ?_⟩
             have n0_ := Aside0.mk (Kd.R_below (kr_ HO_7.out) hb)
             have n1_ := Aside0.mk (blk_below (g := gb101) (o := .cells #[.string a1_0, .int .i64 a1_1, .int .i64 a1_2, .int .i64 a1_3, .int .i64 a1_4, .string a1_5, .int .i64 a1_6, .int .i64 a1_7, .int .i64 a1_8, .int .i64 a1_9, .string a1_10] 28 (0, 0)) (bk_ BK101.out) hb)
             have n2_ := Aside0.mk (blk_below (g := gb113) (o := .cells #[.int .i64 0, .int .i64 0, .int .i64 0, .int .i64 0, .int .i64 0, .int .i64 0, .int .i64 0, .int .i64 0, .string ⟨#[]⟩] 44 (0, 0)) (bk_ BK113.out) hb)
             have n3_ := Aside0.mk (below_step (bl_ HB.out) hb)
             clear HO_7 BK101 BK113 HB
             have HO_7 := n0_; have BK101 := n1_; have BK113 := n2_; have HB := n3_
             clear n0_ n1_ n2_ n3_
             (try clear hb)
             (try clear hb2)
             (try clear hk)
             (try clear hi)
             refine hK.out _ _ ⟨(bcell_ HB.out hw102_0), (bcell_ HB.out hw102_1), (bcell_ HB.out hw102_2), (bcell_ HB.out hw102_3), (bcell_ HB.out hw102_4), (bcell_ HB.out hw102_5), (bcell_ HB.out hw102_6), (bcell_ HB.out hw102_7), (bcell_ HB.out hw102_8), (bcell_ HB.out hw107_0), (bcell_ HB.out hw107_1), (bcell_ HB.out hw107_2), (bcell_ HB.out hw107_3), (bcell_ HB.out hw107_4), (bcell_ HB.out hw107_5), (bcell_ HB.out hw107_6), (bcell_ HB.out hw107_7), (bcell_ HB.out hw107_8), (bcell_ HB.out hw112_0), (bcell_ HB.out hw112_1), (bcell_ HB.out hw112_2), (bcell_ HB.out hw112_3), (bcell_ HB.out hw112_4), (bcell_ HB.out hw112_5), (bcell_ HB.out hw112_6), (bcell_ HB.out hw112_7), (bcell_ HB.out hw112_8)⟩ (fun hHeld => ?_)
             clear hK K
             refine norm_ (a' := ?_) ?_ ?_
             rotate_left
             ·show Act.put _ (some 31) _ = _
              simp only [Act.put, xset_a, xset_z, xset_s, i64_w, i32_w]
              rfl
             refine pure_ (i := 17) (N := some 37) (v := ?_) (a' := ?_) #[true, true, true, true, true, true, true, true, true, true, true, true, true, true, true, true, true, true, true, false] rfl rfl (any_of HT_.out (by kernel_rfl)) (fun _ _ _ h => h) (Or.inl ⟨by rfl, ?_⟩) ?_ ?_
             rotate_left
             ·intro w'
              go_simp
              with_reducible rfl
             rotate_left
             ·simp only [Act.put, xset_a, xset_z, xset_s, i64_w, i32_w]
              rfl
             exact norm_ (by simp only [putAll, Act.put, xset_a, xset_z, xset_s]) (hCont (gb113) _ ⟨hHeld, (by (with_reducible repeat (first | apply Kd.R_alloc | apply Kd.R_drewN | apply Kd.R_drew)); exact Kd.R_mono HO_7.out (fun _ hk => hk.2)), (bk_ BK101.out), (bk_ BK113.out), GW113.out, GE113.out, NB101_113.out, NB113_101.out, (bl_ HB.out)⟩)
           ·skip
            refine box_step ?hg (N := 9) ?hd (cs := #[.int .i64 0, .int .i64 0, .int .i64 0, .int .i64 0, .int .i64 0, .int .i64 0, .int .i64 0, .int .i64 0, .string ⟨#[]⟩]) (t := 44) ?hr ?_; (case hd => rfl); (case hg => rfl); (case hr => first | (go_simp; done) | (go_simp; rfl))
            intro gb113 hg w15 hbox hb
            have n0_ := Aside0.mk (Kd.R_below (Kd.R_elderB (kr_ HO_7.out) gb113 (Nat.le_of_eq hg.symm)) hb)
            have n1_ := Aside0.mk (blk_below (g := gb101) (o := .cells #[.string a1_0, .int .i64 a1_1, .int .i64 a1_2, .int .i64 a1_3, .int .i64 a1_4, .string a1_5, .int .i64 a1_6, .int .i64 a1_7, .int .i64 a1_8, .int .i64 a1_9, .string a1_10] 28 (0, 0)) (bk_ BK101.out) hb)
            have n2_ := Aside0.mk (below_step (bl_ HB.out) hb)
            have n3_ := Aside0.mk (hbox)
            have n4_ := Aside0.mk ((by rw [hg]; exact (below_size (bl_ HB.out)) : w.heap.size ≤ gb113))
            have n5_ := Aside0.mk ((by rw [hg]; exact (below_size (bl_ HB.out)) : w.heap.size ≤ gb113))
            have n6_ := Aside0.mk ((by rw [hg]; exact Nat.ne_of_lt (blk_lt (g := gb101) (o := .cells #[.string a1_0, .int .i64 a1_1, .int .i64 a1_2, .int .i64 a1_3, .int .i64 a1_4, .string a1_5, .int .i64 a1_6, .int .i64 a1_7, .int .i64 a1_8, .int .i64 a1_9, .string a1_10] 28 (0, 0)) (bk_ BK101.out)) : gb101 ≠ gb113))
            have n7_ := Aside0.mk ((by rw [hg]; exact Nat.ne_of_gt (blk_lt (g := gb101) (o := .cells #[.string a1_0, .int .i64 a1_1, .int .i64 a1_2, .int .i64 a1_3, .int .i64 a1_4, .string a1_5, .int .i64 a1_6, .int .i64 a1_7, .int .i64 a1_8, .int .i64 a1_9, .string a1_10] 28 (0, 0)) (bk_ BK101.out)) : gb113 ≠ gb101))
            clear HO_7 BK101 HB
            have HO_7 := n0_; have BK101 := n1_; have HB := n2_; have BK113 := n3_; have GW113 := n4_; have GE113 := n5_; have NB101_113 := n6_; have NB113_101 := n7_
            clear n0_ n1_ n2_ n3_ n4_ n5_ n6_ n7_
            clear hb hbox hg
            refine hK.out _ _ ⟨(bcell_ HB.out hw102_0), (bcell_ HB.out hw102_1), (bcell_ HB.out hw102_2), (bcell_ HB.out hw102_3), (bcell_ HB.out hw102_4), (bcell_ HB.out hw102_5), (bcell_ HB.out hw102_6), (bcell_ HB.out hw102_7), (bcell_ HB.out hw102_8), (bcell_ HB.out hw107_0), (bcell_ HB.out hw107_1), (bcell_ HB.out hw107_2), (bcell_ HB.out hw107_3), (bcell_ HB.out hw107_4), (bcell_ HB.out hw107_5), (bcell_ HB.out hw107_6), (bcell_ HB.out hw107_7), (bcell_ HB.out hw107_8), (bcell_ HB.out hw112_0), (bcell_ HB.out hw112_1), (bcell_ HB.out hw112_2), (bcell_ HB.out hw112_3), (bcell_ HB.out hw112_4), (bcell_ HB.out hw112_5), (bcell_ HB.out hw112_6), (bcell_ HB.out hw112_7), (bcell_ HB.out hw112_8)⟩ (fun hHeld => ?_)
            clear hK K
            refine norm_ (a' := ?_) ?_ ?_
            rotate_left
            ·show Act.put _ (some 9) _ = _
             simp only [Act.put, xset_a, xset_z, xset_s, i64_w, i32_w]
             rfl
            refine one_ (i := 5) (N := some 25) #[true, true, true, true, true, true, true, true, true, true, true, false, true, true, true, true, true, false, true, false] rfl rfl (one_of HT_.out (by kernel_rfl)) (by decide) (fun K hK => ?_)
            refine goes_ Try.func25 (by kernel_rfl) rfl #[.agg #[.int .i64 ((rd_T44 l0 x8_1).f0.f0), .int .i64 ((rd_T44 l0 x8_1).f0.f1), .int .i64 ((rd_T44 l0 x8_1).f0.f2), .int .i64 ((rd_T44 l0 x8_1).f0.f3)]] (by rfl) rfl rfl (by (try simp only [List.map_toArray, List.map_cons, List.map_nil]); first | done | rfl | (simp only [List.length_drop, List.length_take]; rfl)) ?_
            with_reducible refine (donjonlaw4_Good.calls ((rd_T44 l0 x8_1).f0.f0) ((rd_T44 l0 x8_1).f0.f1) ((rd_T44 l0 x8_1).f0.f2) ((rd_T44 l0 x8_1).f0.f3) t103 t104 t105 t106 _ A10.out).mono ?_
            rintro e w16 ⟨rfl, hb⟩
            refine ⟨_, rfl, ?_⟩
            have n0_ := Aside0.mk (Kd.R_below (kr_ HO_7.out) hb)
            have n1_ := Aside0.mk (blk_below (g := gb101) (o := .cells #[.string a1_0, .int .i64 a1_1, .int .i64 a1_2, .int .i64 a1_3, .int .i64 a1_4, .string a1_5, .int .i64 a1_6, .int .i64 a1_7, .int .i64 a1_8, .int .i64 a1_9, .string a1_10] 28 (0, 0)) (bk_ BK101.out) hb)
            have n2_ := Aside0.mk (blk_below (g := gb113) (o := .cells #[.int .i64 0, .int .i64 0, .int .i64 0, .int .i64 0, .int .i64 0, .int .i64 0, .int .i64 0, .int .i64 0, .string ⟨#[]⟩] 44 (0, 0)) (bk_ BK113.out) hb)
            have n3_ := Aside0.mk (below_step (bl_ HB.out) hb)
            clear HO_7 BK101 BK113 HB
            have HO_7 := n0_; have BK101 := n1_; have BK113 := n2_; have HB := n3_
            clear n0_ n1_ n2_ n3_
            (try clear hb)
            (try clear hb2)
            (try clear hk)
            (try clear hi)
            refine hK.out _ _ ⟨(bcell_ HB.out hw102_0), (bcell_ HB.out hw102_1), (bcell_ HB.out hw102_2), (bcell_ HB.out hw102_3), (bcell_ HB.out hw102_4), (bcell_ HB.out hw102_5), (bcell_ HB.out hw102_6), (bcell_ HB.out hw102_7), (bcell_ HB.out hw102_8), (bcell_ HB.out hw107_0), (bcell_ HB.out hw107_1), (bcell_ HB.out hw107_2), (bcell_ HB.out hw107_3), (bcell_ HB.out hw107_4), (bcell_ HB.out hw107_5), (bcell_ HB.out hw107_6), (bcell_ HB.out hw107_7), (bcell_ HB.out hw107_8), (bcell_ HB.out hw112_0), (bcell_ HB.out hw112_1), (bcell_ HB.out hw112_2), (bcell_ HB.out hw112_3), (bcell_ HB.out hw112_4), (bcell_ HB.out hw112_5), (bcell_ HB.out hw112_6), (bcell_ HB.out hw112_7), (bcell_ HB.out hw112_8)⟩ (fun hHeld => ?_)
            clear hK K
            refine norm_ (a' := ?_) ?_ ?_
            rotate_left
            ·show Act.put _ (some 25) _ = _
             simp only [Act.put, xset_a, xset_z, xset_s, i64_w, i32_w]
             rfl
            refine one_ (i := 11) (N := some 31) #[true, true, true, true, true, true, true, true, true, true, true, true, true, true, true, true, true, false, true, false] rfl rfl (one_of HT_.out (by kernel_rfl)) (by decide) (fun K hK => ?_)
            refine goes_ Try.func25 (by kernel_rfl) rfl #[.agg #[.int .i64 ((rd_T44 l0 x8_1).f1.f0), .int .i64 ((rd_T44 l0 x8_1).f1.f1), .int .i64 ((rd_T44 l0 x8_1).f1.f2), .int .i64 ((rd_T44 l0 x8_1).f1.f3)]] (by rfl) rfl rfl (by (try simp only [List.map_toArray, List.map_cons, List.map_nil]); first | done | rfl | (simp only [List.length_drop, List.length_take]; rfl)) ?_
            with_reducible refine (donjonlaw4_Good.calls ((rd_T44 l0 x8_1).f1.f0) ((rd_T44 l0 x8_1).f1.f1) ((rd_T44 l0 x8_1).f1.f2) ((rd_T44 l0 x8_1).f1.f3) t108 t109 t110 t111 _ A11.out).mono ?_
            rintro e w17 ⟨rfl, hb⟩
            refine ⟨_, rfl, ?_⟩
            have n0_ := Aside0.mk (Kd.R_below (kr_ HO_7.out) hb)
            have n1_ := Aside0.mk (blk_below (g := gb101) (o := .cells #[.string a1_0, .int .i64 a1_1, .int .i64 a1_2, .int .i64 a1_3, .int .i64 a1_4, .string a1_5, .int .i64 a1_6, .int .i64 a1_7, .int .i64 a1_8, .int .i64 a1_9, .string a1_10] 28 (0, 0)) (bk_ BK101.out) hb)
            have n2_ := Aside0.mk (blk_below (g := gb113) (o := .cells #[.int .i64 0, .int .i64 0, .int .i64 0, .int .i64 0, .int .i64 0, .int .i64 0, .int .i64 0, .int .i64 0, .string ⟨#[]⟩] 44 (0, 0)) (bk_ BK113.out) hb)
            have n3_ := Aside0.mk (below_step (bl_ HB.out) hb)
            clear HO_7 BK101 BK113 HB
            have HO_7 := n0_; have BK101 := n1_; have BK113 := n2_; have HB := n3_
            clear n0_ n1_ n2_ n3_
            (try clear hb)
            (try clear hb2)
            (try clear hk)
            (try clear hi)
            refine hK.out _ _ ⟨(bcell_ HB.out hw102_0), (bcell_ HB.out hw102_1), (bcell_ HB.out hw102_2), (bcell_ HB.out hw102_3), (bcell_ HB.out hw102_4), (bcell_ HB.out hw102_5), (bcell_ HB.out hw102_6), (bcell_ HB.out hw102_7), (bcell_ HB.out hw102_8), (bcell_ HB.out hw107_0), (bcell_ HB.out hw107_1), (bcell_ HB.out hw107_2), (bcell_ HB.out hw107_3), (bcell_ HB.out hw107_4), (bcell_ HB.out hw107_5), (bcell_ HB.out hw107_6), (bcell_ HB.out hw107_7), (bcell_ HB.out hw107_8), (bcell_ HB.out hw112_0), (bcell_ HB.out hw112_1), (bcell_ HB.out hw112_2), (bcell_ HB.out hw112_3), (bcell_ HB.out hw112_4), (bcell_ HB.out hw112_5), (bcell_ HB.out hw112_6), (bcell_ HB.out hw112_7), (bcell_ HB.out hw112_8)⟩ (fun hHeld => ?_)
            clear hK K
            refine norm_ (a' := ?_) ?_ ?_
            rotate_left
            ·show Act.put _ (some 31) _ = _
             simp only [Act.put, xset_a, xset_z, xset_s, i64_w, i32_w]
             rfl
            refine pure_ (i := 17) (N := some 37) (v := ?_) (a' := ?_) #[true, true, true, true, true, true, true, true, true, true, true, true, true, true, true, true, true, true, true, false] rfl rfl (any_of HT_.out (by kernel_rfl)) (fun _ _ _ h => h) (Or.inl ⟨by rfl, ?_⟩) ?_ ?_
            rotate_left
            ·intro w'
             go_simp
             with_reducible rfl
            rotate_left
            ·simp only [Act.put, xset_a, xset_z, xset_s, i64_w, i32_w]
             rfl
            exact norm_ (by simp only [putAll, Act.put, xset_a, xset_z, xset_s]) (hCont (gb113) _ ⟨hHeld, (by (with_reducible repeat (first | apply Kd.R_alloc | apply Kd.R_drewN | apply Kd.R_drew)); exact Kd.R_mono HO_7.out (fun _ hk => hk.2)), (bk_ BK101.out), (bk_ BK113.out), GW113.out, GE113.out, NB101_113.out, NB113_101.out, (bl_ HB.out)⟩)
          rintro gb113 w18 ⟨hS_, h0_, h1_, h2_, h3_, h4_, h5_, h6_, h7_⟩
          have n0_ : Aside0 (Kd.R k44 44 w18 w.heap.size (fun k_ => k_ ≠ gb113) u7 x7_1) := ⟨h0_⟩
          have n1_ : Aside0 (w18.heap[gb101]? = some (.cells #[.string a1_0, .int .i64 a1_1, .int .i64 a1_2, .int .i64 a1_3, .int .i64 a1_4, .string a1_5, .int .i64 a1_6, .int .i64 a1_7, .int .i64 a1_8, .int .i64 a1_9, .string a1_10] 28 (0, 0))) := ⟨h1_⟩
          have n2_ : Aside0 (w18.heap[gb113]? = some (.cells #[.int .i64 0, .int .i64 0, .int .i64 0, .int .i64 0, .int .i64 0, .int .i64 0, .int .i64 0, .int .i64 0, .string ⟨#[]⟩] 44 (0, 0))) := ⟨h2_⟩
          have n3_ : Aside0 (w.heap.size ≤ gb113) := ⟨h3_⟩
          have n4_ : Aside0 (w.heap.size ≤ gb113) := ⟨h4_⟩
          have n5_ : Aside0 (gb101 ≠ gb113) := ⟨h5_⟩
          have n6_ : Aside0 (gb113 ≠ gb101) := ⟨h6_⟩
          have n7_ : Aside0 (Below w.heap.size w w18) := ⟨h7_⟩
          clear HO_7 BK101 HB
          clear h0_ h1_ h2_ h3_ h4_ h5_ h6_ h7_
          have HO_7 := n0_; have BK101 := n1_; have BK113 := n2_; have GW113 := n3_; have GE113 := n4_; have NB101_113 := n5_; have NB113_101 := n6_; have HB := n7_
          clear n0_ n1_ n2_ n3_ n4_ n5_ n6_ n7_
          have hHeld : w18.cell? (ad102.add ((x8_1).toNat * 9)) = some (.int .i64 ((rd_T44 l0 x8_1).f0.f0)) ∧ w18.cell? ⟨(ad102.add ((x8_1).toNat * 9)).block, (ad102.add ((x8_1).toNat * 9)).off + 1, none⟩ = some (.int .i64 ((rd_T44 l0 x8_1).f0.f1)) ∧ w18.cell? ⟨(ad102.add ((x8_1).toNat * 9)).block, (ad102.add ((x8_1).toNat * 9)).off + 2, none⟩ = some (.int .i64 ((rd_T44 l0 x8_1).f0.f2)) ∧ w18.cell? ⟨(ad102.add ((x8_1).toNat * 9)).block, (ad102.add ((x8_1).toNat * 9)).off + 3, none⟩ = some (.int .i64 ((rd_T44 l0 x8_1).f0.f3)) ∧ w18.cell? ⟨(ad102.add ((x8_1).toNat * 9)).block, (ad102.add ((x8_1).toNat * 9)).off + 4, none⟩ = some (.int .i64 ((rd_T44 l0 x8_1).f1.f0)) ∧ w18.cell? ⟨(ad102.add ((x8_1).toNat * 9)).block, (ad102.add ((x8_1).toNat * 9)).off + 5, none⟩ = some (.int .i64 ((rd_T44 l0 x8_1).f1.f1)) ∧ w18.cell? ⟨(ad102.add ((x8_1).toNat * 9)).block, (ad102.add ((x8_1).toNat * 9)).off + 6, none⟩ = some (.int .i64 ((rd_T44 l0 x8_1).f1.f2)) ∧ w18.cell? ⟨(ad102.add ((x8_1).toNat * 9)).block, (ad102.add ((x8_1).toNat * 9)).off + 7, none⟩ = some (.int .i64 ((rd_T44 l0 x8_1).f1.f3)) ∧ w18.cell? ⟨(ad102.add ((x8_1).toNat * 9)).block, (ad102.add ((x8_1).toNat * 9)).off + 8, none⟩ = some (.string ((rd_T44 l0 x8_1).f2)) ∧ w18.cell? (ad102.add ((x8_1).toNat * 9)) = some (.int .i64 ((rd_T44 l0 x8_1).f0.f0)) ∧ w18.cell? ⟨(ad102.add ((x8_1).toNat * 9)).block, (ad102.add ((x8_1).toNat * 9)).off + 1, none⟩ = some (.int .i64 ((rd_T44 l0 x8_1).f0.f1)) ∧ w18.cell? ⟨(ad102.add ((x8_1).toNat * 9)).block, (ad102.add ((x8_1).toNat * 9)).off + 2, none⟩ = some (.int .i64 ((rd_T44 l0 x8_1).f0.f2)) ∧ w18.cell? ⟨(ad102.add ((x8_1).toNat * 9)).block, (ad102.add ((x8_1).toNat * 9)).off + 3, none⟩ = some (.int .i64 ((rd_T44 l0 x8_1).f0.f3)) ∧ w18.cell? ⟨(ad102.add ((x8_1).toNat * 9)).block, (ad102.add ((x8_1).toNat * 9)).off + 4, none⟩ = some (.int .i64 ((rd_T44 l0 x8_1).f1.f0)) ∧ w18.cell? ⟨(ad102.add ((x8_1).toNat * 9)).block, (ad102.add ((x8_1).toNat * 9)).off + 5, none⟩ = some (.int .i64 ((rd_T44 l0 x8_1).f1.f1)) ∧ w18.cell? ⟨(ad102.add ((x8_1).toNat * 9)).block, (ad102.add ((x8_1).toNat * 9)).off + 6, none⟩ = some (.int .i64 ((rd_T44 l0 x8_1).f1.f2)) ∧ w18.cell? ⟨(ad102.add ((x8_1).toNat * 9)).block, (ad102.add ((x8_1).toNat * 9)).off + 7, none⟩ = some (.int .i64 ((rd_T44 l0 x8_1).f1.f3)) ∧ w18.cell? ⟨(ad102.add ((x8_1).toNat * 9)).block, (ad102.add ((x8_1).toNat * 9)).off + 8, none⟩ = some (.string ((rd_T44 l0 x8_1).f2)) ∧ w18.cell? (ad102.add ((x8_1).toNat * 9)) = some (.int .i64 ((rd_T44 l0 x8_1).f0.f0)) ∧ w18.cell? ⟨(ad102.add ((x8_1).toNat * 9)).block, (ad102.add ((x8_1).toNat * 9)).off + 1, none⟩ = some (.int .i64 ((rd_T44 l0 x8_1).f0.f1)) ∧ w18.cell? ⟨(ad102.add ((x8_1).toNat * 9)).block, (ad102.add ((x8_1).toNat * 9)).off + 2, none⟩ = some (.int .i64 ((rd_T44 l0 x8_1).f0.f2)) ∧ w18.cell? ⟨(ad102.add ((x8_1).toNat * 9)).block, (ad102.add ((x8_1).toNat * 9)).off + 3, none⟩ = some (.int .i64 ((rd_T44 l0 x8_1).f0.f3)) ∧ w18.cell? ⟨(ad102.add ((x8_1).toNat * 9)).block, (ad102.add ((x8_1).toNat * 9)).off + 4, none⟩ = some (.int .i64 ((rd_T44 l0 x8_1).f1.f0)) ∧ w18.cell? ⟨(ad102.add ((x8_1).toNat * 9)).block, (ad102.add ((x8_1).toNat * 9)).off + 5, none⟩ = some (.int .i64 ((rd_T44 l0 x8_1).f1.f1)) ∧ w18.cell? ⟨(ad102.add ((x8_1).toNat * 9)).block, (ad102.add ((x8_1).toNat * 9)).off + 6, none⟩ = some (.int .i64 ((rd_T44 l0 x8_1).f1.f2)) ∧ w18.cell? ⟨(ad102.add ((x8_1).toNat * 9)).block, (ad102.add ((x8_1).toNat * 9)).off + 7, none⟩ = some (.int .i64 ((rd_T44 l0 x8_1).f1.f3)) ∧ w18.cell? ⟨(ad102.add ((x8_1).toNat * 9)).block, (ad102.add ((x8_1).toNat * 9)).off + 8, none⟩ = some (.string ((rd_T44 l0 x8_1).f2)) := hS_
          refine norm_ (a' := ?_) ?_ ?_
          rotate_left
          ·simp only [putAll, Act.put, xset_a, xset_z, xset_s]
           rfl
          refine one_ (i := 19) (N := none) #[true, true, true, true, true, true, true, true, true, true, true, true, true, true, true, true, true, true, true, true] rfl rfl (one_of HT_.out (by kernel_rfl)) (by decide) (fun K hK => ?_)
          have hs19 : w18.cell? ⟨gb113, 0, none⟩ = some (.int .i64 0) := (blk_cell BK113.out 0).trans rfl
          have hfs19 := blk_frozen BK113.out 0
          have hns19_0 := NB101_113.out
          have hms19_0 := NB113_101.out
          have hs20 : w18.cell? ⟨gb113, 1, none⟩ = some (.int .i64 0) := (blk_cell BK113.out 1).trans rfl
          have hfs20 := blk_frozen BK113.out 1
          have hns20_0 := NB101_113.out
          have hms20_0 := NB113_101.out
          have hs21 : w18.cell? ⟨gb113, 2, none⟩ = some (.int .i64 0) := (blk_cell BK113.out 2).trans rfl
          have hfs21 := blk_frozen BK113.out 2
          have hns21_0 := NB101_113.out
          have hms21_0 := NB113_101.out
          have hs22 : w18.cell? ⟨gb113, 3, none⟩ = some (.int .i64 0) := (blk_cell BK113.out 3).trans rfl
          have hfs22 := blk_frozen BK113.out 3
          have hns22_0 := NB101_113.out
          have hms22_0 := NB113_101.out
          have hs23 : w18.cell? ⟨gb113, 4, none⟩ = some (.int .i64 0) := (blk_cell BK113.out 4).trans rfl
          have hfs23 := blk_frozen BK113.out 4
          have hns23_0 := NB101_113.out
          have hms23_0 := NB113_101.out
          have hs24 : w18.cell? ⟨gb113, 5, none⟩ = some (.int .i64 0) := (blk_cell BK113.out 5).trans rfl
          have hfs24 := blk_frozen BK113.out 5
          have hns24_0 := NB101_113.out
          have hms24_0 := NB113_101.out
          have hs25 : w18.cell? ⟨gb113, 6, none⟩ = some (.int .i64 0) := (blk_cell BK113.out 6).trans rfl
          have hfs25 := blk_frozen BK113.out 6
          have hns25_0 := NB101_113.out
          have hms25_0 := NB113_101.out
          have hs26 : w18.cell? ⟨gb113, 7, none⟩ = some (.int .i64 0) := (blk_cell BK113.out 7).trans rfl
          have hfs26 := blk_frozen BK113.out 7
          have hns26_0 := NB101_113.out
          have hms26_0 := NB113_101.out
          have hs27 : w18.cell? ⟨gb113, 8, none⟩ = some (.string ⟨#[]⟩) := (blk_cell BK113.out 8).trans rfl
          have hfs27 := blk_frozen BK113.out 8
          have hns27_0 := NB101_113.out
          have hms27_0 := NB113_101.out
          with_reducible refine skip_ (w1 := ?_) ?_ rfl ?_ ?_
          rotate_left
          ·rfl
          ·go_simp
           rfl
          refine hK.out _ _ ⟨(by (iterate 9 (refine (cell_far (p := ⟨gb113, _, none⟩) (by have this := World.block_lt_of_cell? _ _ hw102_0; (try rw [add_block] at this); have this := Nat.ne_of_lt (Nat.lt_of_lt_of_le this GW113.out); first | exact this | (rw [add_block]; exact this) | (show (Addr.add _ _).block ≠ _; rw [add_block]; exact this) | (dsimp only; exact this)) _).trans ?_)); exact hHeld.1), (by (iterate 9 (refine (cell_far (p := ⟨gb113, _, none⟩) (by have this := World.block_lt_of_cell? _ _ hw102_1; (try rw [add_block] at this); have this := Nat.ne_of_lt (Nat.lt_of_lt_of_le this GW113.out); first | exact this | (rw [add_block]; exact this) | (show (Addr.add _ _).block ≠ _; rw [add_block]; exact this) | (dsimp only; exact this)) _).trans ?_)); exact hHeld.2.1), (by (iterate 9 (refine (cell_far (p := ⟨gb113, _, none⟩) (by have this := World.block_lt_of_cell? _ _ hw102_2; (try rw [add_block] at this); have this := Nat.ne_of_lt (Nat.lt_of_lt_of_le this GW113.out); first | exact this | (rw [add_block]; exact this) | (show (Addr.add _ _).block ≠ _; rw [add_block]; exact this) | (dsimp only; exact this)) _).trans ?_)); exact hHeld.2.2.1), (by (iterate 9 (refine (cell_far (p := ⟨gb113, _, none⟩) (by have this := World.block_lt_of_cell? _ _ hw102_3; (try rw [add_block] at this); have this := Nat.ne_of_lt (Nat.lt_of_lt_of_le this GW113.out); first | exact this | (rw [add_block]; exact this) | (show (Addr.add _ _).block ≠ _; rw [add_block]; exact this) | (dsimp only; exact this)) _).trans ?_)); exact hHeld.2.2.2.1), (by (iterate 9 (refine (cell_far (p := ⟨gb113, _, none⟩) (by have this := World.block_lt_of_cell? _ _ hw102_4; (try rw [add_block] at this); have this := Nat.ne_of_lt (Nat.lt_of_lt_of_le this GW113.out); first | exact this | (rw [add_block]; exact this) | (show (Addr.add _ _).block ≠ _; rw [add_block]; exact this) | (dsimp only; exact this)) _).trans ?_)); exact hHeld.2.2.2.2.1), (by (iterate 9 (refine (cell_far (p := ⟨gb113, _, none⟩) (by have this := World.block_lt_of_cell? _ _ hw102_5; (try rw [add_block] at this); have this := Nat.ne_of_lt (Nat.lt_of_lt_of_le this GW113.out); first | exact this | (rw [add_block]; exact this) | (show (Addr.add _ _).block ≠ _; rw [add_block]; exact this) | (dsimp only; exact this)) _).trans ?_)); exact hHeld.2.2.2.2.2.1), (by (iterate 9 (refine (cell_far (p := ⟨gb113, _, none⟩) (by have this := World.block_lt_of_cell? _ _ hw102_6; (try rw [add_block] at this); have this := Nat.ne_of_lt (Nat.lt_of_lt_of_le this GW113.out); first | exact this | (rw [add_block]; exact this) | (show (Addr.add _ _).block ≠ _; rw [add_block]; exact this) | (dsimp only; exact this)) _).trans ?_)); exact hHeld.2.2.2.2.2.2.1), (by (iterate 9 (refine (cell_far (p := ⟨gb113, _, none⟩) (by have this := World.block_lt_of_cell? _ _ hw102_7; (try rw [add_block] at this); have this := Nat.ne_of_lt (Nat.lt_of_lt_of_le this GW113.out); first | exact this | (rw [add_block]; exact this) | (show (Addr.add _ _).block ≠ _; rw [add_block]; exact this) | (dsimp only; exact this)) _).trans ?_)); exact hHeld.2.2.2.2.2.2.2.1), (by (iterate 9 (refine (cell_far (p := ⟨gb113, _, none⟩) (by have this := World.block_lt_of_cell? _ _ hw102_8; (try rw [add_block] at this); have this := Nat.ne_of_lt (Nat.lt_of_lt_of_le this GW113.out); first | exact this | (rw [add_block]; exact this) | (show (Addr.add _ _).block ≠ _; rw [add_block]; exact this) | (dsimp only; exact this)) _).trans ?_)); exact hHeld.2.2.2.2.2.2.2.2.1), (by (iterate 9 (refine (cell_far (p := ⟨gb113, _, none⟩) (by have this := World.block_lt_of_cell? _ _ hw107_0; (try rw [add_block] at this); have this := Nat.ne_of_lt (Nat.lt_of_lt_of_le this GW113.out); first | exact this | (rw [add_block]; exact this) | (show (Addr.add _ _).block ≠ _; rw [add_block]; exact this) | (dsimp only; exact this)) _).trans ?_)); exact hHeld.2.2.2.2.2.2.2.2.2.1), (by (iterate 9 (refine (cell_far (p := ⟨gb113, _, none⟩) (by have this := World.block_lt_of_cell? _ _ hw107_1; (try rw [add_block] at this); have this := Nat.ne_of_lt (Nat.lt_of_lt_of_le this GW113.out); first | exact this | (rw [add_block]; exact this) | (show (Addr.add _ _).block ≠ _; rw [add_block]; exact this) | (dsimp only; exact this)) _).trans ?_)); exact hHeld.2.2.2.2.2.2.2.2.2.2.1), (by (iterate 9 (refine (cell_far (p := ⟨gb113, _, none⟩) (by have this := World.block_lt_of_cell? _ _ hw107_2; (try rw [add_block] at this); have this := Nat.ne_of_lt (Nat.lt_of_lt_of_le this GW113.out); first | exact this | (rw [add_block]; exact this) | (show (Addr.add _ _).block ≠ _; rw [add_block]; exact this) | (dsimp only; exact this)) _).trans ?_)); exact hHeld.2.2.2.2.2.2.2.2.2.2.2.1), (by (iterate 9 (refine (cell_far (p := ⟨gb113, _, none⟩) (by have this := World.block_lt_of_cell? _ _ hw107_3; (try rw [add_block] at this); have this := Nat.ne_of_lt (Nat.lt_of_lt_of_le this GW113.out); first | exact this | (rw [add_block]; exact this) | (show (Addr.add _ _).block ≠ _; rw [add_block]; exact this) | (dsimp only; exact this)) _).trans ?_)); exact hHeld.2.2.2.2.2.2.2.2.2.2.2.2.1), (by (iterate 9 (refine (cell_far (p := ⟨gb113, _, none⟩) (by have this := World.block_lt_of_cell? _ _ hw107_4; (try rw [add_block] at this); have this := Nat.ne_of_lt (Nat.lt_of_lt_of_le this GW113.out); first | exact this | (rw [add_block]; exact this) | (show (Addr.add _ _).block ≠ _; rw [add_block]; exact this) | (dsimp only; exact this)) _).trans ?_)); exact hHeld.2.2.2.2.2.2.2.2.2.2.2.2.2.1), (by (iterate 9 (refine (cell_far (p := ⟨gb113, _, none⟩) (by have this := World.block_lt_of_cell? _ _ hw107_5; (try rw [add_block] at this); have this := Nat.ne_of_lt (Nat.lt_of_lt_of_le this GW113.out); first | exact this | (rw [add_block]; exact this) | (show (Addr.add _ _).block ≠ _; rw [add_block]; exact this) | (dsimp only; exact this)) _).trans ?_)); exact hHeld.2.2.2.2.2.2.2.2.2.2.2.2.2.2.1), (by (iterate 9 (refine (cell_far (p := ⟨gb113, _, none⟩) (by have this := World.block_lt_of_cell? _ _ hw107_6; (try rw [add_block] at this); have this := Nat.ne_of_lt (Nat.lt_of_lt_of_le this GW113.out); first | exact this | (rw [add_block]; exact this) | (show (Addr.add _ _).block ≠ _; rw [add_block]; exact this) | (dsimp only; exact this)) _).trans ?_)); exact hHeld.2.2.2.2.2.2.2.2.2.2.2.2.2.2.2.1), (by (iterate 9 (refine (cell_far (p := ⟨gb113, _, none⟩) (by have this := World.block_lt_of_cell? _ _ hw107_7; (try rw [add_block] at this); have this := Nat.ne_of_lt (Nat.lt_of_lt_of_le this GW113.out); first | exact this | (rw [add_block]; exact this) | (show (Addr.add _ _).block ≠ _; rw [add_block]; exact this) | (dsimp only; exact this)) _).trans ?_)); exact hHeld.2.2.2.2.2.2.2.2.2.2.2.2.2.2.2.2.1), (by (iterate 9 (refine (cell_far (p := ⟨gb113, _, none⟩) (by have this := World.block_lt_of_cell? _ _ hw107_8; (try rw [add_block] at this); have this := Nat.ne_of_lt (Nat.lt_of_lt_of_le this GW113.out); first | exact this | (rw [add_block]; exact this) | (show (Addr.add _ _).block ≠ _; rw [add_block]; exact this) | (dsimp only; exact this)) _).trans ?_)); exact hHeld.2.2.2.2.2.2.2.2.2.2.2.2.2.2.2.2.2.1), (by (iterate 9 (refine (cell_far (p := ⟨gb113, _, none⟩) (by have this := World.block_lt_of_cell? _ _ hw112_0; (try rw [add_block] at this); have this := Nat.ne_of_lt (Nat.lt_of_lt_of_le this GW113.out); first | exact this | (rw [add_block]; exact this) | (show (Addr.add _ _).block ≠ _; rw [add_block]; exact this) | (dsimp only; exact this)) _).trans ?_)); exact hHeld.2.2.2.2.2.2.2.2.2.2.2.2.2.2.2.2.2.2.1), (by (iterate 9 (refine (cell_far (p := ⟨gb113, _, none⟩) (by have this := World.block_lt_of_cell? _ _ hw112_1; (try rw [add_block] at this); have this := Nat.ne_of_lt (Nat.lt_of_lt_of_le this GW113.out); first | exact this | (rw [add_block]; exact this) | (show (Addr.add _ _).block ≠ _; rw [add_block]; exact this) | (dsimp only; exact this)) _).trans ?_)); exact hHeld.2.2.2.2.2.2.2.2.2.2.2.2.2.2.2.2.2.2.2.1), (by (iterate 9 (refine (cell_far (p := ⟨gb113, _, none⟩) (by have this := World.block_lt_of_cell? _ _ hw112_2; (try rw [add_block] at this); have this := Nat.ne_of_lt (Nat.lt_of_lt_of_le this GW113.out); first | exact this | (rw [add_block]; exact this) | (show (Addr.add _ _).block ≠ _; rw [add_block]; exact this) | (dsimp only; exact this)) _).trans ?_)); exact hHeld.2.2.2.2.2.2.2.2.2.2.2.2.2.2.2.2.2.2.2.2.1), (by (iterate 9 (refine (cell_far (p := ⟨gb113, _, none⟩) (by have this := World.block_lt_of_cell? _ _ hw112_3; (try rw [add_block] at this); have this := Nat.ne_of_lt (Nat.lt_of_lt_of_le this GW113.out); first | exact this | (rw [add_block]; exact this) | (show (Addr.add _ _).block ≠ _; rw [add_block]; exact this) | (dsimp only; exact this)) _).trans ?_)); exact hHeld.2.2.2.2.2.2.2.2.2.2.2.2.2.2.2.2.2.2.2.2.2.1), (by (iterate 9 (refine (cell_far (p := ⟨gb113, _, none⟩) (by have this := World.block_lt_of_cell? _ _ hw112_4; (try rw [add_block] at this); have this := Nat.ne_of_lt (Nat.lt_of_lt_of_le this GW113.out); first | exact this | (rw [add_block]; exact this) | (show (Addr.add _ _).block ≠ _; rw [add_block]; exact this) | (dsimp only; exact this)) _).trans ?_)); exact hHeld.2.2.2.2.2.2.2.2.2.2.2.2.2.2.2.2.2.2.2.2.2.2.1), (by (iterate 9 (refine (cell_far (p := ⟨gb113, _, none⟩) (by have this := World.block_lt_of_cell? _ _ hw112_5; (try rw [add_block] at this); have this := Nat.ne_of_lt (Nat.lt_of_lt_of_le this GW113.out); first | exact this | (rw [add_block]; exact this) | (show (Addr.add _ _).block ≠ _; rw [add_block]; exact this) | (dsimp only; exact this)) _).trans ?_)); exact hHeld.2.2.2.2.2.2.2.2.2.2.2.2.2.2.2.2.2.2.2.2.2.2.2.1), (by (iterate 9 (refine (cell_far (p := ⟨gb113, _, none⟩) (by have this := World.block_lt_of_cell? _ _ hw112_6; (try rw [add_block] at this); have this := Nat.ne_of_lt (Nat.lt_of_lt_of_le this GW113.out); first | exact this | (rw [add_block]; exact this) | (show (Addr.add _ _).block ≠ _; rw [add_block]; exact this) | (dsimp only; exact this)) _).trans ?_)); exact hHeld.2.2.2.2.2.2.2.2.2.2.2.2.2.2.2.2.2.2.2.2.2.2.2.2.1), (by (iterate 9 (refine (cell_far (p := ⟨gb113, _, none⟩) (by have this := World.block_lt_of_cell? _ _ hw112_7; (try rw [add_block] at this); have this := Nat.ne_of_lt (Nat.lt_of_lt_of_le this GW113.out); first | exact this | (rw [add_block]; exact this) | (show (Addr.add _ _).block ≠ _; rw [add_block]; exact this) | (dsimp only; exact this)) _).trans ?_)); exact hHeld.2.2.2.2.2.2.2.2.2.2.2.2.2.2.2.2.2.2.2.2.2.2.2.2.2.1), (by (iterate 9 (refine (cell_far (p := ⟨gb113, _, none⟩) (by have this := World.block_lt_of_cell? _ _ hw112_8; (try rw [add_block] at this); have this := Nat.ne_of_lt (Nat.lt_of_lt_of_le this GW113.out); first | exact this | (rw [add_block]; exact this) | (show (Addr.add _ _).block ≠ _; rw [add_block]; exact this) | (dsimp only; exact this)) _).trans ?_)); exact hHeld.2.2.2.2.2.2.2.2.2.2.2.2.2.2.2.2.2.2.2.2.2.2.2.2.2.2)⟩ (fun hHeld => ?_)
          clear hK K
          refine done_ (done_of HT_.out (by kernel_rfl)) ?_
          try go_wp2
          have n0_ : Aside0 (Kd.R k44 44 (((((((((w18.setCell ⟨gb113, 0, none⟩ (.int .i64 t103)).setCell ⟨gb113, 1, none⟩ (.int .i64 t104)).setCell ⟨gb113, 2, none⟩ (.int .i64 t105)).setCell ⟨gb113, 3, none⟩ (.int .i64 t106)).setCell ⟨gb113, 4, none⟩ (.int .i64 t108)).setCell ⟨gb113, 5, none⟩ (.int .i64 t109)).setCell ⟨gb113, 6, none⟩ (.int .i64 t110)).setCell ⟨gb113, 7, none⟩ (.int .i64 t111)).setCell ⟨gb113, 8, none⟩ (.string ((rd_T44 l0 x8_1).f2))) w.heap.size (fun k_ => k_ ≠ gb113) u7 x7_1) := ⟨by (with_reducible repeat (first | apply Kd.R_alloc | apply Kd.R_drewN | apply Kd.R_drew)); exact Kd.R_mono (Kd.R_far (p := ⟨gb113, 8, none⟩) (Kd.R_far (p := ⟨gb113, 7, none⟩) (Kd.R_far (p := ⟨gb113, 6, none⟩) (Kd.R_far (p := ⟨gb113, 5, none⟩) (Kd.R_far (p := ⟨gb113, 4, none⟩) (Kd.R_far (p := ⟨gb113, 3, none⟩) (Kd.R_far (p := ⟨gb113, 2, none⟩) (Kd.R_far (p := ⟨gb113, 1, none⟩) (Kd.R_far (p := ⟨gb113, 0, none⟩) (Kd.R_mono HO_7.out (fun k_ hk => (⟨hk, hk⟩ : _ ∧ k_ ≠ gb113))) (fun _ hk => hk.2) (.int .i64 t103)) (fun _ hk => hk.2) (.int .i64 t104)) (fun _ hk => hk.2) (.int .i64 t105)) (fun _ hk => hk.2) (.int .i64 t106)) (fun _ hk => hk.2) (.int .i64 t108)) (fun _ hk => hk.2) (.int .i64 t109)) (fun _ hk => hk.2) (.int .i64 t110)) (fun _ hk => hk.2) (.int .i64 t111)) (fun _ hk => hk.2) (.string ((rd_T44 l0 x8_1).f2))) (fun _ hk => hk.1)⟩
          have n1_ : Aside0 ((((((((((w18.setCell ⟨gb113, 0, none⟩ (.int .i64 t103)).setCell ⟨gb113, 1, none⟩ (.int .i64 t104)).setCell ⟨gb113, 2, none⟩ (.int .i64 t105)).setCell ⟨gb113, 3, none⟩ (.int .i64 t106)).setCell ⟨gb113, 4, none⟩ (.int .i64 t108)).setCell ⟨gb113, 5, none⟩ (.int .i64 t109)).setCell ⟨gb113, 6, none⟩ (.int .i64 t110)).setCell ⟨gb113, 7, none⟩ (.int .i64 t111)).setCell ⟨gb113, 8, none⟩ (.string ((rd_T44 l0 x8_1).f2))).heap[gb101]? = some (.cells #[.string a1_0, .int .i64 a1_1, .int .i64 a1_2, .int .i64 a1_3, .int .i64 a1_4, .string a1_5, .int .i64 a1_6, .int .i64 a1_7, .int .i64 a1_8, .int .i64 a1_9, .string a1_10] 28 (0, 0))) := ⟨by (iterate 9 ((with_reducible repeat (first | refine blk_drewN ?_ _ | refine blk_drew ?_ | refine blk_alloc ?_ _)); refine blk_far ?_ NB101_113.out _)); (with_reducible repeat (first | refine blk_drewN ?_ _ | refine blk_drew ?_ | refine blk_alloc ?_ _)); exact BK101.out⟩
          have n2_ : Aside0 ((((((((((w18.setCell ⟨gb113, 0, none⟩ (.int .i64 t103)).setCell ⟨gb113, 1, none⟩ (.int .i64 t104)).setCell ⟨gb113, 2, none⟩ (.int .i64 t105)).setCell ⟨gb113, 3, none⟩ (.int .i64 t106)).setCell ⟨gb113, 4, none⟩ (.int .i64 t108)).setCell ⟨gb113, 5, none⟩ (.int .i64 t109)).setCell ⟨gb113, 6, none⟩ (.int .i64 t110)).setCell ⟨gb113, 7, none⟩ (.int .i64 t111)).setCell ⟨gb113, 8, none⟩ (.string ((rd_T44 l0 x8_1).f2))).heap[gb113]? = some (.cells #[.int .i64 t103, .int .i64 t104, .int .i64 t105, .int .i64 t106, .int .i64 t108, .int .i64 t109, .int .i64 t110, .int .i64 t111, .string ((rd_T44 l0 x8_1).f2)] 44 (0, 0))) := ⟨by (with_reducible repeat (first | refine blk_drewN ?_ _ | refine blk_drew ?_ | refine blk_alloc ?_ _)); refine puts9 (cs := #[.int .i64 0, .int .i64 0, .int .i64 0, .int .i64 0, .int .i64 0, .int .i64 0, .int .i64 0, .int .i64 0, .string ⟨#[]⟩]) ?_ rfl; (with_reducible repeat (first | refine blk_drewN ?_ _ | refine blk_drew ?_ | refine blk_alloc ?_ _)); exact BK113.out⟩
          have n3_ : Aside0 (Below w.heap.size w (((((((((w18.setCell ⟨gb113, 0, none⟩ (.int .i64 t103)).setCell ⟨gb113, 1, none⟩ (.int .i64 t104)).setCell ⟨gb113, 2, none⟩ (.int .i64 t105)).setCell ⟨gb113, 3, none⟩ (.int .i64 t106)).setCell ⟨gb113, 4, none⟩ (.int .i64 t108)).setCell ⟨gb113, 5, none⟩ (.int .i64 t109)).setCell ⟨gb113, 6, none⟩ (.int .i64 t110)).setCell ⟨gb113, 7, none⟩ (.int .i64 t111)).setCell ⟨gb113, 8, none⟩ (.string ((rd_T44 l0 x8_1).f2)))) := ⟨by repeat (first | (with_reducible first | exact HB.out | apply below_alloc | apply pw_below_drewN | apply below_drew1 | refine below_set ?_ GE101.out | refine below_set ?_ GE113.out) | exact HB.out)⟩
          (try clear HO_7)
          (try clear BK101)
          (try clear BK113)
          (try clear HB)
          generalize (((((((((w18.setCell ⟨gb113, 0, none⟩ (.int .i64 t103)).setCell ⟨gb113, 1, none⟩ (.int .i64 t104)).setCell ⟨gb113, 2, none⟩ (.int .i64 t105)).setCell ⟨gb113, 3, none⟩ (.int .i64 t106)).setCell ⟨gb113, 4, none⟩ (.int .i64 t108)).setCell ⟨gb113, 5, none⟩ (.int .i64 t109)).setCell ⟨gb113, 6, none⟩ (.int .i64 t110)).setCell ⟨gb113, 7, none⟩ (.int .i64 t111)).setCell ⟨gb113, 8, none⟩ (.string ((rd_T44 l0 x8_1).f2))) = w28 at n0_ n1_ n2_ n3_ ⊢
          have HO_7 := n0_; have BK101 := n1_; have BK113 := n2_; have HB := n3_
          clear n0_ n1_ n2_ n3_
          have n0_ := Aside0.mk (Kd.R_drew HO_7.out)
          have n1_ := Aside0.mk (blk_drew BK101.out)
          have n2_ := Aside0.mk (blk_drew BK113.out)
          have n3_ := Aside0.mk (below_drew1 HB.out)
          clear HO_7 BK101 BK113 HB
          have HO_7 := n0_; have BK101 := n1_; have BK113 := n2_; have HB := n3_
          clear n0_ n1_ n2_ n3_
          refine start_ (n := 8) (S := fun w' => w'.cell? ⟨gb101, 0, none⟩ = some (.string a1_0) ∧ w'.cell? ⟨gb101, 1, none⟩ = some (.int .i64 a1_1) ∧ w'.cell? ⟨gb101, 2, none⟩ = some (.int .i64 a1_2) ∧ w'.cell? ⟨gb101, 3, none⟩ = some (.int .i64 a1_3) ∧ w'.cell? ⟨gb101, 4, none⟩ = some (.int .i64 a1_4) ∧ w'.cell? ⟨gb101, 5, none⟩ = some (.string a1_5) ∧ w'.cell? ⟨gb101, 6, none⟩ = some (.int .i64 a1_6) ∧ w'.cell? ⟨gb101, 7, none⟩ = some (.int .i64 a1_7) ∧ w'.cell? ⟨gb101, 8, none⟩ = some (.int .i64 a1_8) ∧ w'.cell? ⟨gb101, 9, none⟩ = some (.int .i64 a1_9) ∧ w'.cell? ⟨gb101, 10, none⟩ = some (.string a1_10)) (ds := []) #[false, false, false, false, false, false, false, false] (by kernel_rfl) rfl rfl ⟨(blk_cell BK101.out 0).trans rfl, (blk_cell BK101.out 1).trans rfl, (blk_cell BK101.out 2).trans rfl, (blk_cell BK101.out 3).trans rfl, (blk_cell BK101.out 4).trans rfl, (blk_cell BK101.out 5).trans rfl, (blk_cell BK101.out 6).trans rfl, (blk_cell BK101.out 7).trans rfl, (blk_cell BK101.out 8).trans rfl, (blk_cell BK101.out 9).trans rfl, (blk_cell BK101.out 10).trans rfl⟩ (fun hHeld => ?_); refine with_tabW donjonlaw18_rules.tab7 donjonlaw18_rules.bits7 (fun HT_ HW_ => ?_)
          generalize w28.drew = w29 at HO_7 BK101 BK113 HB hHeld ⊢
          refine pure_ (i := 0) (N := some 41) (v := ?_) (a' := ?_) #[true, false, false, false, false, false, false, false] rfl rfl (any_of HT_.out (by kernel_rfl)) (fun _ _ _ h => h) (Or.inl ⟨by rfl, ?_⟩) ?_ ?_
          rotate_left
          ·intro w'
           go_simp
           with_reducible rfl
          rotate_left
          ·simp only [Act.put, xset_a, xset_z, xset_s, i64_w, i32_w]
           rfl
          refine pure_ (i := 2) (N := some 43) (v := ?_) (a' := ?_) #[true, false, true, false, false, false, false, false] rfl rfl (any_of HT_.out (by kernel_rfl)) (fun _ _ _ h => h) (Or.inl ⟨by rfl, ?_⟩) ?_ ?_
          rotate_left
          ·intro w'
           go_simp
           with_reducible rfl
          rotate_left
          ·simp only [Act.put, xset_a, xset_z, xset_s, i64_w, i32_w]
           rfl
          refine take_ (i := 1) (N := some 42) (v := ?_) (a' := ?_) #[true, true, true, false, false, false, false, false] rfl rfl (take_ofW HT_.out HW_.out (by kernel_rfl)) (fun _ _ _ h => h) (Or.inl ⟨by rfl, ?_⟩) hHeld ?_ ?_
          rotate_left
          ·rintro w' ⟨s0, s1, s2, s3, s4, s5, s6, s7, s8, s9, s10⟩
           go_simp
           with_reducible rfl
          rotate_left
          ·simp only [Act.put, xset_a, xset_z, xset_s, i64_w, i32_w]
           rfl
          refine pure_ (i := 4) (N := some 45) (v := ?_) (a' := ?_) #[true, true, true, false, true, false, false, false] rfl rfl (any_of HT_.out (by kernel_rfl)) (fun _ _ _ h => h) (Or.inl ⟨by rfl, ?_⟩) ?_ ?_
          rotate_left
          ·intro w'
           go_simp
           with_reducible rfl
          rotate_left
          ·simp only [Act.put, xset_a, xset_z, xset_s, i64_w, i32_w]
           rfl
          refine take_ (i := 3) (N := some 44) (v := ?_) (a' := ?_) #[true, true, true, true, true, false, false, false] rfl rfl (take_ofW HT_.out HW_.out (by kernel_rfl)) (fun _ _ _ h => h) (Or.inl ⟨by rfl, ?_⟩) hHeld ?_ ?_
          rotate_left
          ·rintro w' ⟨s0, s1, s2, s3, s4, s5, s6, s7, s8, s9, s10⟩
           go_simp
           with_reducible rfl
          rotate_left
          ·simp only [Act.put, xset_a, xset_z, xset_s, i64_w, i32_w]
           rfl
          refine one_ (i := 5) (N := none) #[true, true, true, true, true, true, false, false] rfl rfl (one_of HT_.out (by kernel_rfl)) (by decide) (fun K hK => ?_)
          have hs30 : w29.cell? ⟨gb113, 0, none⟩ = some (.int .i64 t103) := (blk_cell BK113.out 0).trans rfl
          have hfs30 := blk_frozen BK113.out 0
          have hns30_0 := NB101_113.out
          have hms30_0 := NB113_101.out
          have hs31 : w29.cell? ⟨gb113, 1, none⟩ = some (.int .i64 t104) := (blk_cell BK113.out 1).trans rfl
          have hfs31 := blk_frozen BK113.out 1
          have hns31_0 := NB101_113.out
          have hms31_0 := NB113_101.out
          have hs32 : w29.cell? ⟨gb113, 2, none⟩ = some (.int .i64 t105) := (blk_cell BK113.out 2).trans rfl
          have hfs32 := blk_frozen BK113.out 2
          have hns32_0 := NB101_113.out
          have hms32_0 := NB113_101.out
          have hs33 : w29.cell? ⟨gb113, 3, none⟩ = some (.int .i64 t106) := (blk_cell BK113.out 3).trans rfl
          have hfs33 := blk_frozen BK113.out 3
          have hns33_0 := NB101_113.out
          have hms33_0 := NB113_101.out
          with_reducible refine skip_ (w1 := ?_) ?_ rfl ?_ ?_
          rotate_left
          ·rfl
          ·go_simp
           rfl
          refine hK.out _ _ ⟨(by (iterate 4 (refine (cell_far (p := ⟨gb113, _, none⟩) NB101_113.out _).trans ?_)); exact hHeld.1), (by (iterate 4 (refine (cell_far (p := ⟨gb113, _, none⟩) NB101_113.out _).trans ?_)); exact hHeld.2.1), (by (iterate 4 (refine (cell_far (p := ⟨gb113, _, none⟩) NB101_113.out _).trans ?_)); exact hHeld.2.2.1), (by (iterate 4 (refine (cell_far (p := ⟨gb113, _, none⟩) NB101_113.out _).trans ?_)); exact hHeld.2.2.2.1), (by (iterate 4 (refine (cell_far (p := ⟨gb113, _, none⟩) NB101_113.out _).trans ?_)); exact hHeld.2.2.2.2.1), (by (iterate 4 (refine (cell_far (p := ⟨gb113, _, none⟩) NB101_113.out _).trans ?_)); exact hHeld.2.2.2.2.2.1), (by (iterate 4 (refine (cell_far (p := ⟨gb113, _, none⟩) NB101_113.out _).trans ?_)); exact hHeld.2.2.2.2.2.2.1), (by (iterate 4 (refine (cell_far (p := ⟨gb113, _, none⟩) NB101_113.out _).trans ?_)); exact hHeld.2.2.2.2.2.2.2.1), (by (iterate 4 (refine (cell_far (p := ⟨gb113, _, none⟩) NB101_113.out _).trans ?_)); exact hHeld.2.2.2.2.2.2.2.2.1), (by (iterate 4 (refine (cell_far (p := ⟨gb113, _, none⟩) NB101_113.out _).trans ?_)); exact hHeld.2.2.2.2.2.2.2.2.2.1), (by (iterate 4 (refine (cell_far (p := ⟨gb113, _, none⟩) NB101_113.out _).trans ?_)); exact hHeld.2.2.2.2.2.2.2.2.2.2)⟩ (fun hHeld => ?_)
          clear hK K
          refine pure_ (i := 6) (N := some 46) (v := ?_) (a' := ?_) #[true, true, true, true, true, true, true, false] rfl rfl (any_of HT_.out (by kernel_rfl)) (fun _ _ _ h => h) (Or.inl ⟨by rfl, ?_⟩) ?_ ?_
          rotate_left
          ·intro w'
           go_simp
           with_reducible rfl
          rotate_left
          ·simp only [Act.put, xset_a, xset_z, xset_s, i64_w, i32_w]
           rfl
          refine one_ (i := 7) (N := none) #[true, true, true, true, true, true, true, true] rfl rfl (one_of HT_.out (by kernel_rfl)) (by decide) (fun K hK => ?_)
          have hs34 : w29.cell? ⟨gb113, 4, none⟩ = some (.int .i64 t108) := (blk_cell BK113.out 4).trans rfl
          have hfs34 := blk_frozen BK113.out 4
          have hns34_0 := NB101_113.out
          have hms34_0 := NB113_101.out
          have hs35 : w29.cell? ⟨gb113, 5, none⟩ = some (.int .i64 t109) := (blk_cell BK113.out 5).trans rfl
          have hfs35 := blk_frozen BK113.out 5
          have hns35_0 := NB101_113.out
          have hms35_0 := NB113_101.out
          have hs36 : w29.cell? ⟨gb113, 6, none⟩ = some (.int .i64 t110) := (blk_cell BK113.out 6).trans rfl
          have hfs36 := blk_frozen BK113.out 6
          have hns36_0 := NB101_113.out
          have hms36_0 := NB113_101.out
          have hs37 : w29.cell? ⟨gb113, 7, none⟩ = some (.int .i64 t111) := (blk_cell BK113.out 7).trans rfl
          have hfs37 := blk_frozen BK113.out 7
          have hns37_0 := NB101_113.out
          have hms37_0 := NB113_101.out
          with_reducible refine skip_ (w1 := ?_) ?_ rfl ?_ ?_
          rotate_left
          ·rfl
          ·go_simp
           rfl
          refine hK.out _ _ ⟨(by (iterate 4 (refine (cell_far (p := ⟨gb113, _, none⟩) NB101_113.out _).trans ?_)); exact hHeld.1), (by (iterate 4 (refine (cell_far (p := ⟨gb113, _, none⟩) NB101_113.out _).trans ?_)); exact hHeld.2.1), (by (iterate 4 (refine (cell_far (p := ⟨gb113, _, none⟩) NB101_113.out _).trans ?_)); exact hHeld.2.2.1), (by (iterate 4 (refine (cell_far (p := ⟨gb113, _, none⟩) NB101_113.out _).trans ?_)); exact hHeld.2.2.2.1), (by (iterate 4 (refine (cell_far (p := ⟨gb113, _, none⟩) NB101_113.out _).trans ?_)); exact hHeld.2.2.2.2.1), (by (iterate 4 (refine (cell_far (p := ⟨gb113, _, none⟩) NB101_113.out _).trans ?_)); exact hHeld.2.2.2.2.2.1), (by (iterate 4 (refine (cell_far (p := ⟨gb113, _, none⟩) NB101_113.out _).trans ?_)); exact hHeld.2.2.2.2.2.2.1), (by (iterate 4 (refine (cell_far (p := ⟨gb113, _, none⟩) NB101_113.out _).trans ?_)); exact hHeld.2.2.2.2.2.2.2.1), (by (iterate 4 (refine (cell_far (p := ⟨gb113, _, none⟩) NB101_113.out _).trans ?_)); exact hHeld.2.2.2.2.2.2.2.2.1), (by (iterate 4 (refine (cell_far (p := ⟨gb113, _, none⟩) NB101_113.out _).trans ?_)); exact hHeld.2.2.2.2.2.2.2.2.2.1), (by (iterate 4 (refine (cell_far (p := ⟨gb113, _, none⟩) NB101_113.out _).trans ?_)); exact hHeld.2.2.2.2.2.2.2.2.2.2)⟩ (fun hHeld => ?_)
          clear hK K
          refine done_ (done_of HT_.out (by kernel_rfl)) ?_
          have hnb38 := NB113_101.out
          have hnc38 := NB101_113.out
          obtain ⟨hcz39_0, hcz39_1, hcz39_2, hcz39_3, hcz39_4, hcz39_5, hcz39_6, hcz39_7, hcz39_8⟩ := bcs9 BK113.out
          obtain ⟨hfz39_0, hfz39_1, hfz39_2, hfz39_3, hfz39_4, hfz39_5, hfz39_6, hfz39_7, hfz39_8⟩ := bfs9 BK113.out
          try go_wp2_with (first | ((with_reducible refine gate_builtin (b := .append) (xs := #[.tmp 47, .tmp 49]) rfl ?_); at_builtin; refine Kd.R_append k44 (w0 := w) w.heap.size rfl (.tmp 47) (.tmp 49) 42 44 (.agg #[(.int .i64 0), (.int .i64 0), (.int .i64 0), (.int .i64 0), (.int .i64 0), (.int .i64 0), (.int .i64 0), (.int .i64 0), (.string ⟨#[]⟩)]) 80 rfl Try.underlying42 info44 rfl (by decide) (by omega) u7 x7_1 (⟨(⟨a1_1, a1_2, a1_3, a1_4⟩ : S26), (⟨a1_6, a1_7, a1_8, a1_9⟩ : S26), (rd_T44 l0 x8_1).f2⟩ : S44) [.int .i64 a1_1, .int .i64 a1_2, .int .i64 a1_3, .int .i64 a1_4, .int .i64 a1_6, .int .i64 a1_7, .int .i64 a1_8, .int .i64 a1_9, .string ((rd_T44 l0 x8_1).f2)] (fun k_ => k_ ≠ gb113) (fun _ => False) rfl (by first | (go_simp; done) | (go_simp; rfl)) ?aP (fun _ hk => hk.elim) ?aF ?aO ?aB ?aS ?aL ?_; (case aP => exact k44_mkM _ _ _ (⟨(⟨a1_1, a1_2, a1_3, a1_4⟩ : S26), (⟨a1_6, a1_7, a1_8, a1_9⟩ : S26), (rd_T44 l0 x8_1).f2⟩ : S44)); (case aB => exact (bl_ HB.out)); (case aF => exact (fun k_ hk => Kd.freshB (g := gb113) (o := .cells #[.int .i64 a1_1, .int .i64 a1_2, .int .i64 a1_3, .int .i64 a1_4, .int .i64 a1_6, .int .i64 a1_7, .int .i64 a1_8, .int .i64 a1_9, .string ((rd_T44 l0 x8_1).f2)] 44 (0, 0)) (by (with_reducible repeat (first | refine blk_drewN ?_ _ | refine blk_drew ?_ | refine blk_alloc ?_ _)); refine blk_put (cs := #[.int .i64 a1_1, .int .i64 a1_2, .int .i64 a1_3, .int .i64 a1_4, .int .i64 a1_6, .int .i64 a1_7, .int .i64 a1_8, .int .i64 t111, .string ((rd_T44 l0 x8_1).f2)]) ?_ 7 _ rfl; (with_reducible repeat (first | refine blk_drewN ?_ _ | refine blk_drew ?_ | refine blk_alloc ?_ _)); refine blk_put (cs := #[.int .i64 a1_1, .int .i64 a1_2, .int .i64 a1_3, .int .i64 a1_4, .int .i64 a1_6, .int .i64 a1_7, .int .i64 t110, .int .i64 t111, .string ((rd_T44 l0 x8_1).f2)]) ?_ 6 _ rfl; (with_reducible repeat (first | refine blk_drewN ?_ _ | refine blk_drew ?_ | refine blk_alloc ?_ _)); refine blk_put (cs := #[.int .i64 a1_1, .int .i64 a1_2, .int .i64 a1_3, .int .i64 a1_4, .int .i64 a1_6, .int .i64 t109, .int .i64 t110, .int .i64 t111, .string ((rd_T44 l0 x8_1).f2)]) ?_ 5 _ rfl; (with_reducible repeat (first | refine blk_drewN ?_ _ | refine blk_drew ?_ | refine blk_alloc ?_ _)); refine blk_put (cs := #[.int .i64 a1_1, .int .i64 a1_2, .int .i64 a1_3, .int .i64 a1_4, .int .i64 t108, .int .i64 t109, .int .i64 t110, .int .i64 t111, .string ((rd_T44 l0 x8_1).f2)]) ?_ 4 _ rfl; (with_reducible repeat (first | refine blk_drewN ?_ _ | refine blk_drew ?_ | refine blk_alloc ?_ _)); refine blk_put (cs := #[.int .i64 a1_1, .int .i64 a1_2, .int .i64 a1_3, .int .i64 t106, .int .i64 t108, .int .i64 t109, .int .i64 t110, .int .i64 t111, .string ((rd_T44 l0 x8_1).f2)]) ?_ 3 _ rfl; (with_reducible repeat (first | refine blk_drewN ?_ _ | refine blk_drew ?_ | refine blk_alloc ?_ _)); refine blk_put (cs := #[.int .i64 a1_1, .int .i64 a1_2, .int .i64 t105, .int .i64 t106, .int .i64 t108, .int .i64 t109, .int .i64 t110, .int .i64 t111, .string ((rd_T44 l0 x8_1).f2)]) ?_ 2 _ rfl; (with_reducible repeat (first | refine blk_drewN ?_ _ | refine blk_drew ?_ | refine blk_alloc ?_ _)); refine blk_put (cs := #[.int .i64 a1_1, .int .i64 t104, .int .i64 t105, .int .i64 t106, .int .i64 t108, .int .i64 t109, .int .i64 t110, .int .i64 t111, .string ((rd_T44 l0 x8_1).f2)]) ?_ 1 _ rfl; (with_reducible repeat (first | refine blk_drewN ?_ _ | refine blk_drew ?_ | refine blk_alloc ?_ _)); refine blk_put (cs := #[.int .i64 t103, .int .i64 t104, .int .i64 t105, .int .i64 t106, .int .i64 t108, .int .i64 t109, .int .i64 t110, .int .i64 t111, .string ((rd_T44 l0 x8_1).f2)]) ?_ 0 _ rfl; (with_reducible repeat (first | refine blk_drewN ?_ _ | refine blk_drew ?_ | refine blk_alloc ?_ _)); exact BK113.out) k_ hk)); (case aO => exact (by (with_reducible repeat (first | apply Kd.R_alloc | apply Kd.R_drewN | apply Kd.R_drew)); exact Kd.R_mono (Kd.R_far (p := ⟨gb113, 7, none⟩) (Kd.R_far (p := ⟨gb113, 6, none⟩) (Kd.R_far (p := ⟨gb113, 5, none⟩) (Kd.R_far (p := ⟨gb113, 4, none⟩) (Kd.R_far (p := ⟨gb113, 3, none⟩) (Kd.R_far (p := ⟨gb113, 2, none⟩) (Kd.R_far (p := ⟨gb113, 1, none⟩) (Kd.R_far (p := ⟨gb113, 0, none⟩) (Kd.R_mono HO_7.out (fun k_ hk => (⟨hk, hk⟩ : _ ∧ k_ ≠ gb113))) (fun _ hk => hk.2) (.int .i64 a1_1)) (fun _ hk => hk.2) (.int .i64 a1_2)) (fun _ hk => hk.2) (.int .i64 a1_3)) (fun _ hk => hk.2) (.int .i64 a1_4)) (fun _ hk => hk.2) (.int .i64 a1_6)) (fun _ hk => hk.2) (.int .i64 a1_7)) (fun _ hk => hk.2) (.int .i64 a1_8)) (fun _ hk => hk.2) (.int .i64 a1_9)) (fun _ hk => hk.1))); (case aS => exact (below_size (bl_ HB.out))); (case aL => have := LMc13.out; omega); intro v115 w40 ho hb hg hat; rw [← Ny114.out] at ho; have n0_ := Aside0.mk (blk_grown (g := gb101) (o := .cells #[.string a1_0, .int .i64 a1_1, .int .i64 a1_2, .int .i64 a1_3, .int .i64 a1_4, .string a1_5, .int .i64 a1_6, .int .i64 a1_7, .int .i64 a1_8, .int .i64 a1_9, .string a1_10] 28 (0, 0)) (by (iterate 8 ((with_reducible repeat (first | refine blk_drewN ?_ _ | refine blk_drew ?_ | refine blk_alloc ?_ _)); refine blk_far ?_ NB101_113.out _)); (with_reducible repeat (first | refine blk_drewN ?_ _ | refine blk_drew ?_ | refine blk_alloc ?_ _)); exact BK101.out) hg (Kd.R_ne HO_7.out BK101.out (by decide))); have n1_ := Aside0.mk (blk_grown (g := gb113) (o := .cells #[.int .i64 a1_1, .int .i64 a1_2, .int .i64 a1_3, .int .i64 a1_4, .int .i64 a1_6, .int .i64 a1_7, .int .i64 a1_8, .int .i64 a1_9, .string ((rd_T44 l0 x8_1).f2)] 44 (0, 0)) (by (with_reducible repeat (first | refine blk_drewN ?_ _ | refine blk_drew ?_ | refine blk_alloc ?_ _)); refine blk_put (cs := #[.int .i64 a1_1, .int .i64 a1_2, .int .i64 a1_3, .int .i64 a1_4, .int .i64 a1_6, .int .i64 a1_7, .int .i64 a1_8, .int .i64 t111, .string ((rd_T44 l0 x8_1).f2)]) ?_ 7 _ rfl; (with_reducible repeat (first | refine blk_drewN ?_ _ | refine blk_drew ?_ | refine blk_alloc ?_ _)); refine blk_put (cs := #[.int .i64 a1_1, .int .i64 a1_2, .int .i64 a1_3, .int .i64 a1_4, .int .i64 a1_6, .int .i64 a1_7, .int .i64 t110, .int .i64 t111, .string ((rd_T44 l0 x8_1).f2)]) ?_ 6 _ rfl; (with_reducible repeat (first | refine blk_drewN ?_ _ | refine blk_drew ?_ | refine blk_alloc ?_ _)); refine blk_put (cs := #[.int .i64 a1_1, .int .i64 a1_2, .int .i64 a1_3, .int .i64 a1_4, .int .i64 a1_6, .int .i64 t109, .int .i64 t110, .int .i64 t111, .string ((rd_T44 l0 x8_1).f2)]) ?_ 5 _ rfl; (with_reducible repeat (first | refine blk_drewN ?_ _ | refine blk_drew ?_ | refine blk_alloc ?_ _)); refine blk_put (cs := #[.int .i64 a1_1, .int .i64 a1_2, .int .i64 a1_3, .int .i64 a1_4, .int .i64 t108, .int .i64 t109, .int .i64 t110, .int .i64 t111, .string ((rd_T44 l0 x8_1).f2)]) ?_ 4 _ rfl; (with_reducible repeat (first | refine blk_drewN ?_ _ | refine blk_drew ?_ | refine blk_alloc ?_ _)); refine blk_put (cs := #[.int .i64 a1_1, .int .i64 a1_2, .int .i64 a1_3, .int .i64 t106, .int .i64 t108, .int .i64 t109, .int .i64 t110, .int .i64 t111, .string ((rd_T44 l0 x8_1).f2)]) ?_ 3 _ rfl; (with_reducible repeat (first | refine blk_drewN ?_ _ | refine blk_drew ?_ | refine blk_alloc ?_ _)); refine blk_put (cs := #[.int .i64 a1_1, .int .i64 a1_2, .int .i64 t105, .int .i64 t106, .int .i64 t108, .int .i64 t109, .int .i64 t110, .int .i64 t111, .string ((rd_T44 l0 x8_1).f2)]) ?_ 2 _ rfl; (with_reducible repeat (first | refine blk_drewN ?_ _ | refine blk_drew ?_ | refine blk_alloc ?_ _)); refine blk_put (cs := #[.int .i64 a1_1, .int .i64 t104, .int .i64 t105, .int .i64 t106, .int .i64 t108, .int .i64 t109, .int .i64 t110, .int .i64 t111, .string ((rd_T44 l0 x8_1).f2)]) ?_ 1 _ rfl; (with_reducible repeat (first | refine blk_drewN ?_ _ | refine blk_drew ?_ | refine blk_alloc ?_ _)); refine blk_put (cs := #[.int .i64 t103, .int .i64 t104, .int .i64 t105, .int .i64 t106, .int .i64 t108, .int .i64 t109, .int .i64 t110, .int .i64 t111, .string ((rd_T44 l0 x8_1).f2)]) ?_ 0 _ rfl; (with_reducible repeat (first | refine blk_drewN ?_ _ | refine blk_drew ?_ | refine blk_alloc ?_ _)); exact BK113.out) hg (Kd.R_away HO_7.out (fun _ hk => hk))); have n2_ := Aside0.mk (hb); have n3_ := Aside0.mk (ho); clear BK101 BK113 HB HO_7; have BK101 := n0_; have BK113 := n1_; have HB := n2_; have HO116 := n3_; clear n0_ n1_ n2_ n3_; clear ho hb hg hat))
          go_roundg kj4
          case measure => have := HK1.out; have := HJ4.out; omega
          case rel => exact ⟨(y114), (wrap64 (x8_1 + 1)), (by first | rfl | (simp; done) | (simp [*]; done)), H', ⟨by have := HK1.out; have := HJ4.out; omega⟩, ⟨by (with_reducible repeat (first | apply Kd.R_alloc | apply Kd.R_drewN | apply Kd.R_drew)); exact Kd.R_mono HO116.out (fun _ hk => trivial)⟩, ⟨by (with_reducible repeat (first | refine blk_drewN ?_ _ | refine blk_drew ?_ | refine blk_alloc ?_ _)); exact BK101.out⟩, ⟨by repeat (first | (with_reducible first | exact HB.out | apply below_alloc | apply pw_below_drewN | apply below_drew1 | refine below_set ?_ GE101.out | refine below_set ?_ GE113.out) | exact HB.out)⟩⟩
         ·rw [if_neg c13] at H
          exact absurd H (by simp)
        ·rw [if_neg c12] at H
         have c12b0 : (x8_1 == a2) = false := beq_eq_false_iff_ne.mpr c12
         have c12b1 : (x8_1 != a2) = true := bne_iff_ne.mpr c12
         by_cases c41 : x7_1.length < 1759218604441
         ·rw [if_pos c41] at H
          have LMc41 := Aside0.mk c41
          clear c41
          obtain ⟨y117, hy117⟩ : ∃ y_ : List (S44), y_ = (x7_1 ++ [(⟨(⟨t103, t104, t105, t106⟩ : S26), (⟨t108, t109, t110, t111⟩ : S26), (rd_T44 l0 x8_1).f2⟩ : S44)]) := ⟨_, rfl⟩
          replace H : (donjonlaw18_rules.l0 kj4 l0 a2 y117 (wrap64 (x8_1 + 1)) a1_0 a1_1 a1_2 a1_3 a1_4 a1_5 a1_6 a1_7 a1_8 a1_9 a1_10) = some r := by first | (rw [hy117]; with_reducible exact H) | (have H2_ := (Option.bind_some _ _).symm.trans H; rw [hy117]; with_reducible exact H2_) | (have H2_ := (Option.bind_some _ _).symm.trans H; with_reducible exact H2_) | with_reducible exact H | (rw [hy117]; exact H) | exact H
          have Ny117 := Aside0.mk hy117
          clear hy117
          have H' := Aside0.mk H
          clear H
          try go_wp2
          have n0_ := Aside0.mk (Kd.R_drew HO_7.out)
          have n1_ := Aside0.mk (blk_drew BK101.out)
          have n2_ := Aside0.mk (below_drew1 HB.out)
          clear HO_7 BK101 HB
          have HO_7 := n0_; have BK101 := n1_; have HB := n2_
          clear n0_ n1_ n2_
          have p102 : 0 ≤ (x8_1 : Int) := of_decide_eq_true (by first | (with_reducible assumption) | assumption)
          have q102 : x8_1 < (l0.length : Int) := of_decide_eq_true (by first | (with_reducible assumption) | assumption)
          obtain ⟨ad102, e102, hx102_0, hx102_1, hx102_2, hx102_3, hx102_4, hx102_5, hx102_6, hx102_7, hx102_8⟩ := at_T44 HR0.out x8_1 p102 q102
          have hw102_8 := hx102_8
          have hw102_7 := hx102_7
          have hw102_6 := hx102_6
          have hw102_5 := hx102_5
          have hw102_4 := hx102_4
          have hw102_3 := hx102_3
          have hw102_2 := hx102_2
          have hw102_1 := hx102_1
          have hw102_0 := hx102_0
          cases e102
          replace hx102_0 := bcell_ HB.out hx102_0
          replace hx102_1 := bcell_ HB.out hx102_1
          replace hx102_2 := bcell_ HB.out hx102_2
          replace hx102_3 := bcell_ HB.out hx102_3
          replace hx102_4 := bcell_ HB.out hx102_4
          replace hx102_5 := bcell_ HB.out hx102_5
          replace hx102_6 := bcell_ HB.out hx102_6
          replace hx102_7 := bcell_ HB.out hx102_7
          replace hx102_8 := bcell_ HB.out hx102_8
          replace p102 := eq_true p102
          replace q102 := eq_true q102
          have p107 : 0 ≤ (x8_1 : Int) := of_decide_eq_true (by first | (with_reducible assumption) | assumption)
          have q107 : x8_1 < (l0.length : Int) := of_decide_eq_true (by first | (with_reducible assumption) | assumption)
          obtain ⟨ad107, e107, hx107_0, hx107_1, hx107_2, hx107_3, hx107_4, hx107_5, hx107_6, hx107_7, hx107_8⟩ := at_T44 HR0.out x8_1 p107 q107
          have hw107_8 := hx107_8
          have hw107_7 := hx107_7
          have hw107_6 := hx107_6
          have hw107_5 := hx107_5
          have hw107_4 := hx107_4
          have hw107_3 := hx107_3
          have hw107_2 := hx107_2
          have hw107_1 := hx107_1
          have hw107_0 := hx107_0
          obtain rfl : ad102 = ad107 := (by injection e107)
          replace hx107_0 := bcell_ HB.out hx107_0
          replace hx107_1 := bcell_ HB.out hx107_1
          replace hx107_2 := bcell_ HB.out hx107_2
          replace hx107_3 := bcell_ HB.out hx107_3
          replace hx107_4 := bcell_ HB.out hx107_4
          replace hx107_5 := bcell_ HB.out hx107_5
          replace hx107_6 := bcell_ HB.out hx107_6
          replace hx107_7 := bcell_ HB.out hx107_7
          replace hx107_8 := bcell_ HB.out hx107_8
          replace p107 := eq_true p107
          replace q107 := eq_true q107
          have p112 : 0 ≤ (x8_1 : Int) := of_decide_eq_true (by first | (with_reducible assumption) | assumption)
          have q112 : x8_1 < (l0.length : Int) := of_decide_eq_true (by first | (with_reducible assumption) | assumption)
          obtain ⟨ad112, e112, hx112_0, hx112_1, hx112_2, hx112_3, hx112_4, hx112_5, hx112_6, hx112_7, hx112_8⟩ := at_T44 HR0.out x8_1 p112 q112
          have hw112_8 := hx112_8
          have hw112_7 := hx112_7
          have hw112_6 := hx112_6
          have hw112_5 := hx112_5
          have hw112_4 := hx112_4
          have hw112_3 := hx112_3
          have hw112_2 := hx112_2
          have hw112_1 := hx112_1
          have hw112_0 := hx112_0
          obtain rfl : ad102 = ad112 := (by injection e112)
          replace hx112_0 := bcell_ HB.out hx112_0
          replace hx112_1 := bcell_ HB.out hx112_1
          replace hx112_2 := bcell_ HB.out hx112_2
          replace hx112_3 := bcell_ HB.out hx112_3
          replace hx112_4 := bcell_ HB.out hx112_4
          replace hx112_5 := bcell_ HB.out hx112_5
          replace hx112_6 := bcell_ HB.out hx112_6
          replace hx112_7 := bcell_ HB.out hx112_7
          replace hx112_8 := bcell_ HB.out hx112_8
          replace p112 := eq_true p112
          replace q112 := eq_true q112
          refine start_ (n := 20) (S := fun w' => w'.cell? (ad102.add ((x8_1).toNat * 9)) = some (.int .i64 ((rd_T44 l0 x8_1).f0.f0)) ∧ w'.cell? ⟨(ad102.add ((x8_1).toNat * 9)).block, (ad102.add ((x8_1).toNat * 9)).off + 1, none⟩ = some (.int .i64 ((rd_T44 l0 x8_1).f0.f1)) ∧ w'.cell? ⟨(ad102.add ((x8_1).toNat * 9)).block, (ad102.add ((x8_1).toNat * 9)).off + 2, none⟩ = some (.int .i64 ((rd_T44 l0 x8_1).f0.f2)) ∧ w'.cell? ⟨(ad102.add ((x8_1).toNat * 9)).block, (ad102.add ((x8_1).toNat * 9)).off + 3, none⟩ = some (.int .i64 ((rd_T44 l0 x8_1).f0.f3)) ∧ w'.cell? ⟨(ad102.add ((x8_1).toNat * 9)).block, (ad102.add ((x8_1).toNat * 9)).off + 4, none⟩ = some (.int .i64 ((rd_T44 l0 x8_1).f1.f0)) ∧ w'.cell? ⟨(ad102.add ((x8_1).toNat * 9)).block, (ad102.add ((x8_1).toNat * 9)).off + 5, none⟩ = some (.int .i64 ((rd_T44 l0 x8_1).f1.f1)) ∧ w'.cell? ⟨(ad102.add ((x8_1).toNat * 9)).block, (ad102.add ((x8_1).toNat * 9)).off + 6, none⟩ = some (.int .i64 ((rd_T44 l0 x8_1).f1.f2)) ∧ w'.cell? ⟨(ad102.add ((x8_1).toNat * 9)).block, (ad102.add ((x8_1).toNat * 9)).off + 7, none⟩ = some (.int .i64 ((rd_T44 l0 x8_1).f1.f3)) ∧ w'.cell? ⟨(ad102.add ((x8_1).toNat * 9)).block, (ad102.add ((x8_1).toNat * 9)).off + 8, none⟩ = some (.string ((rd_T44 l0 x8_1).f2)) ∧ w'.cell? (ad102.add ((x8_1).toNat * 9)) = some (.int .i64 ((rd_T44 l0 x8_1).f0.f0)) ∧ w'.cell? ⟨(ad102.add ((x8_1).toNat * 9)).block, (ad102.add ((x8_1).toNat * 9)).off + 1, none⟩ = some (.int .i64 ((rd_T44 l0 x8_1).f0.f1)) ∧ w'.cell? ⟨(ad102.add ((x8_1).toNat * 9)).block, (ad102.add ((x8_1).toNat * 9)).off + 2, none⟩ = some (.int .i64 ((rd_T44 l0 x8_1).f0.f2)) ∧ w'.cell? ⟨(ad102.add ((x8_1).toNat * 9)).block, (ad102.add ((x8_1).toNat * 9)).off + 3, none⟩ = some (.int .i64 ((rd_T44 l0 x8_1).f0.f3)) ∧ w'.cell? ⟨(ad102.add ((x8_1).toNat * 9)).block, (ad102.add ((x8_1).toNat * 9)).off + 4, none⟩ = some (.int .i64 ((rd_T44 l0 x8_1).f1.f0)) ∧ w'.cell? ⟨(ad102.add ((x8_1).toNat * 9)).block, (ad102.add ((x8_1).toNat * 9)).off + 5, none⟩ = some (.int .i64 ((rd_T44 l0 x8_1).f1.f1)) ∧ w'.cell? ⟨(ad102.add ((x8_1).toNat * 9)).block, (ad102.add ((x8_1).toNat * 9)).off + 6, none⟩ = some (.int .i64 ((rd_T44 l0 x8_1).f1.f2)) ∧ w'.cell? ⟨(ad102.add ((x8_1).toNat * 9)).block, (ad102.add ((x8_1).toNat * 9)).off + 7, none⟩ = some (.int .i64 ((rd_T44 l0 x8_1).f1.f3)) ∧ w'.cell? ⟨(ad102.add ((x8_1).toNat * 9)).block, (ad102.add ((x8_1).toNat * 9)).off + 8, none⟩ = some (.string ((rd_T44 l0 x8_1).f2)) ∧ w'.cell? (ad102.add ((x8_1).toNat * 9)) = some (.int .i64 ((rd_T44 l0 x8_1).f0.f0)) ∧ w'.cell? ⟨(ad102.add ((x8_1).toNat * 9)).block, (ad102.add ((x8_1).toNat * 9)).off + 1, none⟩ = some (.int .i64 ((rd_T44 l0 x8_1).f0.f1)) ∧ w'.cell? ⟨(ad102.add ((x8_1).toNat * 9)).block, (ad102.add ((x8_1).toNat * 9)).off + 2, none⟩ = some (.int .i64 ((rd_T44 l0 x8_1).f0.f2)) ∧ w'.cell? ⟨(ad102.add ((x8_1).toNat * 9)).block, (ad102.add ((x8_1).toNat * 9)).off + 3, none⟩ = some (.int .i64 ((rd_T44 l0 x8_1).f0.f3)) ∧ w'.cell? ⟨(ad102.add ((x8_1).toNat * 9)).block, (ad102.add ((x8_1).toNat * 9)).off + 4, none⟩ = some (.int .i64 ((rd_T44 l0 x8_1).f1.f0)) ∧ w'.cell? ⟨(ad102.add ((x8_1).toNat * 9)).block, (ad102.add ((x8_1).toNat * 9)).off + 5, none⟩ = some (.int .i64 ((rd_T44 l0 x8_1).f1.f1)) ∧ w'.cell? ⟨(ad102.add ((x8_1).toNat * 9)).block, (ad102.add ((x8_1).toNat * 9)).off + 6, none⟩ = some (.int .i64 ((rd_T44 l0 x8_1).f1.f2)) ∧ w'.cell? ⟨(ad102.add ((x8_1).toNat * 9)).block, (ad102.add ((x8_1).toNat * 9)).off + 7, none⟩ = some (.int .i64 ((rd_T44 l0 x8_1).f1.f3)) ∧ w'.cell? ⟨(ad102.add ((x8_1).toNat * 9)).block, (ad102.add ((x8_1).toNat * 9)).off + 8, none⟩ = some (.string ((rd_T44 l0 x8_1).f2))) (ds := []) #[false, false, false, false, false, false, false, false, false, false, false, false, false, false, false, false, false, false, false, false] (by kernel_rfl) rfl rfl ⟨(bcell_ HB.out hw102_0), (bcell_ HB.out hw102_1), (bcell_ HB.out hw102_2), (bcell_ HB.out hw102_3), (bcell_ HB.out hw102_4), (bcell_ HB.out hw102_5), (bcell_ HB.out hw102_6), (bcell_ HB.out hw102_7), (bcell_ HB.out hw102_8), (bcell_ HB.out hw107_0), (bcell_ HB.out hw107_1), (bcell_ HB.out hw107_2), (bcell_ HB.out hw107_3), (bcell_ HB.out hw107_4), (bcell_ HB.out hw107_5), (bcell_ HB.out hw107_6), (bcell_ HB.out hw107_7), (bcell_ HB.out hw107_8), (bcell_ HB.out hw112_0), (bcell_ HB.out hw112_1), (bcell_ HB.out hw112_2), (bcell_ HB.out hw112_3), (bcell_ HB.out hw112_4), (bcell_ HB.out hw112_5), (bcell_ HB.out hw112_6), (bcell_ HB.out hw112_7), (bcell_ HB.out hw112_8)⟩ (fun hHeld => ?_); refine with_tabW donjonlaw18_rules.tab5 donjonlaw18_rules.bits5 (fun HT_ HW_ => ?_)
          generalize wc.drew = w42 at HO_7 BK101 HB hx102_0 hx102_1 hx102_2 hx102_3 hx102_4 hx102_5 hx102_6 hx102_7 hx102_8 hx107_0 hx107_1 hx107_2 hx107_3 hx107_4 hx107_5 hx107_6 hx107_7 hx107_8 hx112_0 hx112_1 hx112_2 hx112_3 hx112_4 hx112_5 hx112_6 hx112_7 hx112_8 hHeld ⊢
          refine pure_ (i := 0) (N := some 20) (v := ?_) (a' := ?_) #[true, false, false, false, false, false, false, false, false, false, false, false, false, false, false, false, false, false, false, false] rfl rfl (any_of HT_.out (by kernel_rfl)) (fun _ _ _ h => h) (Or.inl ⟨by rfl, ?_⟩) ?_ ?_
          rotate_left
          ·intro w'
           go_simp
           with_reducible rfl
          rotate_left
          ·simp only [Act.put, xset_a, xset_z, xset_s, i64_w, i32_w]
           rfl
          refine pure_ (i := 1) (N := some 21) (v := ?_) (a' := ?_) #[true, true, false, false, false, false, false, false, false, false, false, false, false, false, false, false, false, false, false, false] rfl rfl (any_of HT_.out (by kernel_rfl)) (fun _ _ _ h => h) (Or.inl ⟨by rfl, ?_⟩) ?_ ?_
          rotate_left
          ·intro w'
           go_simp
           with_reducible rfl
          rotate_left
          ·simp only [Act.put, xset_a, xset_z, xset_s, i64_w, i32_w]
           rfl
          refine pure_ (i := 2) (N := some 22) (v := ?_) (a' := ?_) #[true, true, true, false, false, false, false, false, false, false, false, false, false, false, false, false, false, false, false, false] rfl rfl (any_of HT_.out (by kernel_rfl)) (fun _ _ _ h => h) (Or.inl ⟨by rfl, ?_⟩) ?_ ?_
          rotate_left
          ·intro w'
           go_simp
           with_reducible rfl
          rotate_left
          ·simp only [Act.put, xset_a, xset_z, xset_s, i64_w, i32_w]
           rfl
          refine pure_ (i := 3) (N := some 23) (v := ?_) (a' := ?_) #[true, true, true, true, false, false, false, false, false, false, false, false, false, false, false, false, false, false, false, false] rfl rfl (any_of HT_.out (by kernel_rfl)) (fun _ _ _ h => h) (Or.inl ⟨by rfl, ?_⟩) ?_ ?_
          rotate_left
          ·intro w'
           go_simp
           with_reducible rfl
          rotate_left
          ·simp only [Act.put, xset_a, xset_z, xset_s, i64_w, i32_w]
           rfl
          refine pure_ (i := 6) (N := some 26) (v := ?_) (a' := ?_) #[true, true, true, true, false, false, true, false, false, false, false, false, false, false, false, false, false, false, false, false] rfl rfl (any_of HT_.out (by kernel_rfl)) (fun _ _ _ h => h) (Or.inl ⟨by rfl, ?_⟩) ?_ ?_
          rotate_left
          ·intro w'
           go_simp
           with_reducible rfl
          rotate_left
          ·simp only [Act.put, xset_a, xset_z, xset_s, i64_w, i32_w]
           rfl
          refine pure_ (i := 7) (N := some 27) (v := ?_) (a' := ?_) #[true, true, true, true, false, false, true, true, false, false, false, false, false, false, false, false, false, false, false, false] rfl rfl (any_of HT_.out (by kernel_rfl)) (fun _ _ _ h => h) (Or.inl ⟨by rfl, ?_⟩) ?_ ?_
          rotate_left
          ·intro w'
           go_simp
           with_reducible rfl
          rotate_left
          ·simp only [Act.put, xset_a, xset_z, xset_s, i64_w, i32_w]
           rfl
          refine pure_ (i := 8) (N := some 28) (v := ?_) (a' := ?_) #[true, true, true, true, false, false, true, true, true, false, false, false, false, false, false, false, false, false, false, false] rfl rfl (any_of HT_.out (by kernel_rfl)) (fun _ _ _ h => h) (Or.inl ⟨by rfl, ?_⟩) ?_ ?_
          rotate_left
          ·intro w'
           go_simp
           with_reducible rfl
          rotate_left
          ·simp only [Act.put, xset_a, xset_z, xset_s, i64_w, i32_w]
           rfl
          refine pure_ (i := 9) (N := some 29) (v := ?_) (a' := ?_) #[true, true, true, true, false, false, true, true, true, true, false, false, false, false, false, false, false, false, false, false] rfl rfl (any_of HT_.out (by kernel_rfl)) (fun _ _ _ h => h) (Or.inl ⟨by rfl, ?_⟩) ?_ ?_
          rotate_left
          ·intro w'
           go_simp
           with_reducible rfl
          rotate_left
          ·simp only [Act.put, xset_a, xset_z, xset_s, i64_w, i32_w]
           rfl
          refine pure_ (i := 12) (N := some 32) (v := ?_) (a' := ?_) #[true, true, true, true, false, false, true, true, true, true, false, false, true, false, false, false, false, false, false, false] rfl rfl (any_of HT_.out (by kernel_rfl)) (fun _ _ _ h => h) (Or.inl ⟨by rfl, ?_⟩) ?_ ?_
          rotate_left
          ·intro w'
           go_simp
           with_reducible rfl
          rotate_left
          ·simp only [Act.put, xset_a, xset_z, xset_s, i64_w, i32_w]
           rfl
          refine pure_ (i := 13) (N := some 33) (v := ?_) (a' := ?_) #[true, true, true, true, false, false, true, true, true, true, false, false, true, true, false, false, false, false, false, false] rfl rfl (any_of HT_.out (by kernel_rfl)) (fun _ _ _ h => h) (Or.inl ⟨by rfl, ?_⟩) ?_ ?_
          rotate_left
          ·intro w'
           go_simp
           with_reducible rfl
          rotate_left
          ·simp only [Act.put, xset_a, xset_z, xset_s, i64_w, i32_w]
           rfl
          refine pure_ (i := 14) (N := some 34) (v := ?_) (a' := ?_) #[true, true, true, true, false, false, true, true, true, true, false, false, true, true, true, false, false, false, false, false] rfl rfl (any_of HT_.out (by kernel_rfl)) (fun _ _ _ h => h) (Or.inl ⟨by rfl, ?_⟩) ?_ ?_
          rotate_left
          ·intro w'
           go_simp
           with_reducible rfl
          rotate_left
          ·simp only [Act.put, xset_a, xset_z, xset_s, i64_w, i32_w]
           rfl
          refine pure_ (i := 15) (N := some 35) (v := ?_) (a' := ?_) #[true, true, true, true, false, false, true, true, true, true, false, false, true, true, true, true, false, false, false, false] rfl rfl (any_of HT_.out (by kernel_rfl)) (fun _ _ _ h => h) (Or.inl ⟨by rfl, ?_⟩) ?_ ?_
          rotate_left
          ·intro w'
           go_simp
           with_reducible rfl
          rotate_left
          ·simp only [Act.put, xset_a, xset_z, xset_s, i64_w, i32_w]
           rfl
          refine take_ (i := 4) (N := some 24) (v := ?_) (a' := ?_) #[true, true, true, true, true, false, true, true, true, true, false, false, true, true, true, true, false, false, false, false] rfl rfl (take_ofW HT_.out HW_.out (by kernel_rfl)) (fun _ _ _ h => h) (Or.inl ⟨by rfl, ?_⟩) hHeld ?_ ?_
          rotate_left
          ·rintro w' ⟨s0, s1, s2, s3, s4, s5, s6, s7, s8, s9, s10, s11, s12, s13, s14, s15, s16, s17, s18, s19, s20, s21, s22, s23, s24, s25, s26⟩
           go_simp
           with_reducible rfl
          rotate_left
          ·simp only [Act.put, xset_a, xset_z, xset_s, i64_w, i32_w]
           rfl
          refine take_ (i := 10) (N := some 30) (v := ?_) (a' := ?_) #[true, true, true, true, true, false, true, true, true, true, true, false, true, true, true, true, false, false, false, false] rfl rfl (take_ofW HT_.out HW_.out (by kernel_rfl)) (fun _ _ _ h => h) (Or.inl ⟨by rfl, ?_⟩) hHeld ?_ ?_
          rotate_left
          ·rintro w' ⟨s0, s1, s2, s3, s4, s5, s6, s7, s8, s9, s10, s11, s12, s13, s14, s15, s16, s17, s18, s19, s20, s21, s22, s23, s24, s25, s26⟩
           go_simp
           with_reducible rfl
          rotate_left
          ·simp only [Act.put, xset_a, xset_z, xset_s, i64_w, i32_w]
           rfl
          refine take_ (i := 16) (N := some 36) (v := ?_) (a' := ?_) #[true, true, true, true, true, false, true, true, true, true, true, false, true, true, true, true, true, false, false, false] rfl rfl (take_ofW HT_.out HW_.out (by kernel_rfl)) (fun _ _ _ h => h) (Or.inl ⟨by rfl, ?_⟩) hHeld ?_ ?_
          rotate_left
          ·rintro w' ⟨s0, s1, s2, s3, s4, s5, s6, s7, s8, s9, s10, s11, s12, s13, s14, s15, s16, s17, s18, s19, s20, s21, s22, s23, s24, s25, s26⟩
           go_simp
           with_reducible rfl
          rotate_left
          ·simp only [Act.put, xset_a, xset_z, xset_s, i64_w, i32_w]
           rfl
          refine join_ (σ := Nat) 1 #[true, true, true, true, true, true, true, true, true, true, true, true, true, true, true, true, true, true, true, false] (fun s_ => [(25, .agg #[.int .i64 t103, .int .i64 t104, .int .i64 t105, .int .i64 t106]), (31, .agg #[.int .i64 t108, .int .i64 t109, .int .i64 t110, .int .i64 t111]), (9, .pointer (some ⟨s_, 0, none⟩)), (37, .agg #[.int .i64 t103, .int .i64 t104, .int .i64 t105, .int .i64 t106, .int .i64 t108, .int .i64 t109, .int .i64 t110, .int .i64 t111, .string ((rd_T44 l0 x8_1).f2)])]) (fun s_ w' => (w'.cell? (ad102.add ((x8_1).toNat * 9)) = some (.int .i64 ((rd_T44 l0 x8_1).f0.f0)) ∧ w'.cell? ⟨(ad102.add ((x8_1).toNat * 9)).block, (ad102.add ((x8_1).toNat * 9)).off + 1, none⟩ = some (.int .i64 ((rd_T44 l0 x8_1).f0.f1)) ∧ w'.cell? ⟨(ad102.add ((x8_1).toNat * 9)).block, (ad102.add ((x8_1).toNat * 9)).off + 2, none⟩ = some (.int .i64 ((rd_T44 l0 x8_1).f0.f2)) ∧ w'.cell? ⟨(ad102.add ((x8_1).toNat * 9)).block, (ad102.add ((x8_1).toNat * 9)).off + 3, none⟩ = some (.int .i64 ((rd_T44 l0 x8_1).f0.f3)) ∧ w'.cell? ⟨(ad102.add ((x8_1).toNat * 9)).block, (ad102.add ((x8_1).toNat * 9)).off + 4, none⟩ = some (.int .i64 ((rd_T44 l0 x8_1).f1.f0)) ∧ w'.cell? ⟨(ad102.add ((x8_1).toNat * 9)).block, (ad102.add ((x8_1).toNat * 9)).off + 5, none⟩ = some (.int .i64 ((rd_T44 l0 x8_1).f1.f1)) ∧ w'.cell? ⟨(ad102.add ((x8_1).toNat * 9)).block, (ad102.add ((x8_1).toNat * 9)).off + 6, none⟩ = some (.int .i64 ((rd_T44 l0 x8_1).f1.f2)) ∧ w'.cell? ⟨(ad102.add ((x8_1).toNat * 9)).block, (ad102.add ((x8_1).toNat * 9)).off + 7, none⟩ = some (.int .i64 ((rd_T44 l0 x8_1).f1.f3)) ∧ w'.cell? ⟨(ad102.add ((x8_1).toNat * 9)).block, (ad102.add ((x8_1).toNat * 9)).off + 8, none⟩ = some (.string ((rd_T44 l0 x8_1).f2)) ∧ w'.cell? (ad102.add ((x8_1).toNat * 9)) = some (.int .i64 ((rd_T44 l0 x8_1).f0.f0)) ∧ w'.cell? ⟨(ad102.add ((x8_1).toNat * 9)).block, (ad102.add ((x8_1).toNat * 9)).off + 1, none⟩ = some (.int .i64 ((rd_T44 l0 x8_1).f0.f1)) ∧ w'.cell? ⟨(ad102.add ((x8_1).toNat * 9)).block, (ad102.add ((x8_1).toNat * 9)).off + 2, none⟩ = some (.int .i64 ((rd_T44 l0 x8_1).f0.f2)) ∧ w'.cell? ⟨(ad102.add ((x8_1).toNat * 9)).block, (ad102.add ((x8_1).toNat * 9)).off + 3, none⟩ = some (.int .i64 ((rd_T44 l0 x8_1).f0.f3)) ∧ w'.cell? ⟨(ad102.add ((x8_1).toNat * 9)).block, (ad102.add ((x8_1).toNat * 9)).off + 4, none⟩ = some (.int .i64 ((rd_T44 l0 x8_1).f1.f0)) ∧ w'.cell? ⟨(ad102.add ((x8_1).toNat * 9)).block, (ad102.add ((x8_1).toNat * 9)).off + 5, none⟩ = some (.int .i64 ((rd_T44 l0 x8_1).f1.f1)) ∧ w'.cell? ⟨(ad102.add ((x8_1).toNat * 9)).block, (ad102.add ((x8_1).toNat * 9)).off + 6, none⟩ = some (.int .i64 ((rd_T44 l0 x8_1).f1.f2)) ∧ w'.cell? ⟨(ad102.add ((x8_1).toNat * 9)).block, (ad102.add ((x8_1).toNat * 9)).off + 7, none⟩ = some (.int .i64 ((rd_T44 l0 x8_1).f1.f3)) ∧ w'.cell? ⟨(ad102.add ((x8_1).toNat * 9)).block, (ad102.add ((x8_1).toNat * 9)).off + 8, none⟩ = some (.string ((rd_T44 l0 x8_1).f2)) ∧ w'.cell? (ad102.add ((x8_1).toNat * 9)) = some (.int .i64 ((rd_T44 l0 x8_1).f0.f0)) ∧ w'.cell? ⟨(ad102.add ((x8_1).toNat * 9)).block, (ad102.add ((x8_1).toNat * 9)).off + 1, none⟩ = some (.int .i64 ((rd_T44 l0 x8_1).f0.f1)) ∧ w'.cell? ⟨(ad102.add ((x8_1).toNat * 9)).block, (ad102.add ((x8_1).toNat * 9)).off + 2, none⟩ = some (.int .i64 ((rd_T44 l0 x8_1).f0.f2)) ∧ w'.cell? ⟨(ad102.add ((x8_1).toNat * 9)).block, (ad102.add ((x8_1).toNat * 9)).off + 3, none⟩ = some (.int .i64 ((rd_T44 l0 x8_1).f0.f3)) ∧ w'.cell? ⟨(ad102.add ((x8_1).toNat * 9)).block, (ad102.add ((x8_1).toNat * 9)).off + 4, none⟩ = some (.int .i64 ((rd_T44 l0 x8_1).f1.f0)) ∧ w'.cell? ⟨(ad102.add ((x8_1).toNat * 9)).block, (ad102.add ((x8_1).toNat * 9)).off + 5, none⟩ = some (.int .i64 ((rd_T44 l0 x8_1).f1.f1)) ∧ w'.cell? ⟨(ad102.add ((x8_1).toNat * 9)).block, (ad102.add ((x8_1).toNat * 9)).off + 6, none⟩ = some (.int .i64 ((rd_T44 l0 x8_1).f1.f2)) ∧ w'.cell? ⟨(ad102.add ((x8_1).toNat * 9)).block, (ad102.add ((x8_1).toNat * 9)).off + 7, none⟩ = some (.int .i64 ((rd_T44 l0 x8_1).f1.f3)) ∧ w'.cell? ⟨(ad102.add ((x8_1).toNat * 9)).block, (ad102.add ((x8_1).toNat * 9)).off + 8, none⟩ = some (.string ((rd_T44 l0 x8_1).f2))) ∧ (Kd.R k44 44 w' w.heap.size (fun k_ => k_ ≠ s_) u7 x7_1) ∧ (w'.heap[gb101]? = some (.cells #[.string a1_0, .int .i64 a1_1, .int .i64 a1_2, .int .i64 a1_3, .int .i64 a1_4, .string a1_5, .int .i64 a1_6, .int .i64 a1_7, .int .i64 a1_8, .int .i64 a1_9, .string a1_10] 28 (0, 0))) ∧ (w'.heap[s_]? = some (.cells #[.int .i64 0, .int .i64 0, .int .i64 0, .int .i64 0, .int .i64 0, .int .i64 0, .int .i64 0, .int .i64 0, .string ⟨#[]⟩] 44 (0, 0))) ∧ (w.heap.size ≤ s_) ∧ (w.heap.size ≤ s_) ∧ (gb101 ≠ s_) ∧ (s_ ≠ gb101) ∧ (Below w.heap.size w w')) ?_ ?_
          rotate_left
          ·intro hCont
           refine two_ (i := 5) (j := 18) (Ni := some 25) (Nj := some 9) #[true, true, true, true, true, true, true, true, true, true, true, false, true, true, true, true, true, false, false, false] #[true, true, true, true, true, false, true, true, true, true, true, false, true, true, true, true, true, false, true, false] rfl rfl rfl rfl (two_of HT_.out (by kernel_rfl)) (by decide) (by decide) (fun K hK => ?_) (fun K hK => ?_)
           ·skip
            refine goes_ Try.func25 (by kernel_rfl) rfl #[.agg #[.int .i64 ((rd_T44 l0 x8_1).f0.f0), .int .i64 ((rd_T44 l0 x8_1).f0.f1), .int .i64 ((rd_T44 l0 x8_1).f0.f2), .int .i64 ((rd_T44 l0 x8_1).f0.f3)]] (by rfl) rfl rfl (by (try simp only [List.map_toArray, List.map_cons, List.map_nil]); first | done | rfl | (simp only [List.length_drop, List.length_take]; rfl)) ?_
            with_reducible refine (donjonlaw4_Good.calls ((rd_T44 l0 x8_1).f0.f0) ((rd_T44 l0 x8_1).f0.f1) ((rd_T44 l0 x8_1).f0.f2) ((rd_T44 l0 x8_1).f0.f3) t103 t104 t105 t106 _ A10.out).mono ?_
            rintro e w43 ⟨rfl, hb⟩
            refine ⟨_, rfl, ?_⟩
            have n0_ := Aside0.mk (Kd.R_below (kr_ HO_7.out) hb)
            have n1_ := Aside0.mk (blk_below (g := gb101) (o := .cells #[.string a1_0, .int .i64 a1_1, .int .i64 a1_2, .int .i64 a1_3, .int .i64 a1_4, .string a1_5, .int .i64 a1_6, .int .i64 a1_7, .int .i64 a1_8, .int .i64 a1_9, .string a1_10] 28 (0, 0)) (bk_ BK101.out) hb)
            have n2_ := Aside0.mk (below_step (bl_ HB.out) hb)
            clear HO_7 BK101 HB
            have HO_7 := n0_; have BK101 := n1_; have HB := n2_
            clear n0_ n1_ n2_
            (try clear hb)
            (try clear hb2)
            (try clear hk)
            (try clear hi)
            refine hK.out _ _ ⟨(bcell_ HB.out hw102_0), (bcell_ HB.out hw102_1), (bcell_ HB.out hw102_2), (bcell_ HB.out hw102_3), (bcell_ HB.out hw102_4), (bcell_ HB.out hw102_5), (bcell_ HB.out hw102_6), (bcell_ HB.out hw102_7), (bcell_ HB.out hw102_8), (bcell_ HB.out hw107_0), (bcell_ HB.out hw107_1), (bcell_ HB.out hw107_2), (bcell_ HB.out hw107_3), (bcell_ HB.out hw107_4), (bcell_ HB.out hw107_5), (bcell_ HB.out hw107_6), (bcell_ HB.out hw107_7), (bcell_ HB.out hw107_8), (bcell_ HB.out hw112_0), (bcell_ HB.out hw112_1), (bcell_ HB.out hw112_2), (bcell_ HB.out hw112_3), (bcell_ HB.out hw112_4), (bcell_ HB.out hw112_5), (bcell_ HB.out hw112_6), (bcell_ HB.out hw112_7), (bcell_ HB.out hw112_8)⟩ (fun hHeld => ?_)
            clear hK K
            refine norm_ (a' := ?_) ?_ ?_
            rotate_left
            ·show Act.put _ (some 25) _ = _
             simp only [Act.put, xset_a, xset_z, xset_s, i64_w, i32_w]
             rfl
            refine two_ (i := 11) (j := 18) (Ni := some 31) (Nj := some 9) #[true, true, true, true, true, true, true, true, true, true, true, true, true, true, true, true, true, false, false, false] #[true, true, true, true, true, true, true, true, true, true, true, false, true, true, true, true, true, false, true, false] rfl rfl rfl rfl (two_of HT_.out (by kernel_rfl)) (by decide) (by decide) (fun K hK => ?_) (fun K hK => ?_)
            ·skip
             refine goes_ Try.func25 (by kernel_rfl) rfl #[.agg #[.int .i64 ((rd_T44 l0 x8_1).f1.f0), .int .i64 ((rd_T44 l0 x8_1).f1.f1), .int .i64 ((rd_T44 l0 x8_1).f1.f2), .int .i64 ((rd_T44 l0 x8_1).f1.f3)]] (by rfl) rfl rfl (by (try simp only [List.map_toArray, List.map_cons, List.map_nil]); first | done | rfl | (simp only [List.length_drop, List.length_take]; rfl)) ?_
             with_reducible refine (donjonlaw4_Good.calls ((rd_T44 l0 x8_1).f1.f0) ((rd_T44 l0 x8_1).f1.f1) ((rd_T44 l0 x8_1).f1.f2) ((rd_T44 l0 x8_1).f1.f3) t108 t109 t110 t111 _ A11.out).mono ?_
             rintro e w44 ⟨rfl, hb⟩
             refine ⟨_, rfl, ?_⟩
             have n0_ := Aside0.mk (Kd.R_below (kr_ HO_7.out) hb)
             have n1_ := Aside0.mk (blk_below (g := gb101) (o := .cells #[.string a1_0, .int .i64 a1_1, .int .i64 a1_2, .int .i64 a1_3, .int .i64 a1_4, .string a1_5, .int .i64 a1_6, .int .i64 a1_7, .int .i64 a1_8, .int .i64 a1_9, .string a1_10] 28 (0, 0)) (bk_ BK101.out) hb)
             have n2_ := Aside0.mk (below_step (bl_ HB.out) hb)
             clear HO_7 BK101 HB
             have HO_7 := n0_; have BK101 := n1_; have HB := n2_
             clear n0_ n1_ n2_
             (try clear hb)
             (try clear hb2)
             (try clear hk)
             (try clear hi)
             refine hK.out _ _ ⟨(bcell_ HB.out hw102_0), (bcell_ HB.out hw102_1), (bcell_ HB.out hw102_2), (bcell_ HB.out hw102_3), (bcell_ HB.out hw102_4), (bcell_ HB.out hw102_5), (bcell_ HB.out hw102_6), (bcell_ HB.out hw102_7), (bcell_ HB.out hw102_8), (bcell_ HB.out hw107_0), (bcell_ HB.out hw107_1), (bcell_ HB.out hw107_2), (bcell_ HB.out hw107_3), (bcell_ HB.out hw107_4), (bcell_ HB.out hw107_5), (bcell_ HB.out hw107_6), (bcell_ HB.out hw107_7), (bcell_ HB.out hw107_8), (bcell_ HB.out hw112_0), (bcell_ HB.out hw112_1), (bcell_ HB.out hw112_2), (bcell_ HB.out hw112_3), (bcell_ HB.out hw112_4), (bcell_ HB.out hw112_5), (bcell_ HB.out hw112_6), (bcell_ HB.out hw112_7), (bcell_ HB.out hw112_8)⟩ (fun hHeld => ?_)
             clear hK K
             refine norm_ (a' := ?_) ?_ ?_
             rotate_left
             ·show Act.put _ (some 31) _ = _
              simp only [Act.put, xset_a, xset_z, xset_s, i64_w, i32_w]
              rfl
             refine pure_ (i := 17) (N := some 37) (v := ?_) (a' := ?_) #[true, true, true, true, true, true, true, true, true, true, true, true, true, true, true, true, true, true, false, false] rfl rfl (any_of HT_.out (by kernel_rfl)) (fun _ _ _ h => h) (Or.inl ⟨by rfl, ?_⟩) ?_ ?_
             rotate_left
             ·intro w'
              go_simp
              with_reducible rfl
             rotate_left
             ·simp only [Act.put, xset_a, xset_z, xset_s, i64_w, i32_w]
              rfl
             refine one_ (i := 18) (N := some 9) #[true, true, true, true, true, true, true, true, true, true, true, true, true, true, true, true, true, true, true, false] rfl rfl (one_of HT_.out (by kernel_rfl)) (by decide) (fun K hK => ?_)
             refine box_step ?hg (N := 9) ?hd (cs := #[.int .i64 0, .int .i64 0, .int .i64 0, .int .i64 0, .int .i64 0, .int .i64 0, .int .i64 0, .int .i64 0, .string ⟨#[]⟩]) (t := 44) ?hr ?_; (case hd => rfl); (case hg => rfl); (case hr => first | (go_simp; done) | (go_simp; rfl))
             intro gb113 hg w45 hbox hb
             have n0_ := Aside0.mk (Kd.R_below (Kd.R_elderB (kr_ HO_7.out) gb113 (Nat.le_of_eq hg.symm)) hb)
             have n1_ := Aside0.mk (blk_below (g := gb101) (o := .cells #[.string a1_0, .int .i64 a1_1, .int .i64 a1_2, .int .i64 a1_3, .int .i64 a1_4, .string a1_5, .int .i64 a1_6, .int .i64 a1_7, .int .i64 a1_8, .int .i64 a1_9, .string a1_10] 28 (0, 0)) (bk_ BK101.out) hb)
             have n2_ := Aside0.mk (below_step (bl_ HB.out) hb)
             have n3_ := Aside0.mk (hbox)
             have n4_ := Aside0.mk ((by rw [hg]; exact (below_size (bl_ HB.out)) : w.heap.size ≤ gb113))
             have n5_ := Aside0.mk ((by rw [hg]; exact (below_size (bl_ HB.out)) : w.heap.size ≤ gb113))
             have n6_ := Aside0.mk ((by rw [hg]; exact Nat.ne_of_lt (blk_lt (g := gb101) (o := .cells #[.string a1_0, .int .i64 a1_1, .int .i64 a1_2, .int .i64 a1_3, .int .i64 a1_4, .string a1_5, .int .i64 a1_6, .int .i64 a1_7, .int .i64 a1_8, .int .i64 a1_9, .string a1_10] 28 (0, 0)) (bk_ BK101.out)) : gb101 ≠ gb113))
             have n7_ := Aside0.mk ((by rw [hg]; exact Nat.ne_of_gt (blk_lt (g := gb101) (o := .cells #[.string a1_0, .int .i64 a1_1, .int .i64 a1_2, .int .i64 a1_3, .int .i64 a1_4, .string a1_5, .int .i64 a1_6, .int .i64 a1_7, .int .i64 a1_8, .int .i64 a1_9, .string a1_10] 28 (0, 0)) (bk_ BK101.out)) : gb113 ≠ gb101))
             clear HO_7 BK101 HB
             have HO_7 := n0_; have BK101 := n1_; have HB := n2_; have BK113 := n3_; have GW113 := n4_; have GE113 := n5_; have NB101_113 := n6_; have NB113_101 := n7_
             clear n0_ n1_ n2_ n3_ n4_ n5_ n6_ n7_
             clear hb hbox hg
             refine hK.out _ _ ⟨(bcell_ HB.out hw102_0), (bcell_ HB.out hw102_1), (bcell_ HB.out hw102_2), (bcell_ HB.out hw102_3), (bcell_ HB.out hw102_4), (bcell_ HB.out hw102_5), (bcell_ HB.out hw102_6), (bcell_ HB.out hw102_7), (bcell_ HB.out hw102_8), (bcell_ HB.out hw107_0), (bcell_ HB.out hw107_1), (bcell_ HB.out hw107_2), (bcell_ HB.out hw107_3), (bcell_ HB.out hw107_4), (bcell_ HB.out hw107_5), (bcell_ HB.out hw107_6), (bcell_ HB.out hw107_7), (bcell_ HB.out hw107_8), (bcell_ HB.out hw112_0), (bcell_ HB.out hw112_1), (bcell_ HB.out hw112_2), (bcell_ HB.out hw112_3), (bcell_ HB.out hw112_4), (bcell_ HB.out hw112_5), (bcell_ HB.out hw112_6), (bcell_ HB.out hw112_7), (bcell_ HB.out hw112_8)⟩ (fun hHeld => ?_)
             clear hK K
             refine norm_ (a' := ?_) ?_ ?_
             rotate_left
             ·show Act.put _ (some 9) _ = _
              simp only [Act.put, xset_a, xset_z, xset_s, i64_w, i32_w]
              rfl
             exact norm_ (by simp only [putAll, Act.put, xset_a, xset_z, xset_s]) (hCont (gb113) _ ⟨hHeld, (by (with_reducible repeat (first | apply Kd.R_alloc | apply Kd.R_drewN | apply Kd.R_drew)); exact Kd.R_mono HO_7.out (fun _ hk => hk.2)), (bk_ BK101.out), (bk_ BK113.out), GW113.out, GE113.out, NB101_113.out, NB113_101.out, (bl_ HB.out)⟩)
            ·skip
             refine box_step ?hg (N := 9) ?hd (cs := #[.int .i64 0, .int .i64 0, .int .i64 0, .int .i64 0, .int .i64 0, .int .i64 0, .int .i64 0, .int .i64 0, .string ⟨#[]⟩]) (t := 44) ?hr ?_; (case hd => rfl); (case hg => rfl); (case hr => first | (go_simp; done) | (go_simp; rfl))
             intro gb113 hg w44 hbox hb
             have n0_ := Aside0.mk (Kd.R_below (Kd.R_elderB (kr_ HO_7.out) gb113 (Nat.le_of_eq hg.symm)) hb)
             have n1_ := Aside0.mk (blk_below (g := gb101) (o := .cells #[.string a1_0, .int .i64 a1_1, .int .i64 a1_2, .int .i64 a1_3, .int .i64 a1_4, .string a1_5, .int .i64 a1_6, .int .i64 a1_7, .int .i64 a1_8, .int .i64 a1_9, .string a1_10] 28 (0, 0)) (bk_ BK101.out) hb)
             have n2_ := Aside0.mk (below_step (bl_ HB.out) hb)
             have n3_ := Aside0.mk (hbox)
             have n4_ := Aside0.mk ((by rw [hg]; exact (below_size (bl_ HB.out)) : w.heap.size ≤ gb113))
             have n5_ := Aside0.mk ((by rw [hg]; exact (below_size (bl_ HB.out)) : w.heap.size ≤ gb113))
             have n6_ := Aside0.mk ((by rw [hg]; exact Nat.ne_of_lt (blk_lt (g := gb101) (o := .cells #[.string a1_0, .int .i64 a1_1, .int .i64 a1_2, .int .i64 a1_3, .int .i64 a1_4, .string a1_5, .int .i64 a1_6, .int .i64 a1_7, .int .i64 a1_8, .int .i64 a1_9, .string a1_10] 28 (0, 0)) (bk_ BK101.out)) : gb101 ≠ gb113))
             have n7_ := Aside0.mk ((by rw [hg]; exact Nat.ne_of_gt (blk_lt (g := gb101) (o := .cells #[.string a1_0, .int .i64 a1_1, .int .i64 a1_2, .int .i64 a1_3, .int .i64 a1_4, .string a1_5, .int .i64 a1_6, .int .i64 a1_7, .int .i64 a1_8, .int .i64 a1_9, .string a1_10] 28 (0, 0)) (bk_ BK101.out)) : gb113 ≠ gb101))
             clear HO_7 BK101 HB
             have HO_7 := n0_; have BK101 := n1_; have HB := n2_; have BK113 := n3_; have GW113 := n4_; have GE113 := n5_; have NB101_113 := n6_; have NB113_101 := n7_
             clear n0_ n1_ n2_ n3_ n4_ n5_ n6_ n7_
             clear hb hbox hg
             refine hK.out _ _ ⟨(bcell_ HB.out hw102_0), (bcell_ HB.out hw102_1), (bcell_ HB.out hw102_2), (bcell_ HB.out hw102_3), (bcell_ HB.out hw102_4), (bcell_ HB.out hw102_5), (bcell_ HB.out hw102_6), (bcell_ HB.out hw102_7), (bcell_ HB.out hw102_8), (bcell_ HB.out hw107_0), (bcell_ HB.out hw107_1), (bcell_ HB.out hw107_2), (bcell_ HB.out hw107_3), (bcell_ HB.out hw107_4), (bcell_ HB.out hw107_5), (bcell_ HB.out hw107_6), (bcell_ HB.out hw107_7), (bcell_ HB.out hw107_8), (bcell_ HB.out hw112_0), (bcell_ HB.out hw112_1), (bcell_ HB.out hw112_2), (bcell_ HB.out hw112_3), (bcell_ HB.out hw112_4), (bcell_ HB.out hw112_5), (bcell_ HB.out hw112_6), (bcell_ HB.out hw112_7), (bcell_ HB.out hw112_8)⟩ (fun hHeld => ?_)
             clear hK K
             refine norm_ (a' := ?_) ?_ ?_
             rotate_left
             ·show Act.put _ (some 9) _ = _
              simp only [Act.put, xset_a, xset_z, xset_s, i64_w, i32_w]
              rfl
             refine one_ (i := 11) (N := some 31) #[true, true, true, true, true, true, true, true, true, true, true, true, true, true, true, true, true, false, true, false] rfl rfl (one_of HT_.out (by kernel_rfl)) (by decide) (fun K hK => ?_)
             refine goes_ Try.func25 (by kernel_rfl) rfl #[.agg #[.int .i64 ((rd_T44 l0 x8_1).f1.f0), .int .i64 ((rd_T44 l0 x8_1).f1.f1), .int .i64 ((rd_T44 l0 x8_1).f1.f2), .int .i64 ((rd_T44 l0 x8_1).f1.f3)]] (by rfl) rfl rfl (by (try simp only [List.map_toArray, List.map_cons, List.map_nil]); first | done | rfl | (simp only [List.length_drop, List.length_take]; rfl)) ?_
             with_reducible refine (donjonlaw4_Good.calls ((rd_T44 l0 x8_1).f1.f0) ((rd_T44 l0 x8_1).f1.f1) ((rd_T44 l0 x8_1).f1.f2) ((rd_T44 l0 x8_1).f1.f3) t108 t109 t110 t111 _ A11.out).mono ?_
             rintro e w45 ⟨rfl, hb⟩
             refine ⟨_, rfl, ?_⟩
             have n0_ := Aside0.mk (Kd.R_below (kr_ HO_7.out) hb)
             have n1_ := Aside0.mk (blk_below (g := gb101) (o := .cells #[.string a1_0, .int .i64 a1_1, .int .i64 a1_2, .int .i64 a1_3, .int .i64 a1_4, .string a1_5, .int .i64 a1_6, .int .i64 a1_7, .int .i64 a1_8, .int .i64 a1_9, .string a1_10] 28 (0, 0)) (bk_ BK101.out) hb)
             have n2_ := Aside0.mk (blk_below (g := gb113) (o := .cells #[.int .i64 0, .int .i64 0, .int .i64 0, .int .i64 0, .int .i64 0, .int .i64 0, .int .i64 0, .int .i64 0, .string ⟨#[]⟩] 44 (0, 0)) (bk_ BK113.out) hb)
             have n3_ := Aside0.mk (below_step (bl_ HB.out) hb)
             clear HO_7 BK101 BK113 HB
             have HO_7 := n0_; have BK101 := n1_; have BK113 := n2_; have HB := n3_
             clear n0_ n1_ n2_ n3_
             (try clear hb)
             (try clear hb2)
             (try clear hk)
             (try clear hi)
             refine hK.out _ _ ⟨(bcell_ HB.out hw102_0), (bcell_ HB.out hw102_1), (bcell_ HB.out hw102_2), (bcell_ HB.out hw102_3), (bcell_ HB.out hw102_4), (bcell_ HB.out hw102_5), (bcell_ HB.out hw102_6), (bcell_ HB.out hw102_7), (bcell_ HB.out hw102_8), (bcell_ HB.out hw107_0), (bcell_ HB.out hw107_1), (bcell_ HB.out hw107_2), (bcell_ HB.out hw107_3), (bcell_ HB.out hw107_4), (bcell_ HB.out hw107_5), (bcell_ HB.out hw107_6), (bcell_ HB.out hw107_7), (bcell_ HB.out hw107_8), (bcell_ HB.out hw112_0), (bcell_ HB.out hw112_1), (bcell_ HB.out hw112_2), (bcell_ HB.out hw112_3), (bcell_ HB.out hw112_4), (bcell_ HB.out hw112_5), (bcell_ HB.out hw112_6), (bcell_ HB.out hw112_7), (bcell_ HB.out hw112_8)⟩ (fun hHeld => ?_)
             clear hK K
             refine norm_ (a' := ?_) ?_ ?_
             rotate_left
             ·show Act.put _ (some 31) _ = _
              simp only [Act.put, xset_a, xset_z, xset_s, i64_w, i32_w]
              rfl
             refine pure_ (i := 17) (N := some 37) (v := ?_) (a' := ?_) #[true, true, true, true, true, true, true, true, true, true, true, true, true, true, true, true, true, true, true, false] rfl rfl (any_of HT_.out (by kernel_rfl)) (fun _ _ _ h => h) (Or.inl ⟨by rfl, ?_⟩) ?_ ?_
             rotate_left
             ·intro w'
              go_simp
              with_reducible rfl
             rotate_left
             ·simp only [Act.put, xset_a, xset_z, xset_s, i64_w, i32_w]
              rfl
             exact norm_ (by simp only [putAll, Act.put, xset_a, xset_z, xset_s]) (hCont (gb113) _ ⟨hHeld, (by (with_reducible repeat (first | apply Kd.R_alloc | apply Kd.R_drewN | apply Kd.R_drew)); exact Kd.R_mono HO_7.out (fun _ hk => hk.2)), (bk_ BK101.out), (bk_ BK113.out), GW113.out, GE113.out, NB101_113.out, NB113_101.out, (bl_ HB.out)⟩)
           ·skip
            refine box_step ?hg (N := 9) ?hd (cs := #[.int .i64 0, .int .i64 0, .int .i64 0, .int .i64 0, .int .i64 0, .int .i64 0, .int .i64 0, .int .i64 0, .string ⟨#[]⟩]) (t := 44) ?hr ?_; (case hd => rfl); (case hg => rfl); (case hr => first | (go_simp; done) | (go_simp; rfl))
            intro gb113 hg w43 hbox hb
            have n0_ := Aside0.mk (Kd.R_below (Kd.R_elderB (kr_ HO_7.out) gb113 (Nat.le_of_eq hg.symm)) hb)
            have n1_ := Aside0.mk (blk_below (g := gb101) (o := .cells #[.string a1_0, .int .i64 a1_1, .int .i64 a1_2, .int .i64 a1_3, .int .i64 a1_4, .string a1_5, .int .i64 a1_6, .int .i64 a1_7, .int .i64 a1_8, .int .i64 a1_9, .string a1_10] 28 (0, 0)) (bk_ BK101.out) hb)
            have n2_ := Aside0.mk (below_step (bl_ HB.out) hb)
            have n3_ := Aside0.mk (hbox)
            have n4_ := Aside0.mk ((by rw [hg]; exact (below_size (bl_ HB.out)) : w.heap.size ≤ gb113))
            have n5_ := Aside0.mk ((by rw [hg]; exact (below_size (bl_ HB.out)) : w.heap.size ≤ gb113))
            have n6_ := Aside0.mk ((by rw [hg]; exact Nat.ne_of_lt (blk_lt (g := gb101) (o := .cells #[.string a1_0, .int .i64 a1_1, .int .i64 a1_2, .int .i64 a1_3, .int .i64 a1_4, .string a1_5, .int .i64 a1_6, .int .i64 a1_7, .int .i64 a1_8, .int .i64 a1_9, .string a1_10] 28 (0, 0)) (bk_ BK101.out)) : gb101 ≠ gb113))
            have n7_ := Aside0.mk ((by rw [hg]; exact Nat.ne_of_gt (blk_lt (g := gb101) (o := .cells #[.string a1_0, .int .i64 a1_1, .int .i64 a1_2, .int .i64 a1_3, .int .i64 a1_4, .string a1_5, .int .i64 a1_6, .int .i64 a1_7, .int .i64 a1_8, .int .i64 a1_9, .string a1_10] 28 (0, 0)) (bk_ BK101.out)) : gb113 ≠ gb101))
            clear HO_7 BK101 HB
            have HO_7 := n0_; have BK101 := n1_; have HB := n2_; have BK113 := n3_; have GW113 := n4_; have GE113 := n5_; have NB101_113 := n6_; have NB113_101 := n7_
            clear n0_ n1_ n2_ n3_ n4_ n5_ n6_ n7_
            clear hb hbox hg
            refine hK.out _ _ ⟨(bcell_ HB.out hw102_0), (bcell_ HB.out hw102_1), (bcell_ HB.out hw102_2), (bcell_ HB.out hw102_3), (bcell_ HB.out hw102_4), (bcell_ HB.out hw102_5), (bcell_ HB.out hw102_6), (bcell_ HB.out hw102_7), (bcell_ HB.out hw102_8), (bcell_ HB.out hw107_0), (bcell_ HB.out hw107_1), (bcell_ HB.out hw107_2), (bcell_ HB.out hw107_3), (bcell_ HB.out hw107_4), (bcell_ HB.out hw107_5), (bcell_ HB.out hw107_6), (bcell_ HB.out hw107_7), (bcell_ HB.out hw107_8), (bcell_ HB.out hw112_0), (bcell_ HB.out hw112_1), (bcell_ HB.out hw112_2), (bcell_ HB.out hw112_3), (bcell_ HB.out hw112_4), (bcell_ HB.out hw112_5), (bcell_ HB.out hw112_6), (bcell_ HB.out hw112_7), (bcell_ HB.out hw112_8)⟩ (fun hHeld => ?_)
            clear hK K
            refine norm_ (a' := ?_) ?_ ?_
            rotate_left
            ·show Act.put _ (some 9) _ = _
             simp only [Act.put, xset_a, xset_z, xset_s, i64_w, i32_w]
             rfl
            refine one_ (i := 5) (N := some 25) #[true, true, true, true, true, true, true, true, true, true, true, false, true, true, true, true, true, false, true, false] rfl rfl (one_of HT_.out (by kernel_rfl)) (by decide) (fun K hK => ?_)
            refine goes_ Try.func25 (by kernel_rfl) rfl #[.agg #[.int .i64 ((rd_T44 l0 x8_1).f0.f0), .int .i64 ((rd_T44 l0 x8_1).f0.f1), .int .i64 ((rd_T44 l0 x8_1).f0.f2), .int .i64 ((rd_T44 l0 x8_1).f0.f3)]] (by rfl) rfl rfl (by (try simp only [List.map_toArray, List.map_cons, List.map_nil]); first | done | rfl | (simp only [List.length_drop, List.length_take]; rfl)) ?_
            with_reducible refine (donjonlaw4_Good.calls ((rd_T44 l0 x8_1).f0.f0) ((rd_T44 l0 x8_1).f0.f1) ((rd_T44 l0 x8_1).f0.f2) ((rd_T44 l0 x8_1).f0.f3) t103 t104 t105 t106 _ A10.out).mono ?_
            rintro e w44 ⟨rfl, hb⟩
            refine ⟨_, rfl, ?_⟩
            have n0_ := Aside0.mk (Kd.R_below (kr_ HO_7.out) hb)
            have n1_ := Aside0.mk (blk_below (g := gb101) (o := .cells #[.string a1_0, .int .i64 a1_1, .int .i64 a1_2, .int .i64 a1_3, .int .i64 a1_4, .string a1_5, .int .i64 a1_6, .int .i64 a1_7, .int .i64 a1_8, .int .i64 a1_9, .string a1_10] 28 (0, 0)) (bk_ BK101.out) hb)
            have n2_ := Aside0.mk (blk_below (g := gb113) (o := .cells #[.int .i64 0, .int .i64 0, .int .i64 0, .int .i64 0, .int .i64 0, .int .i64 0, .int .i64 0, .int .i64 0, .string ⟨#[]⟩] 44 (0, 0)) (bk_ BK113.out) hb)
            have n3_ := Aside0.mk (below_step (bl_ HB.out) hb)
            clear HO_7 BK101 BK113 HB
            have HO_7 := n0_; have BK101 := n1_; have BK113 := n2_; have HB := n3_
            clear n0_ n1_ n2_ n3_
            (try clear hb)
            (try clear hb2)
            (try clear hk)
            (try clear hi)
            refine hK.out _ _ ⟨(bcell_ HB.out hw102_0), (bcell_ HB.out hw102_1), (bcell_ HB.out hw102_2), (bcell_ HB.out hw102_3), (bcell_ HB.out hw102_4), (bcell_ HB.out hw102_5), (bcell_ HB.out hw102_6), (bcell_ HB.out hw102_7), (bcell_ HB.out hw102_8), (bcell_ HB.out hw107_0), (bcell_ HB.out hw107_1), (bcell_ HB.out hw107_2), (bcell_ HB.out hw107_3), (bcell_ HB.out hw107_4), (bcell_ HB.out hw107_5), (bcell_ HB.out hw107_6), (bcell_ HB.out hw107_7), (bcell_ HB.out hw107_8), (bcell_ HB.out hw112_0), (bcell_ HB.out hw112_1), (bcell_ HB.out hw112_2), (bcell_ HB.out hw112_3), (bcell_ HB.out hw112_4), (bcell_ HB.out hw112_5), (bcell_ HB.out hw112_6), (bcell_ HB.out hw112_7), (bcell_ HB.out hw112_8)⟩ (fun hHeld => ?_)
            clear hK K
            refine norm_ (a' := ?_) ?_ ?_
            rotate_left
            ·show Act.put _ (some 25) _ = _
             simp only [Act.put, xset_a, xset_z, xset_s, i64_w, i32_w]
             rfl
            refine one_ (i := 11) (N := some 31) #[true, true, true, true, true, true, true, true, true, true, true, true, true, true, true, true, true, false, true, false] rfl rfl (one_of HT_.out (by kernel_rfl)) (by decide) (fun K hK => ?_)
            refine goes_ Try.func25 (by kernel_rfl) rfl #[.agg #[.int .i64 ((rd_T44 l0 x8_1).f1.f0), .int .i64 ((rd_T44 l0 x8_1).f1.f1), .int .i64 ((rd_T44 l0 x8_1).f1.f2), .int .i64 ((rd_T44 l0 x8_1).f1.f3)]] (by rfl) rfl rfl (by (try simp only [List.map_toArray, List.map_cons, List.map_nil]); first | done | rfl | (simp only [List.length_drop, List.length_take]; rfl)) ?_
            with_reducible refine (donjonlaw4_Good.calls ((rd_T44 l0 x8_1).f1.f0) ((rd_T44 l0 x8_1).f1.f1) ((rd_T44 l0 x8_1).f1.f2) ((rd_T44 l0 x8_1).f1.f3) t108 t109 t110 t111 _ A11.out).mono ?_
            rintro e w45 ⟨rfl, hb⟩
            refine ⟨_, rfl, ?_⟩
            have n0_ := Aside0.mk (Kd.R_below (kr_ HO_7.out) hb)
            have n1_ := Aside0.mk (blk_below (g := gb101) (o := .cells #[.string a1_0, .int .i64 a1_1, .int .i64 a1_2, .int .i64 a1_3, .int .i64 a1_4, .string a1_5, .int .i64 a1_6, .int .i64 a1_7, .int .i64 a1_8, .int .i64 a1_9, .string a1_10] 28 (0, 0)) (bk_ BK101.out) hb)
            have n2_ := Aside0.mk (blk_below (g := gb113) (o := .cells #[.int .i64 0, .int .i64 0, .int .i64 0, .int .i64 0, .int .i64 0, .int .i64 0, .int .i64 0, .int .i64 0, .string ⟨#[]⟩] 44 (0, 0)) (bk_ BK113.out) hb)
            have n3_ := Aside0.mk (below_step (bl_ HB.out) hb)
            clear HO_7 BK101 BK113 HB
            have HO_7 := n0_; have BK101 := n1_; have BK113 := n2_; have HB := n3_
            clear n0_ n1_ n2_ n3_
            (try clear hb)
            (try clear hb2)
            (try clear hk)
            (try clear hi)
            refine hK.out _ _ ⟨(bcell_ HB.out hw102_0), (bcell_ HB.out hw102_1), (bcell_ HB.out hw102_2), (bcell_ HB.out hw102_3), (bcell_ HB.out hw102_4), (bcell_ HB.out hw102_5), (bcell_ HB.out hw102_6), (bcell_ HB.out hw102_7), (bcell_ HB.out hw102_8), (bcell_ HB.out hw107_0), (bcell_ HB.out hw107_1), (bcell_ HB.out hw107_2), (bcell_ HB.out hw107_3), (bcell_ HB.out hw107_4), (bcell_ HB.out hw107_5), (bcell_ HB.out hw107_6), (bcell_ HB.out hw107_7), (bcell_ HB.out hw107_8), (bcell_ HB.out hw112_0), (bcell_ HB.out hw112_1), (bcell_ HB.out hw112_2), (bcell_ HB.out hw112_3), (bcell_ HB.out hw112_4), (bcell_ HB.out hw112_5), (bcell_ HB.out hw112_6), (bcell_ HB.out hw112_7), (bcell_ HB.out hw112_8)⟩ (fun hHeld => ?_)
            clear hK K
            refine norm_ (a' := ?_) ?_ ?_
            rotate_left
            ·show Act.put _ (some 31) _ = _
             simp only [Act.put, xset_a, xset_z, xset_s, i64_w, i32_w]
             rfl
            refine pure_ (i := 17) (N := some 37) (v := ?_) (a' := ?_) #[true, true, true, true, true, true, true, true, true, true, true, true, true, true, true, true, true, true, true, false] rfl rfl (any_of HT_.out (by kernel_rfl)) (fun _ _ _ h => h) (Or.inl ⟨by rfl, ?_⟩) ?_ ?_
            rotate_left
            ·intro w'
             go_simp
             with_reducible rfl
            rotate_left
            ·simp only [Act.put, xset_a, xset_z, xset_s, i64_w, i32_w]
             rfl
            exact norm_ (by simp only [putAll, Act.put, xset_a, xset_z, xset_s]) (hCont (gb113) _ ⟨hHeld, (by (with_reducible repeat (first | apply Kd.R_alloc | apply Kd.R_drewN | apply Kd.R_drew)); exact Kd.R_mono HO_7.out (fun _ hk => hk.2)), (bk_ BK101.out), (bk_ BK113.out), GW113.out, GE113.out, NB101_113.out, NB113_101.out, (bl_ HB.out)⟩)
          rintro gb113 w46 ⟨hS_, h0_, h1_, h2_, h3_, h4_, h5_, h6_, h7_⟩
          have n0_ : Aside0 (Kd.R k44 44 w46 w.heap.size (fun k_ => k_ ≠ gb113) u7 x7_1) := ⟨h0_⟩
          have n1_ : Aside0 (w46.heap[gb101]? = some (.cells #[.string a1_0, .int .i64 a1_1, .int .i64 a1_2, .int .i64 a1_3, .int .i64 a1_4, .string a1_5, .int .i64 a1_6, .int .i64 a1_7, .int .i64 a1_8, .int .i64 a1_9, .string a1_10] 28 (0, 0))) := ⟨h1_⟩
          have n2_ : Aside0 (w46.heap[gb113]? = some (.cells #[.int .i64 0, .int .i64 0, .int .i64 0, .int .i64 0, .int .i64 0, .int .i64 0, .int .i64 0, .int .i64 0, .string ⟨#[]⟩] 44 (0, 0))) := ⟨h2_⟩
          have n3_ : Aside0 (w.heap.size ≤ gb113) := ⟨h3_⟩
          have n4_ : Aside0 (w.heap.size ≤ gb113) := ⟨h4_⟩
          have n5_ : Aside0 (gb101 ≠ gb113) := ⟨h5_⟩
          have n6_ : Aside0 (gb113 ≠ gb101) := ⟨h6_⟩
          have n7_ : Aside0 (Below w.heap.size w w46) := ⟨h7_⟩
          clear HO_7 BK101 HB
          clear h0_ h1_ h2_ h3_ h4_ h5_ h6_ h7_
          have HO_7 := n0_; have BK101 := n1_; have BK113 := n2_; have GW113 := n3_; have GE113 := n4_; have NB101_113 := n5_; have NB113_101 := n6_; have HB := n7_
          clear n0_ n1_ n2_ n3_ n4_ n5_ n6_ n7_
          have hHeld : w46.cell? (ad102.add ((x8_1).toNat * 9)) = some (.int .i64 ((rd_T44 l0 x8_1).f0.f0)) ∧ w46.cell? ⟨(ad102.add ((x8_1).toNat * 9)).block, (ad102.add ((x8_1).toNat * 9)).off + 1, none⟩ = some (.int .i64 ((rd_T44 l0 x8_1).f0.f1)) ∧ w46.cell? ⟨(ad102.add ((x8_1).toNat * 9)).block, (ad102.add ((x8_1).toNat * 9)).off + 2, none⟩ = some (.int .i64 ((rd_T44 l0 x8_1).f0.f2)) ∧ w46.cell? ⟨(ad102.add ((x8_1).toNat * 9)).block, (ad102.add ((x8_1).toNat * 9)).off + 3, none⟩ = some (.int .i64 ((rd_T44 l0 x8_1).f0.f3)) ∧ w46.cell? ⟨(ad102.add ((x8_1).toNat * 9)).block, (ad102.add ((x8_1).toNat * 9)).off + 4, none⟩ = some (.int .i64 ((rd_T44 l0 x8_1).f1.f0)) ∧ w46.cell? ⟨(ad102.add ((x8_1).toNat * 9)).block, (ad102.add ((x8_1).toNat * 9)).off + 5, none⟩ = some (.int .i64 ((rd_T44 l0 x8_1).f1.f1)) ∧ w46.cell? ⟨(ad102.add ((x8_1).toNat * 9)).block, (ad102.add ((x8_1).toNat * 9)).off + 6, none⟩ = some (.int .i64 ((rd_T44 l0 x8_1).f1.f2)) ∧ w46.cell? ⟨(ad102.add ((x8_1).toNat * 9)).block, (ad102.add ((x8_1).toNat * 9)).off + 7, none⟩ = some (.int .i64 ((rd_T44 l0 x8_1).f1.f3)) ∧ w46.cell? ⟨(ad102.add ((x8_1).toNat * 9)).block, (ad102.add ((x8_1).toNat * 9)).off + 8, none⟩ = some (.string ((rd_T44 l0 x8_1).f2)) ∧ w46.cell? (ad102.add ((x8_1).toNat * 9)) = some (.int .i64 ((rd_T44 l0 x8_1).f0.f0)) ∧ w46.cell? ⟨(ad102.add ((x8_1).toNat * 9)).block, (ad102.add ((x8_1).toNat * 9)).off + 1, none⟩ = some (.int .i64 ((rd_T44 l0 x8_1).f0.f1)) ∧ w46.cell? ⟨(ad102.add ((x8_1).toNat * 9)).block, (ad102.add ((x8_1).toNat * 9)).off + 2, none⟩ = some (.int .i64 ((rd_T44 l0 x8_1).f0.f2)) ∧ w46.cell? ⟨(ad102.add ((x8_1).toNat * 9)).block, (ad102.add ((x8_1).toNat * 9)).off + 3, none⟩ = some (.int .i64 ((rd_T44 l0 x8_1).f0.f3)) ∧ w46.cell? ⟨(ad102.add ((x8_1).toNat * 9)).block, (ad102.add ((x8_1).toNat * 9)).off + 4, none⟩ = some (.int .i64 ((rd_T44 l0 x8_1).f1.f0)) ∧ w46.cell? ⟨(ad102.add ((x8_1).toNat * 9)).block, (ad102.add ((x8_1).toNat * 9)).off + 5, none⟩ = some (.int .i64 ((rd_T44 l0 x8_1).f1.f1)) ∧ w46.cell? ⟨(ad102.add ((x8_1).toNat * 9)).block, (ad102.add ((x8_1).toNat * 9)).off + 6, none⟩ = some (.int .i64 ((rd_T44 l0 x8_1).f1.f2)) ∧ w46.cell? ⟨(ad102.add ((x8_1).toNat * 9)).block, (ad102.add ((x8_1).toNat * 9)).off + 7, none⟩ = some (.int .i64 ((rd_T44 l0 x8_1).f1.f3)) ∧ w46.cell? ⟨(ad102.add ((x8_1).toNat * 9)).block, (ad102.add ((x8_1).toNat * 9)).off + 8, none⟩ = some (.string ((rd_T44 l0 x8_1).f2)) ∧ w46.cell? (ad102.add ((x8_1).toNat * 9)) = some (.int .i64 ((rd_T44 l0 x8_1).f0.f0)) ∧ w46.cell? ⟨(ad102.add ((x8_1).toNat * 9)).block, (ad102.add ((x8_1).toNat * 9)).off + 1, none⟩ = some (.int .i64 ((rd_T44 l0 x8_1).f0.f1)) ∧ w46.cell? ⟨(ad102.add ((x8_1).toNat * 9)).block, (ad102.add ((x8_1).toNat * 9)).off + 2, none⟩ = some (.int .i64 ((rd_T44 l0 x8_1).f0.f2)) ∧ w46.cell? ⟨(ad102.add ((x8_1).toNat * 9)).block, (ad102.add ((x8_1).toNat * 9)).off + 3, none⟩ = some (.int .i64 ((rd_T44 l0 x8_1).f0.f3)) ∧ w46.cell? ⟨(ad102.add ((x8_1).toNat * 9)).block, (ad102.add ((x8_1).toNat * 9)).off + 4, none⟩ = some (.int .i64 ((rd_T44 l0 x8_1).f1.f0)) ∧ w46.cell? ⟨(ad102.add ((x8_1).toNat * 9)).block, (ad102.add ((x8_1).toNat * 9)).off + 5, none⟩ = some (.int .i64 ((rd_T44 l0 x8_1).f1.f1)) ∧ w46.cell? ⟨(ad102.add ((x8_1).toNat * 9)).block, (ad102.add ((x8_1).toNat * 9)).off + 6, none⟩ = some (.int .i64 ((rd_T44 l0 x8_1).f1.f2)) ∧ w46.cell? ⟨(ad102.add ((x8_1).toNat * 9)).block, (ad102.add ((x8_1).toNat * 9)).off + 7, none⟩ = some (.int .i64 ((rd_T44 l0 x8_1).f1.f3)) ∧ w46.cell? ⟨(ad102.add ((x8_1).toNat * 9)).block, (ad102.add ((x8_1).toNat * 9)).off + 8, none⟩ = some (.string ((rd_T44 l0 x8_1).f2)) := hS_
          refine norm_ (a' := ?_) ?_ ?_
          rotate_left
          ·simp only [putAll, Act.put, xset_a, xset_z, xset_s]
           rfl
          refine one_ (i := 19) (N := none) #[true, true, true, true, true, true, true, true, true, true, true, true, true, true, true, true, true, true, true, true] rfl rfl (one_of HT_.out (by kernel_rfl)) (by decide) (fun K hK => ?_)
          have hs47 : w46.cell? ⟨gb113, 0, none⟩ = some (.int .i64 0) := (blk_cell BK113.out 0).trans rfl
          have hfs47 := blk_frozen BK113.out 0
          have hns47_0 := NB101_113.out
          have hms47_0 := NB113_101.out
          have hs48 : w46.cell? ⟨gb113, 1, none⟩ = some (.int .i64 0) := (blk_cell BK113.out 1).trans rfl
          have hfs48 := blk_frozen BK113.out 1
          have hns48_0 := NB101_113.out
          have hms48_0 := NB113_101.out
          have hs49 : w46.cell? ⟨gb113, 2, none⟩ = some (.int .i64 0) := (blk_cell BK113.out 2).trans rfl
          have hfs49 := blk_frozen BK113.out 2
          have hns49_0 := NB101_113.out
          have hms49_0 := NB113_101.out
          have hs50 : w46.cell? ⟨gb113, 3, none⟩ = some (.int .i64 0) := (blk_cell BK113.out 3).trans rfl
          have hfs50 := blk_frozen BK113.out 3
          have hns50_0 := NB101_113.out
          have hms50_0 := NB113_101.out
          have hs51 : w46.cell? ⟨gb113, 4, none⟩ = some (.int .i64 0) := (blk_cell BK113.out 4).trans rfl
          have hfs51 := blk_frozen BK113.out 4
          have hns51_0 := NB101_113.out
          have hms51_0 := NB113_101.out
          have hs52 : w46.cell? ⟨gb113, 5, none⟩ = some (.int .i64 0) := (blk_cell BK113.out 5).trans rfl
          have hfs52 := blk_frozen BK113.out 5
          have hns52_0 := NB101_113.out
          have hms52_0 := NB113_101.out
          have hs53 : w46.cell? ⟨gb113, 6, none⟩ = some (.int .i64 0) := (blk_cell BK113.out 6).trans rfl
          have hfs53 := blk_frozen BK113.out 6
          have hns53_0 := NB101_113.out
          have hms53_0 := NB113_101.out
          have hs54 : w46.cell? ⟨gb113, 7, none⟩ = some (.int .i64 0) := (blk_cell BK113.out 7).trans rfl
          have hfs54 := blk_frozen BK113.out 7
          have hns54_0 := NB101_113.out
          have hms54_0 := NB113_101.out
          have hs55 : w46.cell? ⟨gb113, 8, none⟩ = some (.string ⟨#[]⟩) := (blk_cell BK113.out 8).trans rfl
          have hfs55 := blk_frozen BK113.out 8
          have hns55_0 := NB101_113.out
          have hms55_0 := NB113_101.out
          with_reducible refine skip_ (w1 := ?_) ?_ rfl ?_ ?_
          rotate_left
          ·rfl
          ·go_simp
           rfl
          refine hK.out _ _ ⟨(by (iterate 9 (refine (cell_far (p := ⟨gb113, _, none⟩) (by have this := World.block_lt_of_cell? _ _ hw102_0; (try rw [add_block] at this); have this := Nat.ne_of_lt (Nat.lt_of_lt_of_le this GW113.out); first | exact this | (rw [add_block]; exact this) | (show (Addr.add _ _).block ≠ _; rw [add_block]; exact this) | (dsimp only; exact this)) _).trans ?_)); exact hHeld.1), (by (iterate 9 (refine (cell_far (p := ⟨gb113, _, none⟩) (by have this := World.block_lt_of_cell? _ _ hw102_1; (try rw [add_block] at this); have this := Nat.ne_of_lt (Nat.lt_of_lt_of_le this GW113.out); first | exact this | (rw [add_block]; exact this) | (show (Addr.add _ _).block ≠ _; rw [add_block]; exact this) | (dsimp only; exact this)) _).trans ?_)); exact hHeld.2.1), (by (iterate 9 (refine (cell_far (p := ⟨gb113, _, none⟩) (by have this := World.block_lt_of_cell? _ _ hw102_2; (try rw [add_block] at this); have this := Nat.ne_of_lt (Nat.lt_of_lt_of_le this GW113.out); first | exact this | (rw [add_block]; exact this) | (show (Addr.add _ _).block ≠ _; rw [add_block]; exact this) | (dsimp only; exact this)) _).trans ?_)); exact hHeld.2.2.1), (by (iterate 9 (refine (cell_far (p := ⟨gb113, _, none⟩) (by have this := World.block_lt_of_cell? _ _ hw102_3; (try rw [add_block] at this); have this := Nat.ne_of_lt (Nat.lt_of_lt_of_le this GW113.out); first | exact this | (rw [add_block]; exact this) | (show (Addr.add _ _).block ≠ _; rw [add_block]; exact this) | (dsimp only; exact this)) _).trans ?_)); exact hHeld.2.2.2.1), (by (iterate 9 (refine (cell_far (p := ⟨gb113, _, none⟩) (by have this := World.block_lt_of_cell? _ _ hw102_4; (try rw [add_block] at this); have this := Nat.ne_of_lt (Nat.lt_of_lt_of_le this GW113.out); first | exact this | (rw [add_block]; exact this) | (show (Addr.add _ _).block ≠ _; rw [add_block]; exact this) | (dsimp only; exact this)) _).trans ?_)); exact hHeld.2.2.2.2.1), (by (iterate 9 (refine (cell_far (p := ⟨gb113, _, none⟩) (by have this := World.block_lt_of_cell? _ _ hw102_5; (try rw [add_block] at this); have this := Nat.ne_of_lt (Nat.lt_of_lt_of_le this GW113.out); first | exact this | (rw [add_block]; exact this) | (show (Addr.add _ _).block ≠ _; rw [add_block]; exact this) | (dsimp only; exact this)) _).trans ?_)); exact hHeld.2.2.2.2.2.1), (by (iterate 9 (refine (cell_far (p := ⟨gb113, _, none⟩) (by have this := World.block_lt_of_cell? _ _ hw102_6; (try rw [add_block] at this); have this := Nat.ne_of_lt (Nat.lt_of_lt_of_le this GW113.out); first | exact this | (rw [add_block]; exact this) | (show (Addr.add _ _).block ≠ _; rw [add_block]; exact this) | (dsimp only; exact this)) _).trans ?_)); exact hHeld.2.2.2.2.2.2.1), (by (iterate 9 (refine (cell_far (p := ⟨gb113, _, none⟩) (by have this := World.block_lt_of_cell? _ _ hw102_7; (try rw [add_block] at this); have this := Nat.ne_of_lt (Nat.lt_of_lt_of_le this GW113.out); first | exact this | (rw [add_block]; exact this) | (show (Addr.add _ _).block ≠ _; rw [add_block]; exact this) | (dsimp only; exact this)) _).trans ?_)); exact hHeld.2.2.2.2.2.2.2.1), (by (iterate 9 (refine (cell_far (p := ⟨gb113, _, none⟩) (by have this := World.block_lt_of_cell? _ _ hw102_8; (try rw [add_block] at this); have this := Nat.ne_of_lt (Nat.lt_of_lt_of_le this GW113.out); first | exact this | (rw [add_block]; exact this) | (show (Addr.add _ _).block ≠ _; rw [add_block]; exact this) | (dsimp only; exact this)) _).trans ?_)); exact hHeld.2.2.2.2.2.2.2.2.1), (by (iterate 9 (refine (cell_far (p := ⟨gb113, _, none⟩) (by have this := World.block_lt_of_cell? _ _ hw107_0; (try rw [add_block] at this); have this := Nat.ne_of_lt (Nat.lt_of_lt_of_le this GW113.out); first | exact this | (rw [add_block]; exact this) | (show (Addr.add _ _).block ≠ _; rw [add_block]; exact this) | (dsimp only; exact this)) _).trans ?_)); exact hHeld.2.2.2.2.2.2.2.2.2.1), (by (iterate 9 (refine (cell_far (p := ⟨gb113, _, none⟩) (by have this := World.block_lt_of_cell? _ _ hw107_1; (try rw [add_block] at this); have this := Nat.ne_of_lt (Nat.lt_of_lt_of_le this GW113.out); first | exact this | (rw [add_block]; exact this) | (show (Addr.add _ _).block ≠ _; rw [add_block]; exact this) | (dsimp only; exact this)) _).trans ?_)); exact hHeld.2.2.2.2.2.2.2.2.2.2.1), (by (iterate 9 (refine (cell_far (p := ⟨gb113, _, none⟩) (by have this := World.block_lt_of_cell? _ _ hw107_2; (try rw [add_block] at this); have this := Nat.ne_of_lt (Nat.lt_of_lt_of_le this GW113.out); first | exact this | (rw [add_block]; exact this) | (show (Addr.add _ _).block ≠ _; rw [add_block]; exact this) | (dsimp only; exact this)) _).trans ?_)); exact hHeld.2.2.2.2.2.2.2.2.2.2.2.1), (by (iterate 9 (refine (cell_far (p := ⟨gb113, _, none⟩) (by have this := World.block_lt_of_cell? _ _ hw107_3; (try rw [add_block] at this); have this := Nat.ne_of_lt (Nat.lt_of_lt_of_le this GW113.out); first | exact this | (rw [add_block]; exact this) | (show (Addr.add _ _).block ≠ _; rw [add_block]; exact this) | (dsimp only; exact this)) _).trans ?_)); exact hHeld.2.2.2.2.2.2.2.2.2.2.2.2.1), (by (iterate 9 (refine (cell_far (p := ⟨gb113, _, none⟩) (by have this := World.block_lt_of_cell? _ _ hw107_4; (try rw [add_block] at this); have this := Nat.ne_of_lt (Nat.lt_of_lt_of_le this GW113.out); first | exact this | (rw [add_block]; exact this) | (show (Addr.add _ _).block ≠ _; rw [add_block]; exact this) | (dsimp only; exact this)) _).trans ?_)); exact hHeld.2.2.2.2.2.2.2.2.2.2.2.2.2.1), (by (iterate 9 (refine (cell_far (p := ⟨gb113, _, none⟩) (by have this := World.block_lt_of_cell? _ _ hw107_5; (try rw [add_block] at this); have this := Nat.ne_of_lt (Nat.lt_of_lt_of_le this GW113.out); first | exact this | (rw [add_block]; exact this) | (show (Addr.add _ _).block ≠ _; rw [add_block]; exact this) | (dsimp only; exact this)) _).trans ?_)); exact hHeld.2.2.2.2.2.2.2.2.2.2.2.2.2.2.1), (by (iterate 9 (refine (cell_far (p := ⟨gb113, _, none⟩) (by have this := World.block_lt_of_cell? _ _ hw107_6; (try rw [add_block] at this); have this := Nat.ne_of_lt (Nat.lt_of_lt_of_le this GW113.out); first | exact this | (rw [add_block]; exact this) | (show (Addr.add _ _).block ≠ _; rw [add_block]; exact this) | (dsimp only; exact this)) _).trans ?_)); exact hHeld.2.2.2.2.2.2.2.2.2.2.2.2.2.2.2.1), (by (iterate 9 (refine (cell_far (p := ⟨gb113, _, none⟩) (by have this := World.block_lt_of_cell? _ _ hw107_7; (try rw [add_block] at this); have this := Nat.ne_of_lt (Nat.lt_of_lt_of_le this GW113.out); first | exact this | (rw [add_block]; exact this) | (show (Addr.add _ _).block ≠ _; rw [add_block]; exact this) | (dsimp only; exact this)) _).trans ?_)); exact hHeld.2.2.2.2.2.2.2.2.2.2.2.2.2.2.2.2.1), (by (iterate 9 (refine (cell_far (p := ⟨gb113, _, none⟩) (by have this := World.block_lt_of_cell? _ _ hw107_8; (try rw [add_block] at this); have this := Nat.ne_of_lt (Nat.lt_of_lt_of_le this GW113.out); first | exact this | (rw [add_block]; exact this) | (show (Addr.add _ _).block ≠ _; rw [add_block]; exact this) | (dsimp only; exact this)) _).trans ?_)); exact hHeld.2.2.2.2.2.2.2.2.2.2.2.2.2.2.2.2.2.1), (by (iterate 9 (refine (cell_far (p := ⟨gb113, _, none⟩) (by have this := World.block_lt_of_cell? _ _ hw112_0; (try rw [add_block] at this); have this := Nat.ne_of_lt (Nat.lt_of_lt_of_le this GW113.out); first | exact this | (rw [add_block]; exact this) | (show (Addr.add _ _).block ≠ _; rw [add_block]; exact this) | (dsimp only; exact this)) _).trans ?_)); exact hHeld.2.2.2.2.2.2.2.2.2.2.2.2.2.2.2.2.2.2.1), (by (iterate 9 (refine (cell_far (p := ⟨gb113, _, none⟩) (by have this := World.block_lt_of_cell? _ _ hw112_1; (try rw [add_block] at this); have this := Nat.ne_of_lt (Nat.lt_of_lt_of_le this GW113.out); first | exact this | (rw [add_block]; exact this) | (show (Addr.add _ _).block ≠ _; rw [add_block]; exact this) | (dsimp only; exact this)) _).trans ?_)); exact hHeld.2.2.2.2.2.2.2.2.2.2.2.2.2.2.2.2.2.2.2.1), (by (iterate 9 (refine (cell_far (p := ⟨gb113, _, none⟩) (by have this := World.block_lt_of_cell? _ _ hw112_2; (try rw [add_block] at this); have this := Nat.ne_of_lt (Nat.lt_of_lt_of_le this GW113.out); first | exact this | (rw [add_block]; exact this) | (show (Addr.add _ _).block ≠ _; rw [add_block]; exact this) | (dsimp only; exact this)) _).trans ?_)); exact hHeld.2.2.2.2.2.2.2.2.2.2.2.2.2.2.2.2.2.2.2.2.1), (by (iterate 9 (refine (cell_far (p := ⟨gb113, _, none⟩) (by have this := World.block_lt_of_cell? _ _ hw112_3; (try rw [add_block] at this); have this := Nat.ne_of_lt (Nat.lt_of_lt_of_le this GW113.out); first | exact this | (rw [add_block]; exact this) | (show (Addr.add _ _).block ≠ _; rw [add_block]; exact this) | (dsimp only; exact this)) _).trans ?_)); exact hHeld.2.2.2.2.2.2.2.2.2.2.2.2.2.2.2.2.2.2.2.2.2.1), (by (iterate 9 (refine (cell_far (p := ⟨gb113, _, none⟩) (by have this := World.block_lt_of_cell? _ _ hw112_4; (try rw [add_block] at this); have this := Nat.ne_of_lt (Nat.lt_of_lt_of_le this GW113.out); first | exact this | (rw [add_block]; exact this) | (show (Addr.add _ _).block ≠ _; rw [add_block]; exact this) | (dsimp only; exact this)) _).trans ?_)); exact hHeld.2.2.2.2.2.2.2.2.2.2.2.2.2.2.2.2.2.2.2.2.2.2.1), (by (iterate 9 (refine (cell_far (p := ⟨gb113, _, none⟩) (by have this := World.block_lt_of_cell? _ _ hw112_5; (try rw [add_block] at this); have this := Nat.ne_of_lt (Nat.lt_of_lt_of_le this GW113.out); first | exact this | (rw [add_block]; exact this) | (show (Addr.add _ _).block ≠ _; rw [add_block]; exact this) | (dsimp only; exact this)) _).trans ?_)); exact hHeld.2.2.2.2.2.2.2.2.2.2.2.2.2.2.2.2.2.2.2.2.2.2.2.1), (by (iterate 9 (refine (cell_far (p := ⟨gb113, _, none⟩) (by have this := World.block_lt_of_cell? _ _ hw112_6; (try rw [add_block] at this); have this := Nat.ne_of_lt (Nat.lt_of_lt_of_le this GW113.out); first | exact this | (rw [add_block]; exact this) | (show (Addr.add _ _).block ≠ _; rw [add_block]; exact this) | (dsimp only; exact this)) _).trans ?_)); exact hHeld.2.2.2.2.2.2.2.2.2.2.2.2.2.2.2.2.2.2.2.2.2.2.2.2.1), (by (iterate 9 (refine (cell_far (p := ⟨gb113, _, none⟩) (by have this := World.block_lt_of_cell? _ _ hw112_7; (try rw [add_block] at this); have this := Nat.ne_of_lt (Nat.lt_of_lt_of_le this GW113.out); first | exact this | (rw [add_block]; exact this) | (show (Addr.add _ _).block ≠ _; rw [add_block]; exact this) | (dsimp only; exact this)) _).trans ?_)); exact hHeld.2.2.2.2.2.2.2.2.2.2.2.2.2.2.2.2.2.2.2.2.2.2.2.2.2.1), (by (iterate 9 (refine (cell_far (p := ⟨gb113, _, none⟩) (by have this := World.block_lt_of_cell? _ _ hw112_8; (try rw [add_block] at this); have this := Nat.ne_of_lt (Nat.lt_of_lt_of_le this GW113.out); first | exact this | (rw [add_block]; exact this) | (show (Addr.add _ _).block ≠ _; rw [add_block]; exact this) | (dsimp only; exact this)) _).trans ?_)); exact hHeld.2.2.2.2.2.2.2.2.2.2.2.2.2.2.2.2.2.2.2.2.2.2.2.2.2.2)⟩ (fun hHeld => ?_)
          clear hK K
          refine done_ (done_of HT_.out (by kernel_rfl)) ?_
          have hnb56 := NB113_101.out
          have hnc56 := NB101_113.out
          obtain ⟨hcz57_0, hcz57_1, hcz57_2, hcz57_3, hcz57_4, hcz57_5, hcz57_6, hcz57_7, hcz57_8⟩ := bcs9 BK113.out
          obtain ⟨hfz57_0, hfz57_1, hfz57_2, hfz57_3, hfz57_4, hfz57_5, hfz57_6, hfz57_7, hfz57_8⟩ := bfs9 BK113.out
          try go_wp2_with (first | ((with_reducible refine gate_builtin (b := .append) (xs := #[.tmp 47, .tmp 49]) rfl ?_); at_builtin; refine Kd.R_append k44 (w0 := w) w.heap.size rfl (.tmp 47) (.tmp 49) 42 44 (.agg #[(.int .i64 0), (.int .i64 0), (.int .i64 0), (.int .i64 0), (.int .i64 0), (.int .i64 0), (.int .i64 0), (.int .i64 0), (.string ⟨#[]⟩)]) 80 rfl Try.underlying42 info44 rfl (by decide) (by omega) u7 x7_1 (⟨(⟨t103, t104, t105, t106⟩ : S26), (⟨t108, t109, t110, t111⟩ : S26), (rd_T44 l0 x8_1).f2⟩ : S44) [.int .i64 t103, .int .i64 t104, .int .i64 t105, .int .i64 t106, .int .i64 t108, .int .i64 t109, .int .i64 t110, .int .i64 t111, .string ((rd_T44 l0 x8_1).f2)] (fun k_ => k_ ≠ gb113) (fun _ => False) rfl (by first | (go_simp; done) | (go_simp; rfl)) ?aP (fun _ hk => hk.elim) ?aF ?aO ?aB ?aS ?aL ?_; (case aP => exact k44_mkM _ _ _ (⟨(⟨t103, t104, t105, t106⟩ : S26), (⟨t108, t109, t110, t111⟩ : S26), (rd_T44 l0 x8_1).f2⟩ : S44)); (case aB => exact (bl_ HB.out)); (case aF => exact (fun k_ hk => Kd.freshB (g := gb113) (o := .cells #[.int .i64 t103, .int .i64 t104, .int .i64 t105, .int .i64 t106, .int .i64 t108, .int .i64 t109, .int .i64 t110, .int .i64 t111, .string ((rd_T44 l0 x8_1).f2)] 44 (0, 0)) (by (with_reducible repeat (first | refine blk_drewN ?_ _ | refine blk_drew ?_ | refine blk_alloc ?_ _)); refine puts9 (cs := #[.int .i64 0, .int .i64 0, .int .i64 0, .int .i64 0, .int .i64 0, .int .i64 0, .int .i64 0, .int .i64 0, .string ⟨#[]⟩]) ?_ rfl; (with_reducible repeat (first | refine blk_drewN ?_ _ | refine blk_drew ?_ | refine blk_alloc ?_ _)); exact BK113.out) k_ hk)); (case aO => exact (by (with_reducible repeat (first | apply Kd.R_alloc | apply Kd.R_drewN | apply Kd.R_drew)); exact Kd.R_mono (Kd.R_far (p := ⟨gb113, 8, none⟩) (Kd.R_far (p := ⟨gb113, 7, none⟩) (Kd.R_far (p := ⟨gb113, 6, none⟩) (Kd.R_far (p := ⟨gb113, 5, none⟩) (Kd.R_far (p := ⟨gb113, 4, none⟩) (Kd.R_far (p := ⟨gb113, 3, none⟩) (Kd.R_far (p := ⟨gb113, 2, none⟩) (Kd.R_far (p := ⟨gb113, 1, none⟩) (Kd.R_far (p := ⟨gb113, 0, none⟩) (Kd.R_mono HO_7.out (fun k_ hk => (⟨hk, hk⟩ : _ ∧ k_ ≠ gb113))) (fun _ hk => hk.2) (.int .i64 t103)) (fun _ hk => hk.2) (.int .i64 t104)) (fun _ hk => hk.2) (.int .i64 t105)) (fun _ hk => hk.2) (.int .i64 t106)) (fun _ hk => hk.2) (.int .i64 t108)) (fun _ hk => hk.2) (.int .i64 t109)) (fun _ hk => hk.2) (.int .i64 t110)) (fun _ hk => hk.2) (.int .i64 t111)) (fun _ hk => hk.2) (.string ((rd_T44 l0 x8_1).f2))) (fun _ hk => hk.1))); (case aS => exact (below_size (bl_ HB.out))); (case aL => have := LMc41.out; omega); intro v118 w58 ho hb hg hat; rw [← Ny117.out] at ho; have n0_ := Aside0.mk (blk_grown (g := gb101) (o := .cells #[.string a1_0, .int .i64 a1_1, .int .i64 a1_2, .int .i64 a1_3, .int .i64 a1_4, .string a1_5, .int .i64 a1_6, .int .i64 a1_7, .int .i64 a1_8, .int .i64 a1_9, .string a1_10] 28 (0, 0)) (by (iterate 9 ((with_reducible repeat (first | refine blk_drewN ?_ _ | refine blk_drew ?_ | refine blk_alloc ?_ _)); refine blk_far ?_ NB101_113.out _)); (with_reducible repeat (first | refine blk_drewN ?_ _ | refine blk_drew ?_ | refine blk_alloc ?_ _)); exact BK101.out) hg (Kd.R_ne HO_7.out BK101.out (by decide))); have n1_ := Aside0.mk (blk_grown (g := gb113) (o := .cells #[.int .i64 t103, .int .i64 t104, .int .i64 t105, .int .i64 t106, .int .i64 t108, .int .i64 t109, .int .i64 t110, .int .i64 t111, .string ((rd_T44 l0 x8_1).f2)] 44 (0, 0)) (by (with_reducible repeat (first | refine blk_drewN ?_ _ | refine blk_drew ?_ | refine blk_alloc ?_ _)); refine puts9 (cs := #[.int .i64 0, .int .i64 0, .int .i64 0, .int .i64 0, .int .i64 0, .int .i64 0, .int .i64 0, .int .i64 0, .string ⟨#[]⟩]) ?_ rfl; (with_reducible repeat (first | refine blk_drewN ?_ _ | refine blk_drew ?_ | refine blk_alloc ?_ _)); exact BK113.out) hg (Kd.R_away HO_7.out (fun _ hk => hk))); have n2_ := Aside0.mk (hb); have n3_ := Aside0.mk (ho); clear BK101 BK113 HB HO_7; have BK101 := n0_; have BK113 := n1_; have HB := n2_; have HO119 := n3_; clear n0_ n1_ n2_ n3_; clear ho hb hg hat))
          go_roundg kj4
          case measure => have := HK1.out; have := HJ4.out; omega
          case rel => exact ⟨(y117), (wrap64 (x8_1 + 1)), (by first | rfl | (simp; done) | (simp [*]; done)), H', ⟨by have := HK1.out; have := HJ4.out; omega⟩, ⟨by (with_reducible repeat (first | apply Kd.R_alloc | apply Kd.R_drewN | apply Kd.R_drew)); exact Kd.R_mono HO119.out (fun _ hk => trivial)⟩, ⟨by (with_reducible repeat (first | refine blk_drewN ?_ _ | refine blk_drew ?_ | refine blk_alloc ?_ _)); exact BK101.out⟩, ⟨by repeat (first | (with_reducible first | exact HB.out | apply below_alloc | apply pw_below_drewN | apply below_drew1 | refine below_set ?_ GE101.out | refine below_set ?_ GE113.out) | exact HB.out)⟩⟩
         ·rw [if_neg c41] at H
          exact absurd H (by simp)
       ·rw [if_neg c9] at H
        exact absurd H (by simp)
      ·rw [if_neg c8] at H
       exact absurd H (by simp)
     ·replace c7 := Bool.eq_false_iff.mpr c7
      subst c7
      have H1 : (some x7_1) = some r := by rw [if_neg (show ¬ (false = true) by decide)] at H; exact H
      clear H
      have H := H1
      clear H1
      obtain rfl := Option.some.inj H
      go_wp2
      go_ret
      exact ⟨_, by first | rfl | (simp [errW_none, errW_some] <;> rfl) | (simp [*, errW_none, errW_some] <;> rfl), by (with_reducible repeat (first | apply Kd.R_alloc | apply Kd.R_drewN | apply Kd.R_drew)); exact HO_7.out, by repeat (first | (with_reducible first | exact HB.out | apply below_alloc | apply pw_below_drewN | apply below_drew1 | refine below_set ?_ GE101.out) | exact HB.out)⟩

end Go.Proofs.Ytdbnjjkapelekaa.X
