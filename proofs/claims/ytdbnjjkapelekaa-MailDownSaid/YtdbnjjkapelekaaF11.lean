/- Written by a program of this session over the kit's print: YtdbnjjkapelekaaF11. -/
import Derived.Test.YtdbnjjkapelekaaH
import Derived.Test.YtdbnjjkapelekaaF19
import Derived.Test.YtdbnjjkapelekaaF26
import Derived.Test.YtdbnjjkapelekaaF27
import Derived.Test.YtdbnjjkapelekaaF28
namespace Go.Proofs.Ytdbnjjkapelekaa.X
open Go.RowKit Go.Proofs.YtdbnjjkapelekaaW.PrintWords Go.Proofs.YtdbnjjkapelekaaW.PrintLast Go.Proofs.YtdbnjjkapelekaaW.PrintMore Go.Proofs.Ytdbnjjkapelekaa.More
attribute [local go_sem] max2_int min2_int max_two min_two max_three min_three max_four min_four binOp_string_leq binOp_string_gtr   -- for this text's walks alone
set_option linter.unusedVariables false
set_option linter.unusedSimpArgs false

/-! ### mail_Send: function 11 -/
mutual
def mail_Send.j0 : Nat → List (S44) → Bool → ByteArray → Int → Int → Int → Int → ByteArray → Int → Int → Int → Int → ByteArray → Option (Int × Int)
 | 0, _, _, _, _, _, _, _, _, _, _, _, _, _ => none
 | k + 1, x0, x20, x102000, x102001, x102002, x102003, x102004, x102005, x102006, x102007, x102008, x102009, x102010 => if x20 = true then (some (0, 1)) else ((some (([(⟨x102001, x102002, x102003, x102004⟩ : S26), (⟨x102006, x102007, x102008, x102009⟩ : S26)] : List (S26)) : List (S26))).bind fun y104 => (mail_Send.l0 k x0 y104 (y104.length : Int) 0 x102000 x102001 x102002 x102003 x102004 x102005 x102006 x102007 x102008 x102009 x102010))
def mail_Send.l0 : Nat → List (S44) → List (S26) → Int → Int → ByteArray → Int → Int → Int → Int → ByteArray → Int → Int → Int → Int → ByteArray → Option (Int × Int)
 | 0, _, _, _, _, _, _, _, _, _, _, _, _, _, _, _ => none
 | k + 1, x0, x25, x26, x27, x102000, x102001, x102002, x102003, x102004, x102005, x102006, x102007, x102008, x102009, x102010 => if x27 < x26 then (if 0 ≤ x27 then (if x27 < (x25.length : Int) then ((label_Check.f ((rd_T26 x25 x27).f0) ((rd_T26 x25 x27).f1) ((rd_T26 x25 x27).f2) ((rd_T26 x25 x27).f3)).bind fun t109 => (if t109 = 0 then (mail_Send.l0 k x0 x25 x26 (wrap64 (x27 + 1)) x102000 x102001 x102002 x102003 x102004 x102005 x102006 x102007 x102008 x102009 x102010) else (some (0, t109)))) else (none)) else (none)) else ((mail_Rule.f k x0 x102000 x102001 x102002 x102003 x102004 x102005 x102006 x102007 x102008 x102009 x102010).bind fun bt110 => (if (x102010.size : Int) > 40 then (some (0, 5)) else ((label_Over.f x102006 x102007 x102008 x102009 x102001 x102002 x102003 x102004).bind fun t121 => (if t121 = true then (some (1, 0)) else (if bt110.2.2.2.2.2.2.2.2.2 = true then (some (2, 0)) else (some (0, 19)))))))
end
def mail_Send.f (k : Nat) (l0 : List (S44)) (a1_0 : ByteArray) (a1_1 : Int) (a1_2 : Int) (a1_3 : Int) (a1_4 : Int) (a1_5 : ByteArray) (a1_6 : Int) (a1_7 : Int) (a1_8 : Int) (a1_9 : Int) (a1_10 : ByteArray) : Option (Int × Int) := (path_Name.f a1_0).bind fun t102 => (if t102 = true then ((path_Name.f a1_5).bind fun t103 => (mail_Send.j0 k l0 (!t103) a1_0 a1_1 a1_2 a1_3 a1_4 a1_5 a1_6 a1_7 a1_8 a1_9 a1_10)) else (mail_Send.j0 k l0 true a1_0 a1_1 a1_2 a1_3 a1_4 a1_5 a1_6 a1_7 a1_8 a1_9 a1_10))
theorem mail_Send.mono_l : ∀ k, (∀ y0 y1 y2 y3 y4 y5 y6 y7 y8 y9 y10 y11 y12, LeO (mail_Send.j0 k y0 y1 y2 y3 y4 y5 y6 y7 y8 y9 y10 y11 y12) (mail_Send.j0 (k + 1) y0 y1 y2 y3 y4 y5 y6 y7 y8 y9 y10 y11 y12)) ∧ (∀ y0 y1 y2 y3 y4 y5 y6 y7 y8 y9 y10 y11 y12 y13 y14, LeO (mail_Send.l0 k y0 y1 y2 y3 y4 y5 y6 y7 y8 y9 y10 y11 y12 y13 y14) (mail_Send.l0 (k + 1) y0 y1 y2 y3 y4 y5 y6 y7 y8 y9 y10 y11 y12 y13 y14))
 | 0 => ⟨fun _ _ _ _ _ _ _ _ _ _ _ _ _ r h => by simp [mail_Send.j0] at h, fun _ _ _ _ _ _ _ _ _ _ _ _ _ _ _ r h => by simp [mail_Send.l0] at h⟩
 | k + 1 => by
  obtain ⟨ih0, ih1⟩ := mail_Send.mono_l k
  refine ⟨?_, ?_⟩
  ·intro y0 y1 y2 y3 y4 y5 y6 y7 y8 y9 y10 y11 y12
   unfold mail_Send.j0
   repeat' first
   | (with_reducible exact ih0 _ _ _ _ _ _ _ _ _ _ _ _ _)
   | (with_reducible exact ih1 _ _ _ _ _ _ _ _ _ _ _ _ _ _ _)
   | (with_reducible exact mail_Rule.mono _ _ _ _ _ _ _ _ _ _ _ _ _)
   | (with_reducible exact LeO.refl _)
   | (with_reducible exact LeO.none _)
   | (with_reducible refine LeO.ite ?_ ?_)
   | (with_reducible refine LeO.bind ?_ (fun _ => ?_))
   | exact ih0 _ _ _ _ _ _ _ _ _ _ _ _ _
   | exact ih1 _ _ _ _ _ _ _ _ _ _ _ _ _ _ _
   | exact mail_Rule.mono _ _ _ _ _ _ _ _ _ _ _ _ _
   | exact LeO.none _
   | refine LeO.ite ?_ ?_
   | refine LeO.bind ?_ (fun _ => ?_)
  ·intro y0 y1 y2 y3 y4 y5 y6 y7 y8 y9 y10 y11 y12 y13 y14
   unfold mail_Send.l0
   repeat' first
   | (with_reducible exact ih0 _ _ _ _ _ _ _ _ _ _ _ _ _)
   | (with_reducible exact ih1 _ _ _ _ _ _ _ _ _ _ _ _ _ _ _)
   | (with_reducible exact mail_Rule.mono _ _ _ _ _ _ _ _ _ _ _ _ _)
   | (with_reducible exact LeO.refl _)
   | (with_reducible exact LeO.none _)
   | (with_reducible refine LeO.ite ?_ ?_)
   | (with_reducible refine LeO.bind ?_ (fun _ => ?_))
   | exact ih0 _ _ _ _ _ _ _ _ _ _ _ _ _
   | exact ih1 _ _ _ _ _ _ _ _ _ _ _ _ _ _ _
   | exact mail_Rule.mono _ _ _ _ _ _ _ _ _ _ _ _ _
   | exact LeO.none _
   | refine LeO.ite ?_ ?_
   | refine LeO.bind ?_ (fun _ => ?_)
theorem mail_Send.mono : ∀ a0 a1 a2 a3 a4 a5 a6 a7 a8 a9 a10 a11 k, LeO (mail_Send.f k a0 a1 a2 a3 a4 a5 a6 a7 a8 a9 a10 a11) (mail_Send.f (k + 1) a0 a1 a2 a3 a4 a5 a6 a7 a8 a9 a10 a11) := by
 intro a0 a1 a2 a3 a4 a5 a6 a7 a8 a9 a10 a11 k
 obtain ⟨ih0, ih1⟩ := mail_Send.mono_l k
 unfold mail_Send.f
 repeat' first
   | (with_reducible exact ih0 _ _ _ _ _ _ _ _ _ _ _ _ _)
   | (with_reducible exact ih1 _ _ _ _ _ _ _ _ _ _ _ _ _ _ _)
   | (with_reducible exact mail_Rule.mono _ _ _ _ _ _ _ _ _ _ _ _ _)
   | (with_reducible exact LeO.refl _)
   | (with_reducible exact LeO.none _)
   | (with_reducible refine LeO.ite ?_ ?_)
   | (with_reducible refine LeO.bind ?_ (fun _ => ?_))
   | exact ih0 _ _ _ _ _ _ _ _ _ _ _ _ _
   | exact ih1 _ _ _ _ _ _ _ _ _ _ _ _ _ _ _
   | exact mail_Rule.mono _ _ _ _ _ _ _ _ _ _ _ _ _
   | exact LeO.none _
   | refine LeO.ite ?_ ?_
   | refine LeO.bind ?_ (fun _ => ?_)
set_option maxHeartbeats 8000000 in
set_option maxRecDepth 100000 in
theorem mail_Send.calls (k : Nat) (A0 : Option Addr) (c0 : Nat) (l0 : List (S44)) (a1_0 : ByteArray) (a1_1 : Int) (a1_2 : Int) (a1_3 : Int) (a1_4 : Int) (a1_5 : ByteArray) (a1_6 : Int) (a1_7 : Int) (a1_8 : Int) (a1_9 : Int) (a1_10 : ByteArray) (r1 : Int) (r2 : Int) (w : World) (hr0 : Kd.C k44 w A0 l0.length l0) (hc0 : l0.length ≤ c0) (h : mail_Send.f k l0 a1_0 a1_1 a1_2 a1_3 a1_4 a1_5 a1_6 a1_7 a1_8 a1_9 a1_10 = some (r1, r2)) :
  Calls Try.prog 11 #[.slice A0 l0.length c0, .agg #[.string a1_0, .int .i64 a1_1, .int .i64 a1_2, .int .i64 a1_3, .int .i64 a1_4, .string a1_5, .int .i64 a1_6, .int .i64 a1_7, .int .i64 a1_8, .int .i64 a1_9, .string a1_10]] w fun e w' => e = .returned (.tuple #[.int .i64 r1, .int .i64 r2]) ∧ Below w.heap.size w w' := by
 have hu28 := Try.underlying28
 have hu26 := Try.underlying26
 have hu44 := Try.underlying44
 have HR0 := Aside0.mk hr0
 have HC0 := Aside0.mk hc0
 clear hr0 hc0
 have HB := Aside0.mk (Below.refl w.heap.size w)
 have H : ((path_Name.f a1_0).bind fun t102 => (if t102 = true then ((path_Name.f a1_5).bind fun t103 => (mail_Send.j0 k l0 (!t103) a1_0 a1_1 a1_2 a1_3 a1_4 a1_5 a1_6 a1_7 a1_8 a1_9 a1_10)) else (mail_Send.j0 k l0 true a1_0 a1_1 a1_2 a1_3 a1_4 a1_5 a1_6 a1_7 a1_8 a1_9 a1_10))) = some (r1, r2) := h
 clear h
 have HC3 := Aside0.mk H
 clear H
 go_enter Try.func11, Try.ntmps11
 go_upto_region 1 with (first | ((with_reducible refine gate_dst (N := 3) rfl ?_); refine box_event ?hg (N := 3) ?hd (cs := #[.string a1_0, .int .i64 a1_1, .int .i64 a1_2, .int .i64 a1_3, .int .i64 a1_4, .string a1_5, .int .i64 a1_6, .int .i64 a1_7, .int .i64 a1_8, .int .i64 a1_9, .string a1_10]) (t := 28) ?hr ?_; (case hd => rfl); (case hg => rfl); (case hr => first | (go_simp; done) | (go_simp; rfl)); intro gb101 hg w4 hbox hb; have n0_ := Aside0.mk (below_step (bl_ HB.out) hb); have n1_ := Aside0.mk (hbox); have n2_ := Aside0.mk ((by rw [hg]; exact (below_size (bl_ HB.out)) : w.heap.size ≤ gb101)); have n3_ := Aside0.mk ((by rw [hg]; exact (below_size (bl_ HB.out)) : w.heap.size ≤ gb101)); clear HB; have HB := n0_; have BK101 := n1_; have GW101 := n2_; have GE101 := n3_; clear n0_ n1_ n2_ n3_; clear hb hbox hg))
 (try simp only [Act.put, xset_a, xset_z, xset_s])
 go_cut [20] (fun v20 wc => ∃ (kq : Nat) (x20_2 : Bool), v20 = .bool x20_2 ∧ Aside0 (mail_Send.j0 kq l0 x20_2 a1_0 a1_1 a1_2 a1_3 a1_4 a1_5 a1_6 a1_7 a1_8 a1_9 a1_10 = some (r1, r2)) ∧ Aside0 (kq ≤ k) ∧ Aside0 (wc.heap[gb101]? = some (.cells #[.string a1_0, .int .i64 a1_1, .int .i64 a1_2, .int .i64 a1_3, .int .i64 a1_4, .string a1_5, .int .i64 a1_6, .int .i64 a1_7, .int .i64 a1_8, .int .i64 a1_9, .string a1_10] 28 (0, 0))) ∧ Aside0 (Below w.heap.size w wc))
 case first =>
  have H := HC3.out
  clear HC3
  replace H := Option.bind_eq_some_iff.mp H
  obtain ⟨t102, A50, H⟩ := H
  replace H : (if t102 = true then ((path_Name.f a1_5).bind fun t103 => (mail_Send.j0 k l0 (!t103) a1_0 a1_1 a1_2 a1_3 a1_4 a1_5 a1_6 a1_7 a1_8 a1_9 a1_10)) else (mail_Send.j0 k l0 true a1_0 a1_1 a1_2 a1_3 a1_4 a1_5 a1_6 a1_7 a1_8 a1_9 a1_10)) = some (r1, r2) := H
  have A5 := Aside0.mk A50
  clear A50
  by_cases c6 : t102 = true
  ·subst c6
   have H1 : ((path_Name.f a1_5).bind fun t103 => (mail_Send.j0 k l0 (!t103) a1_0 a1_1 a1_2 a1_3 a1_4 a1_5 a1_6 a1_7 a1_8 a1_9 a1_10)) = some (r1, r2) := by rw [if_pos rfl] at H; exact H
   clear H
   have H := H1
   clear H1
   replace H := Option.bind_eq_some_iff.mp H
   obtain ⟨t103, A70, H⟩ := H
   replace H : (mail_Send.j0 k l0 (!t103) a1_0 a1_1 a1_2 a1_3 a1_4 a1_5 a1_6 a1_7 a1_8 a1_9 a1_10) = some (r1, r2) := H
   have A7 := Aside0.mk A70
   clear A70
   have H' := Aside0.mk H
   clear H
   have hcz8_0 : w4.cell? ⟨gb101, 0, none⟩ = some (.string a1_0) := (blk_cell BK101.out 0).trans rfl
   have hcz8_1 : w4.cell? ⟨gb101, 1, none⟩ = some (.int .i64 a1_1) := (blk_cell BK101.out 1).trans rfl
   have hcz8_2 : w4.cell? ⟨gb101, 2, none⟩ = some (.int .i64 a1_2) := (blk_cell BK101.out 2).trans rfl
   have hcz8_3 : w4.cell? ⟨gb101, 3, none⟩ = some (.int .i64 a1_3) := (blk_cell BK101.out 3).trans rfl
   have hcz8_4 : w4.cell? ⟨gb101, 4, none⟩ = some (.int .i64 a1_4) := (blk_cell BK101.out 4).trans rfl
   have hcz8_5 : w4.cell? ⟨gb101, 5, none⟩ = some (.string a1_5) := (blk_cell BK101.out 5).trans rfl
   have hcz8_6 : w4.cell? ⟨gb101, 6, none⟩ = some (.int .i64 a1_6) := (blk_cell BK101.out 6).trans rfl
   have hcz8_7 : w4.cell? ⟨gb101, 7, none⟩ = some (.int .i64 a1_7) := (blk_cell BK101.out 7).trans rfl
   have hcz8_8 : w4.cell? ⟨gb101, 8, none⟩ = some (.int .i64 a1_8) := (blk_cell BK101.out 8).trans rfl
   have hcz8_9 : w4.cell? ⟨gb101, 9, none⟩ = some (.int .i64 a1_9) := (blk_cell BK101.out 9).trans rfl
   have hcz8_10 : w4.cell? ⟨gb101, 10, none⟩ = some (.string a1_10) := (blk_cell BK101.out 10).trans rfl
   have hfz8_0 := blk_frozen BK101.out 0
   have hfz8_1 := blk_frozen BK101.out 1
   have hfz8_2 := blk_frozen BK101.out 2
   have hfz8_3 := blk_frozen BK101.out 3
   have hfz8_4 := blk_frozen BK101.out 4
   have hfz8_5 := blk_frozen BK101.out 5
   have hfz8_6 := blk_frozen BK101.out 6
   have hfz8_7 := blk_frozen BK101.out 7
   have hfz8_8 := blk_frozen BK101.out 8
   have hfz8_9 := blk_frozen BK101.out 9
   have hfz8_10 := blk_frozen BK101.out 10
   go_wp2_with (first | ((with_reducible refine gate_callee (f := 26) rfl ?_); refine goesL_ (some 13) rfl rfl Try.func26 (by kernel_rfl) rfl #[.string a1_0] rfl (by (try simp only [List.map_toArray, List.map_cons, List.map_nil]); first | done | rfl | (simp only [List.length_drop, List.length_take]; rfl)) ?_; (with_reducible refine (path_Name.calls a1_0 true _ A5.out).mono ?_); rintro e w9 ⟨rfl, hb⟩; refine ⟨_, rfl, ?_⟩; have n0_ := Aside0.mk (blk_below (g := gb101) (o := .cells #[.string a1_0, .int .i64 a1_1, .int .i64 a1_2, .int .i64 a1_3, .int .i64 a1_4, .string a1_5, .int .i64 a1_6, .int .i64 a1_7, .int .i64 a1_8, .int .i64 a1_9, .string a1_10] 28 (0, 0)) (bk_ BK101.out) hb); have n1_ := Aside0.mk (below_step (bl_ HB.out) hb); clear BK101 HB; have BK101 := n0_; have HB := n1_; clear n0_ n1_; (try clear hb); (try clear hb2); (try clear hk); (try clear hi); have hcz10_0 : w9.cell? ⟨gb101, 0, none⟩ = some (.string a1_0) := (blk_cell BK101.out 0).trans rfl; have hcz10_1 : w9.cell? ⟨gb101, 1, none⟩ = some (.int .i64 a1_1) := (blk_cell BK101.out 1).trans rfl; have hcz10_2 : w9.cell? ⟨gb101, 2, none⟩ = some (.int .i64 a1_2) := (blk_cell BK101.out 2).trans rfl; have hcz10_3 : w9.cell? ⟨gb101, 3, none⟩ = some (.int .i64 a1_3) := (blk_cell BK101.out 3).trans rfl; have hcz10_4 : w9.cell? ⟨gb101, 4, none⟩ = some (.int .i64 a1_4) := (blk_cell BK101.out 4).trans rfl; have hcz10_5 : w9.cell? ⟨gb101, 5, none⟩ = some (.string a1_5) := (blk_cell BK101.out 5).trans rfl; have hcz10_6 : w9.cell? ⟨gb101, 6, none⟩ = some (.int .i64 a1_6) := (blk_cell BK101.out 6).trans rfl; have hcz10_7 : w9.cell? ⟨gb101, 7, none⟩ = some (.int .i64 a1_7) := (blk_cell BK101.out 7).trans rfl; have hcz10_8 : w9.cell? ⟨gb101, 8, none⟩ = some (.int .i64 a1_8) := (blk_cell BK101.out 8).trans rfl; have hcz10_9 : w9.cell? ⟨gb101, 9, none⟩ = some (.int .i64 a1_9) := (blk_cell BK101.out 9).trans rfl; have hcz10_10 : w9.cell? ⟨gb101, 10, none⟩ = some (.string a1_10) := (blk_cell BK101.out 10).trans rfl; have hfz10_0 := blk_frozen BK101.out 0; have hfz10_1 := blk_frozen BK101.out 1; have hfz10_2 := blk_frozen BK101.out 2; have hfz10_3 := blk_frozen BK101.out 3; have hfz10_4 := blk_frozen BK101.out 4; have hfz10_5 := blk_frozen BK101.out 5; have hfz10_6 := blk_frozen BK101.out 6; have hfz10_7 := blk_frozen BK101.out 7; have hfz10_8 := blk_frozen BK101.out 8; have hfz10_9 := blk_frozen BK101.out 9; have hfz10_10 := blk_frozen BK101.out 10) | (go_at_call 26; (with_reducible refine (path_Name.calls a1_5 t103 _ A7.out).mono ?_); rintro e w11 ⟨rfl, hb⟩; have n0_ := Aside0.mk (blk_below (g := gb101) (o := .cells #[.string a1_0, .int .i64 a1_1, .int .i64 a1_2, .int .i64 a1_3, .int .i64 a1_4, .string a1_5, .int .i64 a1_6, .int .i64 a1_7, .int .i64 a1_8, .int .i64 a1_9, .string a1_10] 28 (0, 0)) (bk_ BK101.out) hb); have n1_ := Aside0.mk (below_step (bl_ HB.out) hb); clear BK101 HB; have BK101 := n0_; have HB := n1_; clear n0_ n1_; (try clear hb); (try clear hb2); (try clear hk); (try clear hi)))
   go_meet
   case rel => exact ⟨_, (!t103), (by first | rfl | (simp; done) | (simp [*]; done)), H', ⟨by first | omega | exact Nat.le_refl _⟩, ⟨by (with_reducible repeat (first | refine blk_drewN ?_ _ | refine blk_drew ?_ | refine blk_alloc ?_ _)); exact BK101.out⟩, ⟨by repeat (first | (with_reducible first | exact HB.out | apply below_alloc | apply pw_below_drewN | apply below_drew1 | refine below_set ?_ GE101.out) | exact HB.out)⟩⟩
  ·replace c6 := Bool.eq_false_iff.mpr c6
   subst c6
   have H1 : (mail_Send.j0 k l0 true a1_0 a1_1 a1_2 a1_3 a1_4 a1_5 a1_6 a1_7 a1_8 a1_9 a1_10) = some (r1, r2) := by rw [if_neg (show ¬ (false = true) by decide)] at H; exact H
   clear H
   have H := H1
   clear H1
   have H' := Aside0.mk H
   clear H
   have hcz12_0 : w4.cell? ⟨gb101, 0, none⟩ = some (.string a1_0) := (blk_cell BK101.out 0).trans rfl
   have hcz12_1 : w4.cell? ⟨gb101, 1, none⟩ = some (.int .i64 a1_1) := (blk_cell BK101.out 1).trans rfl
   have hcz12_2 : w4.cell? ⟨gb101, 2, none⟩ = some (.int .i64 a1_2) := (blk_cell BK101.out 2).trans rfl
   have hcz12_3 : w4.cell? ⟨gb101, 3, none⟩ = some (.int .i64 a1_3) := (blk_cell BK101.out 3).trans rfl
   have hcz12_4 : w4.cell? ⟨gb101, 4, none⟩ = some (.int .i64 a1_4) := (blk_cell BK101.out 4).trans rfl
   have hcz12_5 : w4.cell? ⟨gb101, 5, none⟩ = some (.string a1_5) := (blk_cell BK101.out 5).trans rfl
   have hcz12_6 : w4.cell? ⟨gb101, 6, none⟩ = some (.int .i64 a1_6) := (blk_cell BK101.out 6).trans rfl
   have hcz12_7 : w4.cell? ⟨gb101, 7, none⟩ = some (.int .i64 a1_7) := (blk_cell BK101.out 7).trans rfl
   have hcz12_8 : w4.cell? ⟨gb101, 8, none⟩ = some (.int .i64 a1_8) := (blk_cell BK101.out 8).trans rfl
   have hcz12_9 : w4.cell? ⟨gb101, 9, none⟩ = some (.int .i64 a1_9) := (blk_cell BK101.out 9).trans rfl
   have hcz12_10 : w4.cell? ⟨gb101, 10, none⟩ = some (.string a1_10) := (blk_cell BK101.out 10).trans rfl
   have hfz12_0 := blk_frozen BK101.out 0
   have hfz12_1 := blk_frozen BK101.out 1
   have hfz12_2 := blk_frozen BK101.out 2
   have hfz12_3 := blk_frozen BK101.out 3
   have hfz12_4 := blk_frozen BK101.out 4
   have hfz12_5 := blk_frozen BK101.out 5
   have hfz12_6 := blk_frozen BK101.out 6
   have hfz12_7 := blk_frozen BK101.out 7
   have hfz12_8 := blk_frozen BK101.out 8
   have hfz12_9 := blk_frozen BK101.out 9
   have hfz12_10 := blk_frozen BK101.out 10
   go_wp2_with (first | ((with_reducible refine gate_callee (f := 26) rfl ?_); refine goesL_ (some 13) rfl rfl Try.func26 (by kernel_rfl) rfl #[.string a1_0] rfl (by (try simp only [List.map_toArray, List.map_cons, List.map_nil]); first | done | rfl | (simp only [List.length_drop, List.length_take]; rfl)) ?_; (with_reducible refine (path_Name.calls a1_0 false _ A5.out).mono ?_); rintro e w13 ⟨rfl, hb⟩; refine ⟨_, rfl, ?_⟩; have n0_ := Aside0.mk (blk_below (g := gb101) (o := .cells #[.string a1_0, .int .i64 a1_1, .int .i64 a1_2, .int .i64 a1_3, .int .i64 a1_4, .string a1_5, .int .i64 a1_6, .int .i64 a1_7, .int .i64 a1_8, .int .i64 a1_9, .string a1_10] 28 (0, 0)) (bk_ BK101.out) hb); have n1_ := Aside0.mk (below_step (bl_ HB.out) hb); clear BK101 HB; have BK101 := n0_; have HB := n1_; clear n0_ n1_; (try clear hb); (try clear hb2); (try clear hk); (try clear hi)))
   go_meet
   case rel => exact ⟨_, (true), (by first | rfl | (simp; done) | (simp [*]; done)), H', ⟨by first | omega | exact Nat.le_refl _⟩, ⟨by (with_reducible repeat (first | refine blk_drewN ?_ _ | refine blk_drew ?_ | refine blk_alloc ?_ _)); exact BK101.out⟩, ⟨by repeat (first | (with_reducible first | exact HB.out | apply below_alloc | apply pw_below_drewN | apply below_drew1 | refine below_set ?_ GE101.out) | exact HB.out)⟩⟩
 case rest =>
  clear HC3
  try clear c1
  try clear c2
  try clear p2
  try clear c6
  try clear c11
  try clear hcz10_0
  try clear hcz10_1
  try clear hcz10_10
  try clear hcz10_2
  try clear hcz10_3
  try clear hcz10_4
  try clear hcz10_5
  try clear hcz10_6
  try clear hcz10_7
  try clear hcz10_8
  try clear hcz10_9
  try clear hcz12_0
  try clear hcz12_1
  try clear hcz12_10
  try clear hcz12_2
  try clear hcz12_3
  try clear hcz12_4
  try clear hcz12_5
  try clear hcz12_6
  try clear hcz12_7
  try clear hcz12_8
  try clear hcz12_9
  try clear hcz8_0
  try clear hcz8_1
  try clear hcz8_10
  try clear hcz8_2
  try clear hcz8_3
  try clear hcz8_4
  try clear hcz8_5
  try clear hcz8_6
  try clear hcz8_7
  try clear hcz8_8
  try clear hcz8_9
  try clear hfz10_0
  try clear hfz10_1
  try clear hfz10_10
  try clear hfz10_2
  try clear hfz10_3
  try clear hfz10_4
  try clear hfz10_5
  try clear hfz10_6
  try clear hfz10_7
  try clear hfz10_8
  try clear hfz10_9
  try clear hfz12_0
  try clear hfz12_1
  try clear hfz12_10
  try clear hfz12_2
  try clear hfz12_3
  try clear hfz12_4
  try clear hfz12_5
  try clear hfz12_6
  try clear hfz12_7
  try clear hfz12_8
  try clear hfz12_9
  try clear hfz8_0
  try clear hfz8_1
  try clear hfz8_10
  try clear hfz8_2
  try clear hfz8_3
  try clear hfz8_4
  try clear hfz8_5
  try clear hfz8_6
  try clear hfz8_7
  try clear hfz8_8
  try clear hfz8_9
  obtain ⟨kq, x20_2, rfl, HA, HJ2, BK101, HB⟩ := hcut
  cases kq with
  | zero => exact absurd HA.out (by simp [mail_Send.j0])
  | succ kj2 =>
   have H := HA.out
   clear HA
   simp only [mail_Send.j0] at H
   by_cases c14 : x20_2 = true
   ·subst c14
    have H1 : (some (0, 1)) = some (r1, r2) := by rw [if_pos rfl] at H; exact H
    clear H
    have H := H1
    clear H1
    simp only [Option.some.injEq, Prod.mk.injEq] at H
    obtain ⟨rfl, rfl⟩ := H
    go_wp2
    go_ret2
    exact ⟨by first | rfl | (simp [errW_none, errW_some] <;> rfl) | (simp [*, errW_none, errW_some] <;> rfl), by repeat (first | (with_reducible first | exact HB.out | apply below_alloc | apply pw_below_drewN | apply below_drew1 | refine below_set ?_ GE101.out) | exact HB.out)⟩
   ·replace c14 := Bool.eq_false_iff.mpr c14
    subst c14
    have H1 : ((some (([(⟨a1_1, a1_2, a1_3, a1_4⟩ : S26), (⟨a1_6, a1_7, a1_8, a1_9⟩ : S26)] : List (S26)) : List (S26))).bind fun y104 => (mail_Send.l0 kj2 l0 y104 (y104.length : Int) 0 a1_0 a1_1 a1_2 a1_3 a1_4 a1_5 a1_6 a1_7 a1_8 a1_9 a1_10)) = some (r1, r2) := by rw [if_neg (show ¬ (false = true) by decide)] at H; exact H
    clear H
    have H := H1
    clear H1
    obtain ⟨y104, hy104⟩ : ∃ y_ : List (S26), y_ = (([(⟨a1_1, a1_2, a1_3, a1_4⟩ : S26), (⟨a1_6, a1_7, a1_8, a1_9⟩ : S26)] : List (S26))) := ⟨_, rfl⟩
    replace H : (mail_Send.l0 kj2 l0 y104 (y104.length : Int) 0 a1_0 a1_1 a1_2 a1_3 a1_4 a1_5 a1_6 a1_7 a1_8 a1_9 a1_10) = some (r1, r2) := by first | (rw [hy104]; with_reducible exact H) | (have H2_ := (Option.bind_some _ _).symm.trans H; rw [hy104]; with_reducible exact H2_) | (have H2_ := (Option.bind_some _ _).symm.trans H; with_reducible exact H2_) | with_reducible exact H | (rw [hy104]; exact H) | exact H
    have Ny104 := Aside0.mk hy104
    clear hy104
    have H' := Aside0.mk H
    clear H
    have hcz15_0 : wc.cell? ⟨gb101, 0, none⟩ = some (.string a1_0) := (blk_cell BK101.out 0).trans rfl
    have hcz15_1 : wc.cell? ⟨gb101, 1, none⟩ = some (.int .i64 a1_1) := (blk_cell BK101.out 1).trans rfl
    have hcz15_2 : wc.cell? ⟨gb101, 2, none⟩ = some (.int .i64 a1_2) := (blk_cell BK101.out 2).trans rfl
    have hcz15_3 : wc.cell? ⟨gb101, 3, none⟩ = some (.int .i64 a1_3) := (blk_cell BK101.out 3).trans rfl
    have hcz15_4 : wc.cell? ⟨gb101, 4, none⟩ = some (.int .i64 a1_4) := (blk_cell BK101.out 4).trans rfl
    have hcz15_5 : wc.cell? ⟨gb101, 5, none⟩ = some (.string a1_5) := (blk_cell BK101.out 5).trans rfl
    have hcz15_6 : wc.cell? ⟨gb101, 6, none⟩ = some (.int .i64 a1_6) := (blk_cell BK101.out 6).trans rfl
    have hcz15_7 : wc.cell? ⟨gb101, 7, none⟩ = some (.int .i64 a1_7) := (blk_cell BK101.out 7).trans rfl
    have hcz15_8 : wc.cell? ⟨gb101, 8, none⟩ = some (.int .i64 a1_8) := (blk_cell BK101.out 8).trans rfl
    have hcz15_9 : wc.cell? ⟨gb101, 9, none⟩ = some (.int .i64 a1_9) := (blk_cell BK101.out 9).trans rfl
    have hcz15_10 : wc.cell? ⟨gb101, 10, none⟩ = some (.string a1_10) := (blk_cell BK101.out 10).trans rfl
    have hfz15_0 := blk_frozen BK101.out 0
    have hfz15_1 := blk_frozen BK101.out 1
    have hfz15_2 := blk_frozen BK101.out 2
    have hfz15_3 := blk_frozen BK101.out 3
    have hfz15_4 := blk_frozen BK101.out 4
    have hfz15_5 := blk_frozen BK101.out 5
    have hfz15_6 := blk_frozen BK101.out 6
    have hfz15_7 := blk_frozen BK101.out 7
    have hfz15_8 := blk_frozen BK101.out 8
    have hfz15_9 := blk_frozen BK101.out 9
    have hfz15_10 := blk_frozen BK101.out 10
    go_wp2_with (first | ((with_reducible refine gate_dst (N := 25) rfl ?_); refine Kd.R_lit k26 _ 26 ?hg (N := 25) ?hd (xs := ([(⟨a1_1, a1_2, a1_3, a1_4⟩ : S26), (⟨a1_6, a1_7, a1_8, a1_9⟩ : S26)] : List (S26))) (inner := [.int .i64 a1_1, .int .i64 a1_2, .int .i64 a1_3, .int .i64 a1_4, .int .i64 a1_6, .int .i64 a1_7, .int .i64 a1_8, .int .i64 a1_9]) (ok := fun _ => True) (okp := fun _ => True) ?hr ?hp (fun _ hk => hk) trivial (Below.refl _ _) (Nat.le_refl _) (by simp) ?_; (case hd => rfl); (case hg => rfl); (case hr => first | (go_simp; done) | (go_simp; rfl)); (case hp => exact (Reps.c4 (show Kd.M k26 _ _ _ (⟨a1_1, a1_2, a1_3, a1_4⟩ : S26) [.int .i64 a1_1, .int .i64 a1_2, .int .i64 a1_3, .int .i64 a1_4] from (k26_mkM _ _ _ (⟨a1_1, a1_2, a1_3, a1_4⟩ : S26) )) (Reps.c4 (show Kd.M k26 _ _ _ (⟨a1_6, a1_7, a1_8, a1_9⟩ : S26) [.int .i64 a1_6, .int .i64 a1_7, .int .i64 a1_8, .int .i64 a1_9] from (k26_mkM _ _ _ (⟨a1_6, a1_7, a1_8, a1_9⟩ : S26) )) (Reps.none _ _)))); intro v105 w16 ho17 hb hg_ hnew_; clear hg_ hnew_; (first | rw [← Ny104.out] at ho17 | (simp only [Int.reduceToNat] at ho17; rw [← Ny104.out] at ho17)); have n0_ := Aside0.mk (Kd.R_lower ho17 (below_size (bl_ HB.out))); have n1_ := Aside0.mk (blk_below (g := gb101) (o := .cells #[.string a1_0, .int .i64 a1_1, .int .i64 a1_2, .int .i64 a1_3, .int .i64 a1_4, .string a1_5, .int .i64 a1_6, .int .i64 a1_7, .int .i64 a1_8, .int .i64 a1_9, .string a1_10] 28 (0, 0)) (bk_ BK101.out) hb); have n2_ := Aside0.mk (below_step (bl_ HB.out) hb); clear BK101 HB; have HO106 := n0_; have BK101 := n1_; have HB := n2_; clear n0_ n1_ n2_; clear hb ho17; obtain ⟨Ao18, co18, eo18⟩ := Kd.R_slice HO106.out; subst eo18))
    go_loopg [27] kj2 (fun kq v27 w' => ∃ (x27_2 : Int), v27 = .int .i64 x27_2 ∧ Aside0 (mail_Send.l0 kq l0 y104 (y104.length : Int) x27_2 a1_0 a1_1 a1_2 a1_3 a1_4 a1_5 a1_6 a1_7 a1_8 a1_9 a1_10 = some (r1, r2)) ∧ Aside0 (kq ≤ kj2) ∧ Aside0 (Kd.R k26 26 w' w.heap.size (fun _ => True) (.slice Ao18 y104.length co18) y104) ∧ Aside0 (w'.heap[gb101]? = some (.cells #[.string a1_0, .int .i64 a1_1, .int .i64 a1_2, .int .i64 a1_3, .int .i64 a1_4, .string a1_5, .int .i64 a1_6, .int .i64 a1_7, .int .i64 a1_8, .int .i64 a1_9, .string a1_10] 28 (0, 0))) ∧ Aside0 (Below w.heap.size w w'))
    case atStart => exact ⟨(0), (by first | rfl | (simp; done) | (simp [*]; done)), H', ⟨Nat.le_refl _⟩, ⟨by (with_reducible repeat (first | apply Kd.R_alloc | apply Kd.R_drewN | apply Kd.R_drew)); exact HO106.out⟩, ⟨by (with_reducible repeat (first | refine blk_drewN ?_ _ | refine blk_drew ?_ | refine blk_alloc ?_ _)); exact BK101.out⟩, ⟨by repeat (first | (with_reducible first | exact HB.out | apply below_alloc | apply pw_below_drewN | apply below_drew1 | refine below_set ?_ GE101.out) | exact HB.out)⟩⟩
    case round =>
     clear H'
     try clear c1
     try clear c2
     try clear p2
     try clear c4
     try clear c6
     try clear c11
     try clear c14
     try clear hcz10_0
     try clear hcz10_1
     try clear hcz10_10
     try clear hcz10_2
     try clear hcz10_3
     try clear hcz10_4
     try clear hcz10_5
     try clear hcz10_6
     try clear hcz10_7
     try clear hcz10_8
     try clear hcz10_9
     try clear hcz12_0
     try clear hcz12_1
     try clear hcz12_10
     try clear hcz12_2
     try clear hcz12_3
     try clear hcz12_4
     try clear hcz12_5
     try clear hcz12_6
     try clear hcz12_7
     try clear hcz12_8
     try clear hcz12_9
     try clear hcz15_0
     try clear hcz15_1
     try clear hcz15_10
     try clear hcz15_2
     try clear hcz15_3
     try clear hcz15_4
     try clear hcz15_5
     try clear hcz15_6
     try clear hcz15_7
     try clear hcz15_8
     try clear hcz15_9
     try clear hcz8_0
     try clear hcz8_1
     try clear hcz8_10
     try clear hcz8_2
     try clear hcz8_3
     try clear hcz8_4
     try clear hcz8_5
     try clear hcz8_6
     try clear hcz8_7
     try clear hcz8_8
     try clear hcz8_9
     try clear hfz10_0
     try clear hfz10_1
     try clear hfz10_10
     try clear hfz10_2
     try clear hfz10_3
     try clear hfz10_4
     try clear hfz10_5
     try clear hfz10_6
     try clear hfz10_7
     try clear hfz10_8
     try clear hfz10_9
     try clear hfz12_0
     try clear hfz12_1
     try clear hfz12_10
     try clear hfz12_2
     try clear hfz12_3
     try clear hfz12_4
     try clear hfz12_5
     try clear hfz12_6
     try clear hfz12_7
     try clear hfz12_8
     try clear hfz12_9
     try clear hfz15_0
     try clear hfz15_1
     try clear hfz15_10
     try clear hfz15_2
     try clear hfz15_3
     try clear hfz15_4
     try clear hfz15_5
     try clear hfz15_6
     try clear hfz15_7
     try clear hfz15_8
     try clear hfz15_9
     try clear hfz8_0
     try clear hfz8_1
     try clear hfz8_10
     try clear hfz8_2
     try clear hfz8_3
     try clear hfz8_4
     try clear hfz8_5
     try clear hfz8_6
     try clear hfz8_7
     try clear hfz8_8
     try clear hfz8_9
     try clear p2
     obtain ⟨x27_2, rfl, HA, HK2, HO_25, BK101, HB⟩ := hrel
     cases gk with
     | zero => exact absurd HA.out (by simp [mail_Send.l0])
     | succ k2 =>
      have H := HA.out
      clear HA
      simp only [mail_Send.l0] at H
      by_cases c19 : x27_2 < (y104.length : Int)
      ·rw [if_pos c19] at H
       have c19b0 : decide (x27_2 < (y104.length : Int)) = true := decide_eq_true c19
       clear c19
       by_cases c20 : 0 ≤ x27_2
       ·rw [if_pos c20] at H
        have c20b0 : decide (0 ≤ x27_2) = true := decide_eq_true c20
        clear c20
        by_cases c21 : x27_2 < (y104.length : Int)
        ·rw [if_pos c21] at H
         have c21b0 : decide (x27_2 < (y104.length : Int)) = true := decide_eq_true c21
         clear c21
         replace H := Option.bind_eq_some_iff.mp H
         obtain ⟨t109, A220, H⟩ := H
         replace H : (if t109 = 0 then (mail_Send.l0 k2 l0 y104 (y104.length : Int) (wrap64 (x27_2 + 1)) a1_0 a1_1 a1_2 a1_3 a1_4 a1_5 a1_6 a1_7 a1_8 a1_9 a1_10) else (some (0, t109))) = some (r1, r2) := H
         have A22 := Aside0.mk A220
         clear A220
         by_cases c23 : t109 = 0
         ·rw [if_pos c23] at H
          have c23b0 : (t109 == 0) = true := beq_iff_eq.mpr c23
          have c23b1 : (t109 != 0) = false := bne_eq_false_iff_eq.mpr c23
          clear c23
          have H' := Aside0.mk H
          clear H
          have p107 : 0 ≤ (x27_2 : Int) := of_decide_eq_true (by first | (with_reducible assumption) | assumption)
          have q107 : x27_2 < (y104.length : Int) := of_decide_eq_true (by first | (with_reducible assumption) | assumption)
          obtain ⟨ad107, e107, hx107_0, hx107_1, hx107_2, hx107_3⟩ := at_T26 (Kd.R_reads' HO_25.out).2.2 x27_2 p107 q107
          cases e107
          replace p107 := eq_true p107
          replace q107 := eq_true q107
          go_wp2_with (first | ((with_reducible refine gate_dst (N := 7) rfl ?_); refine box_event ?hg (N := 7) ?hd (cs := #[.int .i64 0, .int .i64 0, .int .i64 0, .int .i64 0]) (t := 26) ?hr ?_; (case hd => rfl); (case hg => rfl); (case hr => first | (go_simp; done) | (go_simp; rfl)); intro gb108 hg w24 hbox hb; have n0_ := Aside0.mk (Kd.R_below (Kd.R_elderB (kr_ HO_25.out) gb108 (Nat.le_of_eq hg.symm)) hb); have n1_ := Aside0.mk (blk_below (g := gb101) (o := .cells #[.string a1_0, .int .i64 a1_1, .int .i64 a1_2, .int .i64 a1_3, .int .i64 a1_4, .string a1_5, .int .i64 a1_6, .int .i64 a1_7, .int .i64 a1_8, .int .i64 a1_9, .string a1_10] 28 (0, 0)) (bk_ BK101.out) hb); have n2_ := Aside0.mk (below_step (bl_ HB.out) hb); have n3_ := Aside0.mk (hbox); have n4_ := Aside0.mk ((by rw [hg]; exact (below_size (bl_ HB.out)) : w.heap.size ≤ gb108)); have n5_ := Aside0.mk ((by rw [hg]; exact (below_size (bl_ HB.out)) : w.heap.size ≤ gb108)); have n6_ := Aside0.mk ((by rw [hg]; exact Nat.ne_of_lt (blk_lt (g := gb101) (o := .cells #[.string a1_0, .int .i64 a1_1, .int .i64 a1_2, .int .i64 a1_3, .int .i64 a1_4, .string a1_5, .int .i64 a1_6, .int .i64 a1_7, .int .i64 a1_8, .int .i64 a1_9, .string a1_10] 28 (0, 0)) (bk_ BK101.out)) : gb101 ≠ gb108)); have n7_ := Aside0.mk ((by rw [hg]; exact Nat.ne_of_gt (blk_lt (g := gb101) (o := .cells #[.string a1_0, .int .i64 a1_1, .int .i64 a1_2, .int .i64 a1_3, .int .i64 a1_4, .string a1_5, .int .i64 a1_6, .int .i64 a1_7, .int .i64 a1_8, .int .i64 a1_9, .string a1_10] 28 (0, 0)) (bk_ BK101.out)) : gb108 ≠ gb101)); clear HO_25 BK101 HB; have HO_25 := n0_; have BK101 := n1_; have HB := n2_; have BK108 := n3_; have GW108 := n4_; have GE108 := n5_; have NB101_108 := n6_; have NB108_101 := n7_; clear n0_ n1_ n2_ n3_ n4_ n5_ n6_ n7_; clear hb hbox hg; have hnb25 := NB108_101.out; have hnc25 := NB101_108.out; have hcz26_0 : w24.cell? ⟨gb108, 0, none⟩ = some (.int .i64 0) := (blk_cell BK108.out 0).trans rfl; have hcz26_1 : w24.cell? ⟨gb108, 1, none⟩ = some (.int .i64 0) := (blk_cell BK108.out 1).trans rfl; have hcz26_2 : w24.cell? ⟨gb108, 2, none⟩ = some (.int .i64 0) := (blk_cell BK108.out 2).trans rfl; have hcz26_3 : w24.cell? ⟨gb108, 3, none⟩ = some (.int .i64 0) := (blk_cell BK108.out 3).trans rfl; have hfz26_0 := blk_frozen BK108.out 0; have hfz26_1 := blk_frozen BK108.out 1; have hfz26_2 := blk_frozen BK108.out 2; have hfz26_3 := blk_frozen BK108.out 3) | ((with_reducible refine gate_callee (f := 27) rfl ?_); refine goesL_ (some 32) rfl rfl Try.func27 (by kernel_rfl) rfl #[.agg #[.int .i64 ((rd_T26 y104 x27_2).f0), .int .i64 ((rd_T26 y104 x27_2).f1), .int .i64 ((rd_T26 y104 x27_2).f2), .int .i64 ((rd_T26 y104 x27_2).f3)]] rfl (by (try simp only [List.map_toArray, List.map_cons, List.map_nil]); first | done | rfl | (simp only [List.length_drop, List.length_take]; rfl)) ?_; (with_reducible refine (label_Check.calls ((rd_T26 y104 x27_2).f0) ((rd_T26 y104 x27_2).f1) ((rd_T26 y104 x27_2).f2) ((rd_T26 y104 x27_2).f3) t109 _ A22.out).mono ?_); rintro e w27 ⟨rfl, hb⟩; refine ⟨_, rfl, ?_⟩; have n0_ := Aside0.mk (Kd.R_below (by (with_reducible repeat (first | apply Kd.R_alloc | apply Kd.R_drewN | apply Kd.R_drew)); exact (Kd.R_mono (Kd.R_far (p := ⟨gb108, 3, none⟩) (Kd.R_far (p := ⟨gb108, 2, none⟩) (Kd.R_far (p := ⟨gb108, 1, none⟩) (Kd.R_far (p := ⟨gb108, 0, none⟩) (Kd.R_mono HO_25.out (fun k_ hk => (⟨hk, hk.2⟩ : _ ∧ k_ ≠ gb108))) (fun _ hk => hk.2) (.int .i64 ((rd_T26 y104 x27_2).f0))) (fun _ hk => hk.2) (.int .i64 ((rd_T26 y104 x27_2).f1))) (fun _ hk => hk.2) (.int .i64 ((rd_T26 y104 x27_2).f2))) (fun _ hk => hk.2) (.int .i64 ((rd_T26 y104 x27_2).f3))) (fun _ h_ => h_.1))) hb); have n1_ := Aside0.mk (blk_below (g := gb101) (o := .cells #[.string a1_0, .int .i64 a1_1, .int .i64 a1_2, .int .i64 a1_3, .int .i64 a1_4, .string a1_5, .int .i64 a1_6, .int .i64 a1_7, .int .i64 a1_8, .int .i64 a1_9, .string a1_10] 28 (0, 0)) (by (iterate 4 ((with_reducible repeat (first | refine blk_drewN ?_ _ | refine blk_drew ?_ | refine blk_alloc ?_ _)); refine blk_far ?_ NB101_108.out _)); (with_reducible repeat (first | refine blk_drewN ?_ _ | refine blk_drew ?_ | refine blk_alloc ?_ _)); exact BK101.out) hb); have n2_ := Aside0.mk (blk_below (g := gb108) (o := .cells #[.int .i64 ((rd_T26 y104 x27_2).f0), .int .i64 ((rd_T26 y104 x27_2).f1), .int .i64 ((rd_T26 y104 x27_2).f2), .int .i64 ((rd_T26 y104 x27_2).f3)] 26 (0, 0)) (by (with_reducible repeat (first | refine blk_drewN ?_ _ | refine blk_drew ?_ | refine blk_alloc ?_ _)); refine blk_put (cs := #[.int .i64 ((rd_T26 y104 x27_2).f0), .int .i64 ((rd_T26 y104 x27_2).f1), .int .i64 ((rd_T26 y104 x27_2).f2), .int .i64 0]) ?_ 3 _ rfl; (with_reducible repeat (first | refine blk_drewN ?_ _ | refine blk_drew ?_ | refine blk_alloc ?_ _)); refine blk_put (cs := #[.int .i64 ((rd_T26 y104 x27_2).f0), .int .i64 ((rd_T26 y104 x27_2).f1), .int .i64 0, .int .i64 0]) ?_ 2 _ rfl; (with_reducible repeat (first | refine blk_drewN ?_ _ | refine blk_drew ?_ | refine blk_alloc ?_ _)); refine blk_put (cs := #[.int .i64 ((rd_T26 y104 x27_2).f0), .int .i64 0, .int .i64 0, .int .i64 0]) ?_ 1 _ rfl; (with_reducible repeat (first | refine blk_drewN ?_ _ | refine blk_drew ?_ | refine blk_alloc ?_ _)); refine blk_put (cs := #[.int .i64 0, .int .i64 0, .int .i64 0, .int .i64 0]) ?_ 0 _ rfl; (with_reducible repeat (first | refine blk_drewN ?_ _ | refine blk_drew ?_ | refine blk_alloc ?_ _)); exact BK108.out) hb); have n3_ := Aside0.mk (below_step (bl_ HB.out) hb); clear HO_25 BK101 BK108 HB; have HO_25 := n0_; have BK101 := n1_; have BK108 := n2_; have HB := n3_; clear n0_ n1_ n2_ n3_; (try clear hb); (try clear hb2); (try clear hk); (try clear hi)))
          go_roundg k2
          case measure => have := HJ2.out; have := HK2.out; omega
          case rel => exact ⟨(wrap64 (x27_2 + 1)), (by first | rfl | (simp; done) | (simp [*]; done)), H', ⟨by have := HJ2.out; have := HK2.out; omega⟩, ⟨by (with_reducible repeat (first | apply Kd.R_alloc | apply Kd.R_drewN | apply Kd.R_drew)); exact Kd.R_mono HO_25.out (fun _ hk => trivial)⟩, ⟨by (with_reducible repeat (first | refine blk_drewN ?_ _ | refine blk_drew ?_ | refine blk_alloc ?_ _)); exact BK101.out⟩, ⟨by repeat (first | (with_reducible first | exact HB.out | apply below_alloc | apply pw_below_drewN | apply below_drew1 | refine below_set ?_ GE101.out | refine below_set ?_ GE108.out) | exact HB.out)⟩⟩
         ·rw [if_neg c23] at H
          have c23b0 : (t109 == 0) = false := beq_eq_false_iff_ne.mpr c23
          have c23b1 : (t109 != 0) = true := bne_iff_ne.mpr c23
          simp only [Option.some.injEq, Prod.mk.injEq] at H
          obtain ⟨rfl, rfl⟩ := H
          have p107 : 0 ≤ (x27_2 : Int) := of_decide_eq_true (by first | (with_reducible assumption) | assumption)
          have q107 : x27_2 < (y104.length : Int) := of_decide_eq_true (by first | (with_reducible assumption) | assumption)
          obtain ⟨ad107, e107, hx107_0, hx107_1, hx107_2, hx107_3⟩ := at_T26 (Kd.R_reads' HO_25.out).2.2 x27_2 p107 q107
          cases e107
          replace p107 := eq_true p107
          replace q107 := eq_true q107
          go_wp2_with (first | ((with_reducible refine gate_dst (N := 7) rfl ?_); refine box_event ?hg (N := 7) ?hd (cs := #[.int .i64 0, .int .i64 0, .int .i64 0, .int .i64 0]) (t := 26) ?hr ?_; (case hd => rfl); (case hg => rfl); (case hr => first | (go_simp; done) | (go_simp; rfl)); intro gb108 hg w28 hbox hb; have n0_ := Aside0.mk (Kd.R_below (Kd.R_elderB (kr_ HO_25.out) gb108 (Nat.le_of_eq hg.symm)) hb); have n1_ := Aside0.mk (blk_below (g := gb101) (o := .cells #[.string a1_0, .int .i64 a1_1, .int .i64 a1_2, .int .i64 a1_3, .int .i64 a1_4, .string a1_5, .int .i64 a1_6, .int .i64 a1_7, .int .i64 a1_8, .int .i64 a1_9, .string a1_10] 28 (0, 0)) (bk_ BK101.out) hb); have n2_ := Aside0.mk (below_step (bl_ HB.out) hb); have n3_ := Aside0.mk (hbox); have n4_ := Aside0.mk ((by rw [hg]; exact (below_size (bl_ HB.out)) : w.heap.size ≤ gb108)); have n5_ := Aside0.mk ((by rw [hg]; exact (below_size (bl_ HB.out)) : w.heap.size ≤ gb108)); have n6_ := Aside0.mk ((by rw [hg]; exact Nat.ne_of_lt (blk_lt (g := gb101) (o := .cells #[.string a1_0, .int .i64 a1_1, .int .i64 a1_2, .int .i64 a1_3, .int .i64 a1_4, .string a1_5, .int .i64 a1_6, .int .i64 a1_7, .int .i64 a1_8, .int .i64 a1_9, .string a1_10] 28 (0, 0)) (bk_ BK101.out)) : gb101 ≠ gb108)); have n7_ := Aside0.mk ((by rw [hg]; exact Nat.ne_of_gt (blk_lt (g := gb101) (o := .cells #[.string a1_0, .int .i64 a1_1, .int .i64 a1_2, .int .i64 a1_3, .int .i64 a1_4, .string a1_5, .int .i64 a1_6, .int .i64 a1_7, .int .i64 a1_8, .int .i64 a1_9, .string a1_10] 28 (0, 0)) (bk_ BK101.out)) : gb108 ≠ gb101)); clear HO_25 BK101 HB; have HO_25 := n0_; have BK101 := n1_; have HB := n2_; have BK108 := n3_; have GW108 := n4_; have GE108 := n5_; have NB101_108 := n6_; have NB108_101 := n7_; clear n0_ n1_ n2_ n3_ n4_ n5_ n6_ n7_; clear hb hbox hg; have hnb29 := NB108_101.out; have hnc29 := NB101_108.out; have hcz30_0 : w28.cell? ⟨gb108, 0, none⟩ = some (.int .i64 0) := (blk_cell BK108.out 0).trans rfl; have hcz30_1 : w28.cell? ⟨gb108, 1, none⟩ = some (.int .i64 0) := (blk_cell BK108.out 1).trans rfl; have hcz30_2 : w28.cell? ⟨gb108, 2, none⟩ = some (.int .i64 0) := (blk_cell BK108.out 2).trans rfl; have hcz30_3 : w28.cell? ⟨gb108, 3, none⟩ = some (.int .i64 0) := (blk_cell BK108.out 3).trans rfl; have hfz30_0 := blk_frozen BK108.out 0; have hfz30_1 := blk_frozen BK108.out 1; have hfz30_2 := blk_frozen BK108.out 2; have hfz30_3 := blk_frozen BK108.out 3) | ((with_reducible refine gate_callee (f := 27) rfl ?_); refine goesL_ (some 32) rfl rfl Try.func27 (by kernel_rfl) rfl #[.agg #[.int .i64 ((rd_T26 y104 x27_2).f0), .int .i64 ((rd_T26 y104 x27_2).f1), .int .i64 ((rd_T26 y104 x27_2).f2), .int .i64 ((rd_T26 y104 x27_2).f3)]] rfl (by (try simp only [List.map_toArray, List.map_cons, List.map_nil]); first | done | rfl | (simp only [List.length_drop, List.length_take]; rfl)) ?_; (with_reducible refine (label_Check.calls ((rd_T26 y104 x27_2).f0) ((rd_T26 y104 x27_2).f1) ((rd_T26 y104 x27_2).f2) ((rd_T26 y104 x27_2).f3) t109 _ A22.out).mono ?_); rintro e w31 ⟨rfl, hb⟩; refine ⟨_, rfl, ?_⟩; have n0_ := Aside0.mk (Kd.R_below (by (with_reducible repeat (first | apply Kd.R_alloc | apply Kd.R_drewN | apply Kd.R_drew)); exact (Kd.R_mono (Kd.R_far (p := ⟨gb108, 3, none⟩) (Kd.R_far (p := ⟨gb108, 2, none⟩) (Kd.R_far (p := ⟨gb108, 1, none⟩) (Kd.R_far (p := ⟨gb108, 0, none⟩) (Kd.R_mono HO_25.out (fun k_ hk => (⟨hk, hk.2⟩ : _ ∧ k_ ≠ gb108))) (fun _ hk => hk.2) (.int .i64 ((rd_T26 y104 x27_2).f0))) (fun _ hk => hk.2) (.int .i64 ((rd_T26 y104 x27_2).f1))) (fun _ hk => hk.2) (.int .i64 ((rd_T26 y104 x27_2).f2))) (fun _ hk => hk.2) (.int .i64 ((rd_T26 y104 x27_2).f3))) (fun _ h_ => h_.1))) hb); have n1_ := Aside0.mk (blk_below (g := gb101) (o := .cells #[.string a1_0, .int .i64 a1_1, .int .i64 a1_2, .int .i64 a1_3, .int .i64 a1_4, .string a1_5, .int .i64 a1_6, .int .i64 a1_7, .int .i64 a1_8, .int .i64 a1_9, .string a1_10] 28 (0, 0)) (by (iterate 4 ((with_reducible repeat (first | refine blk_drewN ?_ _ | refine blk_drew ?_ | refine blk_alloc ?_ _)); refine blk_far ?_ NB101_108.out _)); (with_reducible repeat (first | refine blk_drewN ?_ _ | refine blk_drew ?_ | refine blk_alloc ?_ _)); exact BK101.out) hb); have n2_ := Aside0.mk (blk_below (g := gb108) (o := .cells #[.int .i64 ((rd_T26 y104 x27_2).f0), .int .i64 ((rd_T26 y104 x27_2).f1), .int .i64 ((rd_T26 y104 x27_2).f2), .int .i64 ((rd_T26 y104 x27_2).f3)] 26 (0, 0)) (by (with_reducible repeat (first | refine blk_drewN ?_ _ | refine blk_drew ?_ | refine blk_alloc ?_ _)); refine blk_put (cs := #[.int .i64 ((rd_T26 y104 x27_2).f0), .int .i64 ((rd_T26 y104 x27_2).f1), .int .i64 ((rd_T26 y104 x27_2).f2), .int .i64 0]) ?_ 3 _ rfl; (with_reducible repeat (first | refine blk_drewN ?_ _ | refine blk_drew ?_ | refine blk_alloc ?_ _)); refine blk_put (cs := #[.int .i64 ((rd_T26 y104 x27_2).f0), .int .i64 ((rd_T26 y104 x27_2).f1), .int .i64 0, .int .i64 0]) ?_ 2 _ rfl; (with_reducible repeat (first | refine blk_drewN ?_ _ | refine blk_drew ?_ | refine blk_alloc ?_ _)); refine blk_put (cs := #[.int .i64 ((rd_T26 y104 x27_2).f0), .int .i64 0, .int .i64 0, .int .i64 0]) ?_ 1 _ rfl; (with_reducible repeat (first | refine blk_drewN ?_ _ | refine blk_drew ?_ | refine blk_alloc ?_ _)); refine blk_put (cs := #[.int .i64 0, .int .i64 0, .int .i64 0, .int .i64 0]) ?_ 0 _ rfl; (with_reducible repeat (first | refine blk_drewN ?_ _ | refine blk_drew ?_ | refine blk_alloc ?_ _)); exact BK108.out) hb); have n3_ := Aside0.mk (below_step (bl_ HB.out) hb); clear HO_25 BK101 BK108 HB; have HO_25 := n0_; have BK101 := n1_; have BK108 := n2_; have HB := n3_; clear n0_ n1_ n2_ n3_; (try clear hb); (try clear hb2); (try clear hk); (try clear hi)))
          go_ret2
          exact ⟨by first | rfl | (simp [errW_none, errW_some] <;> rfl) | (simp [*, errW_none, errW_some] <;> rfl), by repeat (first | (with_reducible first | exact HB.out | apply below_alloc | apply pw_below_drewN | apply below_drew1 | refine below_set ?_ GE101.out | refine below_set ?_ GE108.out) | exact HB.out)⟩
        ·rw [if_neg c21] at H
         exact absurd H (by simp)
       ·rw [if_neg c20] at H
        exact absurd H (by simp)
      ·rw [if_neg c19] at H
       have c19b0 : decide (x27_2 < (y104.length : Int)) = false := decide_eq_false c19
       clear c19
       replace H := Option.bind_eq_some_iff.mp H
       obtain ⟨⟨t110, t111, t112, t113, t114, t115, t116, t117, t118, t119⟩, A320, H⟩ := H
       replace H : (if (a1_10.size : Int) > 40 then (some (0, 5)) else ((label_Over.f a1_6 a1_7 a1_8 a1_9 a1_1 a1_2 a1_3 a1_4).bind fun t121 => (if t121 = true then (some (1, 0)) else (if t119 = true then (some (2, 0)) else (some (0, 19)))))) = some (r1, r2) := H
       have A32 := Aside0.mk A320
       clear A320
       by_cases c33 : (a1_10.size : Int) > 40
       ·rw [if_pos c33] at H
        have c33b0 : decide (40 < (a1_10.size : Int)) = true := decide_eq_true c33
        have c33b1 : decide (40 < a1_10.size) = true := decide_eq_true (by omega)
        clear c33
        simp only [Option.some.injEq, Prod.mk.injEq] at H
        obtain ⟨rfl, rfl⟩ := H
        have hcz34_0 : wr.cell? ⟨gb101, 0, none⟩ = some (.string a1_0) := (blk_cell BK101.out 0).trans rfl
        have hcz34_1 : wr.cell? ⟨gb101, 1, none⟩ = some (.int .i64 a1_1) := (blk_cell BK101.out 1).trans rfl
        have hcz34_2 : wr.cell? ⟨gb101, 2, none⟩ = some (.int .i64 a1_2) := (blk_cell BK101.out 2).trans rfl
        have hcz34_3 : wr.cell? ⟨gb101, 3, none⟩ = some (.int .i64 a1_3) := (blk_cell BK101.out 3).trans rfl
        have hcz34_4 : wr.cell? ⟨gb101, 4, none⟩ = some (.int .i64 a1_4) := (blk_cell BK101.out 4).trans rfl
        have hcz34_5 : wr.cell? ⟨gb101, 5, none⟩ = some (.string a1_5) := (blk_cell BK101.out 5).trans rfl
        have hcz34_6 : wr.cell? ⟨gb101, 6, none⟩ = some (.int .i64 a1_6) := (blk_cell BK101.out 6).trans rfl
        have hcz34_7 : wr.cell? ⟨gb101, 7, none⟩ = some (.int .i64 a1_7) := (blk_cell BK101.out 7).trans rfl
        have hcz34_8 : wr.cell? ⟨gb101, 8, none⟩ = some (.int .i64 a1_8) := (blk_cell BK101.out 8).trans rfl
        have hcz34_9 : wr.cell? ⟨gb101, 9, none⟩ = some (.int .i64 a1_9) := (blk_cell BK101.out 9).trans rfl
        have hcz34_10 : wr.cell? ⟨gb101, 10, none⟩ = some (.string a1_10) := (blk_cell BK101.out 10).trans rfl
        have hfz34_0 := blk_frozen BK101.out 0
        have hfz34_1 := blk_frozen BK101.out 1
        have hfz34_2 := blk_frozen BK101.out 2
        have hfz34_3 := blk_frozen BK101.out 3
        have hfz34_4 := blk_frozen BK101.out 4
        have hfz34_5 := blk_frozen BK101.out 5
        have hfz34_6 := blk_frozen BK101.out 6
        have hfz34_7 := blk_frozen BK101.out 7
        have hfz34_8 := blk_frozen BK101.out 8
        have hfz34_9 := blk_frozen BK101.out 9
        have hfz34_10 := blk_frozen BK101.out 10
        go_wp2_with (first | ((with_reducible refine gate_callee (f := 19) rfl ?_); refine goesL_ (some 40) rfl rfl Try.func19 (by kernel_rfl) rfl #[.slice A0 l0.length c0, .agg #[.string a1_0, .int .i64 a1_1, .int .i64 a1_2, .int .i64 a1_3, .int .i64 a1_4, .string a1_5, .int .i64 a1_6, .int .i64 a1_7, .int .i64 a1_8, .int .i64 a1_9, .string a1_10]] rfl (by (try simp only [List.map_toArray, List.map_cons, List.map_nil]); first | done | rfl | (simp only [List.length_drop, List.length_take]; rfl)) ?_; (with_reducible refine (mail_Rule.calls k2 _ _ l0 a1_0 a1_1 a1_2 a1_3 a1_4 a1_5 a1_6 a1_7 a1_8 a1_9 a1_10 t110 t111 t112 t113 t114 t115 t116 t117 t118 t119 _ ?side1 ?side2 A32.out).mono ?_); (case side1 => repeat (first | exact (Kd.C_below HR0.out HB.out) | (with_reducible refine Kd.C_alloc ?_ _) | (with_reducible refine Kd.C_drewN ?_ _) | (with_reducible refine Kd.C_drew ?_))); (case side2 => exact HC0.out); rintro e w35 ⟨rfl, hb⟩; refine ⟨_, rfl, ?_⟩; have n0_ := Aside0.mk (Kd.R_below (kr_ HO_25.out) hb); have n1_ := Aside0.mk (blk_below (g := gb101) (o := .cells #[.string a1_0, .int .i64 a1_1, .int .i64 a1_2, .int .i64 a1_3, .int .i64 a1_4, .string a1_5, .int .i64 a1_6, .int .i64 a1_7, .int .i64 a1_8, .int .i64 a1_9, .string a1_10] 28 (0, 0)) (bk_ BK101.out) hb); have n2_ := Aside0.mk (below_step (bl_ HB.out) hb); clear HO_25 BK101 HB; have HO_25 := n0_; have BK101 := n1_; have HB := n2_; clear n0_ n1_ n2_; (try clear hb); (try clear hb2); (try clear hk); (try clear hi)) | ((with_reducible refine gate_dst (N := 9) rfl ?_); refine box_event ?hg (N := 9) ?hd (cs := #[.int .i64 0, .int .i64 0, .int .i64 0, .int .i64 0, .int .i64 0, .int .i64 0, .int .i64 0, .int .i64 0, .string ⟨#[]⟩]) (t := 44) ?hr ?_; (case hd => rfl); (case hg => rfl); (case hr => first | (go_simp; done) | (go_simp; rfl)); intro gb120 hg w36 hbox hb; have n0_ := Aside0.mk (Kd.R_below (kr_ HO_25.out) hb); have n1_ := Aside0.mk (blk_below (g := gb101) (o := .cells #[.string a1_0, .int .i64 a1_1, .int .i64 a1_2, .int .i64 a1_3, .int .i64 a1_4, .string a1_5, .int .i64 a1_6, .int .i64 a1_7, .int .i64 a1_8, .int .i64 a1_9, .string a1_10] 28 (0, 0)) (bk_ BK101.out) hb); have n2_ := Aside0.mk (below_step (bl_ HB.out) hb); have n3_ := Aside0.mk (hbox); have n4_ := Aside0.mk ((by rw [hg]; exact (below_size (bl_ HB.out)) : w.heap.size ≤ gb120)); have n5_ := Aside0.mk ((by rw [hg]; exact (below_size (bl_ HB.out)) : w.heap.size ≤ gb120)); have n6_ := Aside0.mk ((by rw [hg]; exact Nat.ne_of_lt (blk_lt (g := gb101) (o := .cells #[.string a1_0, .int .i64 a1_1, .int .i64 a1_2, .int .i64 a1_3, .int .i64 a1_4, .string a1_5, .int .i64 a1_6, .int .i64 a1_7, .int .i64 a1_8, .int .i64 a1_9, .string a1_10] 28 (0, 0)) (bk_ BK101.out)) : gb101 ≠ gb120)); have n7_ := Aside0.mk ((by rw [hg]; exact Nat.ne_of_gt (blk_lt (g := gb101) (o := .cells #[.string a1_0, .int .i64 a1_1, .int .i64 a1_2, .int .i64 a1_3, .int .i64 a1_4, .string a1_5, .int .i64 a1_6, .int .i64 a1_7, .int .i64 a1_8, .int .i64 a1_9, .string a1_10] 28 (0, 0)) (bk_ BK101.out)) : gb120 ≠ gb101)); clear HO_25 BK101 HB; have HO_25 := n0_; have BK101 := n1_; have HB := n2_; have BK120 := n3_; have GW120 := n4_; have GE120 := n5_; have NB101_120 := n6_; have NB120_101 := n7_; clear n0_ n1_ n2_ n3_ n4_ n5_ n6_ n7_; clear hb hbox hg; have hnb37 := NB120_101.out; have hnc37 := NB101_120.out; have hcz38_0 : w36.cell? ⟨gb120, 0, none⟩ = some (.int .i64 0) := (blk_cell BK120.out 0).trans rfl; have hcz38_1 : w36.cell? ⟨gb120, 1, none⟩ = some (.int .i64 0) := (blk_cell BK120.out 1).trans rfl; have hcz38_2 : w36.cell? ⟨gb120, 2, none⟩ = some (.int .i64 0) := (blk_cell BK120.out 2).trans rfl; have hcz38_3 : w36.cell? ⟨gb120, 3, none⟩ = some (.int .i64 0) := (blk_cell BK120.out 3).trans rfl; have hcz38_4 : w36.cell? ⟨gb120, 4, none⟩ = some (.int .i64 0) := (blk_cell BK120.out 4).trans rfl; have hcz38_5 : w36.cell? ⟨gb120, 5, none⟩ = some (.int .i64 0) := (blk_cell BK120.out 5).trans rfl; have hcz38_6 : w36.cell? ⟨gb120, 6, none⟩ = some (.int .i64 0) := (blk_cell BK120.out 6).trans rfl; have hcz38_7 : w36.cell? ⟨gb120, 7, none⟩ = some (.int .i64 0) := (blk_cell BK120.out 7).trans rfl; have hcz38_8 : w36.cell? ⟨gb120, 8, none⟩ = some (.string ⟨#[]⟩) := (blk_cell BK120.out 8).trans rfl; have hfz38_0 := blk_frozen BK120.out 0; have hfz38_1 := blk_frozen BK120.out 1; have hfz38_2 := blk_frozen BK120.out 2; have hfz38_3 := blk_frozen BK120.out 3; have hfz38_4 := blk_frozen BK120.out 4; have hfz38_5 := blk_frozen BK120.out 5; have hfz38_6 := blk_frozen BK120.out 6; have hfz38_7 := blk_frozen BK120.out 7; have hfz38_8 := blk_frozen BK120.out 8; have hcz39_0 : w36.cell? ⟨gb101, 0, none⟩ = some (.string a1_0) := (blk_cell BK101.out 0).trans rfl; have hcz39_1 : w36.cell? ⟨gb101, 1, none⟩ = some (.int .i64 a1_1) := (blk_cell BK101.out 1).trans rfl; have hcz39_2 : w36.cell? ⟨gb101, 2, none⟩ = some (.int .i64 a1_2) := (blk_cell BK101.out 2).trans rfl; have hcz39_3 : w36.cell? ⟨gb101, 3, none⟩ = some (.int .i64 a1_3) := (blk_cell BK101.out 3).trans rfl; have hcz39_4 : w36.cell? ⟨gb101, 4, none⟩ = some (.int .i64 a1_4) := (blk_cell BK101.out 4).trans rfl; have hcz39_5 : w36.cell? ⟨gb101, 5, none⟩ = some (.string a1_5) := (blk_cell BK101.out 5).trans rfl; have hcz39_6 : w36.cell? ⟨gb101, 6, none⟩ = some (.int .i64 a1_6) := (blk_cell BK101.out 6).trans rfl; have hcz39_7 : w36.cell? ⟨gb101, 7, none⟩ = some (.int .i64 a1_7) := (blk_cell BK101.out 7).trans rfl; have hcz39_8 : w36.cell? ⟨gb101, 8, none⟩ = some (.int .i64 a1_8) := (blk_cell BK101.out 8).trans rfl; have hcz39_9 : w36.cell? ⟨gb101, 9, none⟩ = some (.int .i64 a1_9) := (blk_cell BK101.out 9).trans rfl; have hcz39_10 : w36.cell? ⟨gb101, 10, none⟩ = some (.string a1_10) := (blk_cell BK101.out 10).trans rfl; have hfz39_0 := blk_frozen BK101.out 0; have hfz39_1 := blk_frozen BK101.out 1; have hfz39_2 := blk_frozen BK101.out 2; have hfz39_3 := blk_frozen BK101.out 3; have hfz39_4 := blk_frozen BK101.out 4; have hfz39_5 := blk_frozen BK101.out 5; have hfz39_6 := blk_frozen BK101.out 6; have hfz39_7 := blk_frozen BK101.out 7; have hfz39_8 := blk_frozen BK101.out 8; have hfz39_9 := blk_frozen BK101.out 9; have hfz39_10 := blk_frozen BK101.out 10))
        go_ret2
        exact ⟨by first | rfl | (simp [errW_none, errW_some] <;> rfl) | (simp [*, errW_none, errW_some] <;> rfl), by repeat (first | (with_reducible first | exact HB.out | apply below_alloc | apply pw_below_drewN | apply below_drew1 | refine below_set ?_ GE101.out | refine below_set ?_ GE120.out) | exact HB.out)⟩
       ·rw [if_neg c33] at H
        have c33b0 : decide (40 < (a1_10.size : Int)) = false := decide_eq_false c33
        have c33b1 : decide (40 < a1_10.size) = false := decide_eq_false (by omega)
        clear c33
        replace H := Option.bind_eq_some_iff.mp H
        obtain ⟨t121, A400, H⟩ := H
        replace H : (if t121 = true then (some (1, 0)) else (if t119 = true then (some (2, 0)) else (some (0, 19)))) = some (r1, r2) := H
        have A40 := Aside0.mk A400
        clear A400
        by_cases c41 : t121 = true
        ·subst c41
         have H1 : (some (1, 0)) = some (r1, r2) := by rw [if_pos rfl] at H; exact H
         clear H
         have H := H1
         clear H1
         simp only [Option.some.injEq, Prod.mk.injEq] at H
         obtain ⟨rfl, rfl⟩ := H
         have hcz42_0 : wr.cell? ⟨gb101, 0, none⟩ = some (.string a1_0) := (blk_cell BK101.out 0).trans rfl
         have hcz42_1 : wr.cell? ⟨gb101, 1, none⟩ = some (.int .i64 a1_1) := (blk_cell BK101.out 1).trans rfl
         have hcz42_2 : wr.cell? ⟨gb101, 2, none⟩ = some (.int .i64 a1_2) := (blk_cell BK101.out 2).trans rfl
         have hcz42_3 : wr.cell? ⟨gb101, 3, none⟩ = some (.int .i64 a1_3) := (blk_cell BK101.out 3).trans rfl
         have hcz42_4 : wr.cell? ⟨gb101, 4, none⟩ = some (.int .i64 a1_4) := (blk_cell BK101.out 4).trans rfl
         have hcz42_5 : wr.cell? ⟨gb101, 5, none⟩ = some (.string a1_5) := (blk_cell BK101.out 5).trans rfl
         have hcz42_6 : wr.cell? ⟨gb101, 6, none⟩ = some (.int .i64 a1_6) := (blk_cell BK101.out 6).trans rfl
         have hcz42_7 : wr.cell? ⟨gb101, 7, none⟩ = some (.int .i64 a1_7) := (blk_cell BK101.out 7).trans rfl
         have hcz42_8 : wr.cell? ⟨gb101, 8, none⟩ = some (.int .i64 a1_8) := (blk_cell BK101.out 8).trans rfl
         have hcz42_9 : wr.cell? ⟨gb101, 9, none⟩ = some (.int .i64 a1_9) := (blk_cell BK101.out 9).trans rfl
         have hcz42_10 : wr.cell? ⟨gb101, 10, none⟩ = some (.string a1_10) := (blk_cell BK101.out 10).trans rfl
         have hfz42_0 := blk_frozen BK101.out 0
         have hfz42_1 := blk_frozen BK101.out 1
         have hfz42_2 := blk_frozen BK101.out 2
         have hfz42_3 := blk_frozen BK101.out 3
         have hfz42_4 := blk_frozen BK101.out 4
         have hfz42_5 := blk_frozen BK101.out 5
         have hfz42_6 := blk_frozen BK101.out 6
         have hfz42_7 := blk_frozen BK101.out 7
         have hfz42_8 := blk_frozen BK101.out 8
         have hfz42_9 := blk_frozen BK101.out 9
         have hfz42_10 := blk_frozen BK101.out 10
         go_wp2_with (first | ((with_reducible refine gate_callee (f := 19) rfl ?_); refine goesL_ (some 40) rfl rfl Try.func19 (by kernel_rfl) rfl #[.slice A0 l0.length c0, .agg #[.string a1_0, .int .i64 a1_1, .int .i64 a1_2, .int .i64 a1_3, .int .i64 a1_4, .string a1_5, .int .i64 a1_6, .int .i64 a1_7, .int .i64 a1_8, .int .i64 a1_9, .string a1_10]] rfl (by (try simp only [List.map_toArray, List.map_cons, List.map_nil]); first | done | rfl | (simp only [List.length_drop, List.length_take]; rfl)) ?_; (with_reducible refine (mail_Rule.calls k2 _ _ l0 a1_0 a1_1 a1_2 a1_3 a1_4 a1_5 a1_6 a1_7 a1_8 a1_9 a1_10 t110 t111 t112 t113 t114 t115 t116 t117 t118 t119 _ ?side1 ?side2 A32.out).mono ?_); (case side1 => repeat (first | exact (Kd.C_below HR0.out HB.out) | (with_reducible refine Kd.C_alloc ?_ _) | (with_reducible refine Kd.C_drewN ?_ _) | (with_reducible refine Kd.C_drew ?_))); (case side2 => exact HC0.out); rintro e w43 ⟨rfl, hb⟩; refine ⟨_, rfl, ?_⟩; have n0_ := Aside0.mk (Kd.R_below (kr_ HO_25.out) hb); have n1_ := Aside0.mk (blk_below (g := gb101) (o := .cells #[.string a1_0, .int .i64 a1_1, .int .i64 a1_2, .int .i64 a1_3, .int .i64 a1_4, .string a1_5, .int .i64 a1_6, .int .i64 a1_7, .int .i64 a1_8, .int .i64 a1_9, .string a1_10] 28 (0, 0)) (bk_ BK101.out) hb); have n2_ := Aside0.mk (below_step (bl_ HB.out) hb); clear HO_25 BK101 HB; have HO_25 := n0_; have BK101 := n1_; have HB := n2_; clear n0_ n1_ n2_; (try clear hb); (try clear hb2); (try clear hk); (try clear hi)) | ((with_reducible refine gate_dst (N := 9) rfl ?_); refine box_event ?hg (N := 9) ?hd (cs := #[.int .i64 0, .int .i64 0, .int .i64 0, .int .i64 0, .int .i64 0, .int .i64 0, .int .i64 0, .int .i64 0, .string ⟨#[]⟩]) (t := 44) ?hr ?_; (case hd => rfl); (case hg => rfl); (case hr => first | (go_simp; done) | (go_simp; rfl)); intro gb120 hg w44 hbox hb; have n0_ := Aside0.mk (Kd.R_below (kr_ HO_25.out) hb); have n1_ := Aside0.mk (blk_below (g := gb101) (o := .cells #[.string a1_0, .int .i64 a1_1, .int .i64 a1_2, .int .i64 a1_3, .int .i64 a1_4, .string a1_5, .int .i64 a1_6, .int .i64 a1_7, .int .i64 a1_8, .int .i64 a1_9, .string a1_10] 28 (0, 0)) (bk_ BK101.out) hb); have n2_ := Aside0.mk (below_step (bl_ HB.out) hb); have n3_ := Aside0.mk (hbox); have n4_ := Aside0.mk ((by rw [hg]; exact (below_size (bl_ HB.out)) : w.heap.size ≤ gb120)); have n5_ := Aside0.mk ((by rw [hg]; exact (below_size (bl_ HB.out)) : w.heap.size ≤ gb120)); have n6_ := Aside0.mk ((by rw [hg]; exact Nat.ne_of_lt (blk_lt (g := gb101) (o := .cells #[.string a1_0, .int .i64 a1_1, .int .i64 a1_2, .int .i64 a1_3, .int .i64 a1_4, .string a1_5, .int .i64 a1_6, .int .i64 a1_7, .int .i64 a1_8, .int .i64 a1_9, .string a1_10] 28 (0, 0)) (bk_ BK101.out)) : gb101 ≠ gb120)); have n7_ := Aside0.mk ((by rw [hg]; exact Nat.ne_of_gt (blk_lt (g := gb101) (o := .cells #[.string a1_0, .int .i64 a1_1, .int .i64 a1_2, .int .i64 a1_3, .int .i64 a1_4, .string a1_5, .int .i64 a1_6, .int .i64 a1_7, .int .i64 a1_8, .int .i64 a1_9, .string a1_10] 28 (0, 0)) (bk_ BK101.out)) : gb120 ≠ gb101)); clear HO_25 BK101 HB; have HO_25 := n0_; have BK101 := n1_; have HB := n2_; have BK120 := n3_; have GW120 := n4_; have GE120 := n5_; have NB101_120 := n6_; have NB120_101 := n7_; clear n0_ n1_ n2_ n3_ n4_ n5_ n6_ n7_; clear hb hbox hg; have hnb45 := NB120_101.out; have hnc45 := NB101_120.out; have hcz46_0 : w44.cell? ⟨gb120, 0, none⟩ = some (.int .i64 0) := (blk_cell BK120.out 0).trans rfl; have hcz46_1 : w44.cell? ⟨gb120, 1, none⟩ = some (.int .i64 0) := (blk_cell BK120.out 1).trans rfl; have hcz46_2 : w44.cell? ⟨gb120, 2, none⟩ = some (.int .i64 0) := (blk_cell BK120.out 2).trans rfl; have hcz46_3 : w44.cell? ⟨gb120, 3, none⟩ = some (.int .i64 0) := (blk_cell BK120.out 3).trans rfl; have hcz46_4 : w44.cell? ⟨gb120, 4, none⟩ = some (.int .i64 0) := (blk_cell BK120.out 4).trans rfl; have hcz46_5 : w44.cell? ⟨gb120, 5, none⟩ = some (.int .i64 0) := (blk_cell BK120.out 5).trans rfl; have hcz46_6 : w44.cell? ⟨gb120, 6, none⟩ = some (.int .i64 0) := (blk_cell BK120.out 6).trans rfl; have hcz46_7 : w44.cell? ⟨gb120, 7, none⟩ = some (.int .i64 0) := (blk_cell BK120.out 7).trans rfl; have hcz46_8 : w44.cell? ⟨gb120, 8, none⟩ = some (.string ⟨#[]⟩) := (blk_cell BK120.out 8).trans rfl; have hfz46_0 := blk_frozen BK120.out 0; have hfz46_1 := blk_frozen BK120.out 1; have hfz46_2 := blk_frozen BK120.out 2; have hfz46_3 := blk_frozen BK120.out 3; have hfz46_4 := blk_frozen BK120.out 4; have hfz46_5 := blk_frozen BK120.out 5; have hfz46_6 := blk_frozen BK120.out 6; have hfz46_7 := blk_frozen BK120.out 7; have hfz46_8 := blk_frozen BK120.out 8; have hcz47_0 : w44.cell? ⟨gb101, 0, none⟩ = some (.string a1_0) := (blk_cell BK101.out 0).trans rfl; have hcz47_1 : w44.cell? ⟨gb101, 1, none⟩ = some (.int .i64 a1_1) := (blk_cell BK101.out 1).trans rfl; have hcz47_2 : w44.cell? ⟨gb101, 2, none⟩ = some (.int .i64 a1_2) := (blk_cell BK101.out 2).trans rfl; have hcz47_3 : w44.cell? ⟨gb101, 3, none⟩ = some (.int .i64 a1_3) := (blk_cell BK101.out 3).trans rfl; have hcz47_4 : w44.cell? ⟨gb101, 4, none⟩ = some (.int .i64 a1_4) := (blk_cell BK101.out 4).trans rfl; have hcz47_5 : w44.cell? ⟨gb101, 5, none⟩ = some (.string a1_5) := (blk_cell BK101.out 5).trans rfl; have hcz47_6 : w44.cell? ⟨gb101, 6, none⟩ = some (.int .i64 a1_6) := (blk_cell BK101.out 6).trans rfl; have hcz47_7 : w44.cell? ⟨gb101, 7, none⟩ = some (.int .i64 a1_7) := (blk_cell BK101.out 7).trans rfl; have hcz47_8 : w44.cell? ⟨gb101, 8, none⟩ = some (.int .i64 a1_8) := (blk_cell BK101.out 8).trans rfl; have hcz47_9 : w44.cell? ⟨gb101, 9, none⟩ = some (.int .i64 a1_9) := (blk_cell BK101.out 9).trans rfl; have hcz47_10 : w44.cell? ⟨gb101, 10, none⟩ = some (.string a1_10) := (blk_cell BK101.out 10).trans rfl; have hfz47_0 := blk_frozen BK101.out 0; have hfz47_1 := blk_frozen BK101.out 1; have hfz47_2 := blk_frozen BK101.out 2; have hfz47_3 := blk_frozen BK101.out 3; have hfz47_4 := blk_frozen BK101.out 4; have hfz47_5 := blk_frozen BK101.out 5; have hfz47_6 := blk_frozen BK101.out 6; have hfz47_7 := blk_frozen BK101.out 7; have hfz47_8 := blk_frozen BK101.out 8; have hfz47_9 := blk_frozen BK101.out 9; have hfz47_10 := blk_frozen BK101.out 10) | ((with_reducible refine gate_callee (f := 28) rfl ?_); refine goesL_ (some 53) rfl rfl Try.func28 (by kernel_rfl) rfl #[.agg #[.int .i64 a1_6, .int .i64 a1_7, .int .i64 a1_8, .int .i64 a1_9], .agg #[.int .i64 a1_1, .int .i64 a1_2, .int .i64 a1_3, .int .i64 a1_4]] rfl (by (try simp only [List.map_toArray, List.map_cons, List.map_nil]); first | done | rfl | (simp only [List.length_drop, List.length_take]; rfl)) ?_; (with_reducible refine (label_Over.calls a1_6 a1_7 a1_8 a1_9 a1_1 a1_2 a1_3 a1_4 true _ A40.out).mono ?_); rintro e w48 ⟨rfl, hb⟩; refine ⟨_, rfl, ?_⟩; have n0_ := Aside0.mk (Kd.R_below (by (with_reducible repeat (first | apply Kd.R_alloc | apply Kd.R_drewN | apply Kd.R_drew)); exact (Kd.R_mono (Kd.R_far (p := ⟨gb120, 8, none⟩) (Kd.R_far (p := ⟨gb120, 7, none⟩) (Kd.R_far (p := ⟨gb120, 6, none⟩) (Kd.R_far (p := ⟨gb120, 5, none⟩) (Kd.R_far (p := ⟨gb120, 4, none⟩) (Kd.R_far (p := ⟨gb120, 3, none⟩) (Kd.R_far (p := ⟨gb120, 2, none⟩) (Kd.R_far (p := ⟨gb120, 1, none⟩) (Kd.R_far (p := ⟨gb120, 0, none⟩) (Kd.R_types HO_25.out BK120.out (by decide)) (fun _ hk => hk.2) (.int .i64 t110)) (fun _ hk => hk.2) (.int .i64 t111)) (fun _ hk => hk.2) (.int .i64 t112)) (fun _ hk => hk.2) (.int .i64 t113)) (fun _ hk => hk.2) (.int .i64 t114)) (fun _ hk => hk.2) (.int .i64 t115)) (fun _ hk => hk.2) (.int .i64 t116)) (fun _ hk => hk.2) (.int .i64 t117)) (fun _ hk => hk.2) (.string t118)) (fun _ h_ => h_.1))) hb); have n1_ := Aside0.mk (blk_below (g := gb101) (o := .cells #[.string a1_0, .int .i64 a1_1, .int .i64 a1_2, .int .i64 a1_3, .int .i64 a1_4, .string a1_5, .int .i64 a1_6, .int .i64 a1_7, .int .i64 a1_8, .int .i64 a1_9, .string a1_10] 28 (0, 0)) (by (iterate 9 ((with_reducible repeat (first | refine blk_drewN ?_ _ | refine blk_drew ?_ | refine blk_alloc ?_ _)); refine blk_far ?_ NB101_120.out _)); (with_reducible repeat (first | refine blk_drewN ?_ _ | refine blk_drew ?_ | refine blk_alloc ?_ _)); exact BK101.out) hb); have n2_ := Aside0.mk (blk_below (g := gb120) (o := .cells #[.int .i64 t110, .int .i64 t111, .int .i64 t112, .int .i64 t113, .int .i64 t114, .int .i64 t115, .int .i64 t116, .int .i64 t117, .string t118] 44 (0, 0)) (by (with_reducible repeat (first | refine blk_drewN ?_ _ | refine blk_drew ?_ | refine blk_alloc ?_ _)); refine blk_put (cs := #[.int .i64 t110, .int .i64 t111, .int .i64 t112, .int .i64 t113, .int .i64 t114, .int .i64 t115, .int .i64 t116, .int .i64 t117, .string ⟨#[]⟩]) ?_ 8 _ rfl; (with_reducible repeat (first | refine blk_drewN ?_ _ | refine blk_drew ?_ | refine blk_alloc ?_ _)); refine blk_put (cs := #[.int .i64 t110, .int .i64 t111, .int .i64 t112, .int .i64 t113, .int .i64 t114, .int .i64 t115, .int .i64 t116, .int .i64 0, .string ⟨#[]⟩]) ?_ 7 _ rfl; (with_reducible repeat (first | refine blk_drewN ?_ _ | refine blk_drew ?_ | refine blk_alloc ?_ _)); refine blk_put (cs := #[.int .i64 t110, .int .i64 t111, .int .i64 t112, .int .i64 t113, .int .i64 t114, .int .i64 t115, .int .i64 0, .int .i64 0, .string ⟨#[]⟩]) ?_ 6 _ rfl; (with_reducible repeat (first | refine blk_drewN ?_ _ | refine blk_drew ?_ | refine blk_alloc ?_ _)); refine blk_put (cs := #[.int .i64 t110, .int .i64 t111, .int .i64 t112, .int .i64 t113, .int .i64 t114, .int .i64 0, .int .i64 0, .int .i64 0, .string ⟨#[]⟩]) ?_ 5 _ rfl; (with_reducible repeat (first | refine blk_drewN ?_ _ | refine blk_drew ?_ | refine blk_alloc ?_ _)); refine blk_put (cs := #[.int .i64 t110, .int .i64 t111, .int .i64 t112, .int .i64 t113, .int .i64 0, .int .i64 0, .int .i64 0, .int .i64 0, .string ⟨#[]⟩]) ?_ 4 _ rfl; (with_reducible repeat (first | refine blk_drewN ?_ _ | refine blk_drew ?_ | refine blk_alloc ?_ _)); refine blk_put (cs := #[.int .i64 t110, .int .i64 t111, .int .i64 t112, .int .i64 0, .int .i64 0, .int .i64 0, .int .i64 0, .int .i64 0, .string ⟨#[]⟩]) ?_ 3 _ rfl; (with_reducible repeat (first | refine blk_drewN ?_ _ | refine blk_drew ?_ | refine blk_alloc ?_ _)); refine blk_put (cs := #[.int .i64 t110, .int .i64 t111, .int .i64 0, .int .i64 0, .int .i64 0, .int .i64 0, .int .i64 0, .int .i64 0, .string ⟨#[]⟩]) ?_ 2 _ rfl; (with_reducible repeat (first | refine blk_drewN ?_ _ | refine blk_drew ?_ | refine blk_alloc ?_ _)); refine blk_put (cs := #[.int .i64 t110, .int .i64 0, .int .i64 0, .int .i64 0, .int .i64 0, .int .i64 0, .int .i64 0, .int .i64 0, .string ⟨#[]⟩]) ?_ 1 _ rfl; (with_reducible repeat (first | refine blk_drewN ?_ _ | refine blk_drew ?_ | refine blk_alloc ?_ _)); refine blk_put (cs := #[.int .i64 0, .int .i64 0, .int .i64 0, .int .i64 0, .int .i64 0, .int .i64 0, .int .i64 0, .int .i64 0, .string ⟨#[]⟩]) ?_ 0 _ rfl; (with_reducible repeat (first | refine blk_drewN ?_ _ | refine blk_drew ?_ | refine blk_alloc ?_ _)); exact BK120.out) hb); have n3_ := Aside0.mk (below_step (bl_ HB.out) hb); clear HO_25 BK101 BK120 HB; have HO_25 := n0_; have BK101 := n1_; have BK120 := n2_; have HB := n3_; clear n0_ n1_ n2_ n3_; (try clear hb); (try clear hb2); (try clear hk); (try clear hi)))
         go_ret2
         exact ⟨by first | rfl | (simp [errW_none, errW_some] <;> rfl) | (simp [*, errW_none, errW_some] <;> rfl), by repeat (first | (with_reducible first | exact HB.out | apply below_alloc | apply pw_below_drewN | apply below_drew1 | refine below_set ?_ GE101.out | refine below_set ?_ GE120.out) | exact HB.out)⟩
        ·replace c41 := Bool.eq_false_iff.mpr c41
         subst c41
         have H1 : (if t119 = true then (some (2, 0)) else (some (0, 19))) = some (r1, r2) := by rw [if_neg (show ¬ (false = true) by decide)] at H; exact H
         clear H
         have H := H1
         clear H1
         by_cases c49 : t119 = true
         ·subst c49
          have H1 : (some (2, 0)) = some (r1, r2) := by rw [if_pos rfl] at H; exact H
          clear H
          have H := H1
          clear H1
          simp only [Option.some.injEq, Prod.mk.injEq] at H
          obtain ⟨rfl, rfl⟩ := H
          have hcz50_0 : wr.cell? ⟨gb101, 0, none⟩ = some (.string a1_0) := (blk_cell BK101.out 0).trans rfl
          have hcz50_1 : wr.cell? ⟨gb101, 1, none⟩ = some (.int .i64 a1_1) := (blk_cell BK101.out 1).trans rfl
          have hcz50_2 : wr.cell? ⟨gb101, 2, none⟩ = some (.int .i64 a1_2) := (blk_cell BK101.out 2).trans rfl
          have hcz50_3 : wr.cell? ⟨gb101, 3, none⟩ = some (.int .i64 a1_3) := (blk_cell BK101.out 3).trans rfl
          have hcz50_4 : wr.cell? ⟨gb101, 4, none⟩ = some (.int .i64 a1_4) := (blk_cell BK101.out 4).trans rfl
          have hcz50_5 : wr.cell? ⟨gb101, 5, none⟩ = some (.string a1_5) := (blk_cell BK101.out 5).trans rfl
          have hcz50_6 : wr.cell? ⟨gb101, 6, none⟩ = some (.int .i64 a1_6) := (blk_cell BK101.out 6).trans rfl
          have hcz50_7 : wr.cell? ⟨gb101, 7, none⟩ = some (.int .i64 a1_7) := (blk_cell BK101.out 7).trans rfl
          have hcz50_8 : wr.cell? ⟨gb101, 8, none⟩ = some (.int .i64 a1_8) := (blk_cell BK101.out 8).trans rfl
          have hcz50_9 : wr.cell? ⟨gb101, 9, none⟩ = some (.int .i64 a1_9) := (blk_cell BK101.out 9).trans rfl
          have hcz50_10 : wr.cell? ⟨gb101, 10, none⟩ = some (.string a1_10) := (blk_cell BK101.out 10).trans rfl
          have hfz50_0 := blk_frozen BK101.out 0
          have hfz50_1 := blk_frozen BK101.out 1
          have hfz50_2 := blk_frozen BK101.out 2
          have hfz50_3 := blk_frozen BK101.out 3
          have hfz50_4 := blk_frozen BK101.out 4
          have hfz50_5 := blk_frozen BK101.out 5
          have hfz50_6 := blk_frozen BK101.out 6
          have hfz50_7 := blk_frozen BK101.out 7
          have hfz50_8 := blk_frozen BK101.out 8
          have hfz50_9 := blk_frozen BK101.out 9
          have hfz50_10 := blk_frozen BK101.out 10
          go_wp2_with (first | ((with_reducible refine gate_callee (f := 19) rfl ?_); refine goesL_ (some 40) rfl rfl Try.func19 (by kernel_rfl) rfl #[.slice A0 l0.length c0, .agg #[.string a1_0, .int .i64 a1_1, .int .i64 a1_2, .int .i64 a1_3, .int .i64 a1_4, .string a1_5, .int .i64 a1_6, .int .i64 a1_7, .int .i64 a1_8, .int .i64 a1_9, .string a1_10]] rfl (by (try simp only [List.map_toArray, List.map_cons, List.map_nil]); first | done | rfl | (simp only [List.length_drop, List.length_take]; rfl)) ?_; (with_reducible refine (mail_Rule.calls k2 _ _ l0 a1_0 a1_1 a1_2 a1_3 a1_4 a1_5 a1_6 a1_7 a1_8 a1_9 a1_10 t110 t111 t112 t113 t114 t115 t116 t117 t118 true _ ?side1 ?side2 A32.out).mono ?_); (case side1 => repeat (first | exact (Kd.C_below HR0.out HB.out) | (with_reducible refine Kd.C_alloc ?_ _) | (with_reducible refine Kd.C_drewN ?_ _) | (with_reducible refine Kd.C_drew ?_))); (case side2 => exact HC0.out); rintro e w51 ⟨rfl, hb⟩; refine ⟨_, rfl, ?_⟩; have n0_ := Aside0.mk (Kd.R_below (kr_ HO_25.out) hb); have n1_ := Aside0.mk (blk_below (g := gb101) (o := .cells #[.string a1_0, .int .i64 a1_1, .int .i64 a1_2, .int .i64 a1_3, .int .i64 a1_4, .string a1_5, .int .i64 a1_6, .int .i64 a1_7, .int .i64 a1_8, .int .i64 a1_9, .string a1_10] 28 (0, 0)) (bk_ BK101.out) hb); have n2_ := Aside0.mk (below_step (bl_ HB.out) hb); clear HO_25 BK101 HB; have HO_25 := n0_; have BK101 := n1_; have HB := n2_; clear n0_ n1_ n2_; (try clear hb); (try clear hb2); (try clear hk); (try clear hi)) | ((with_reducible refine gate_dst (N := 9) rfl ?_); refine box_event ?hg (N := 9) ?hd (cs := #[.int .i64 0, .int .i64 0, .int .i64 0, .int .i64 0, .int .i64 0, .int .i64 0, .int .i64 0, .int .i64 0, .string ⟨#[]⟩]) (t := 44) ?hr ?_; (case hd => rfl); (case hg => rfl); (case hr => first | (go_simp; done) | (go_simp; rfl)); intro gb120 hg w52 hbox hb; have n0_ := Aside0.mk (Kd.R_below (kr_ HO_25.out) hb); have n1_ := Aside0.mk (blk_below (g := gb101) (o := .cells #[.string a1_0, .int .i64 a1_1, .int .i64 a1_2, .int .i64 a1_3, .int .i64 a1_4, .string a1_5, .int .i64 a1_6, .int .i64 a1_7, .int .i64 a1_8, .int .i64 a1_9, .string a1_10] 28 (0, 0)) (bk_ BK101.out) hb); have n2_ := Aside0.mk (below_step (bl_ HB.out) hb); have n3_ := Aside0.mk (hbox); have n4_ := Aside0.mk ((by rw [hg]; exact (below_size (bl_ HB.out)) : w.heap.size ≤ gb120)); have n5_ := Aside0.mk ((by rw [hg]; exact (below_size (bl_ HB.out)) : w.heap.size ≤ gb120)); have n6_ := Aside0.mk ((by rw [hg]; exact Nat.ne_of_lt (blk_lt (g := gb101) (o := .cells #[.string a1_0, .int .i64 a1_1, .int .i64 a1_2, .int .i64 a1_3, .int .i64 a1_4, .string a1_5, .int .i64 a1_6, .int .i64 a1_7, .int .i64 a1_8, .int .i64 a1_9, .string a1_10] 28 (0, 0)) (bk_ BK101.out)) : gb101 ≠ gb120)); have n7_ := Aside0.mk ((by rw [hg]; exact Nat.ne_of_gt (blk_lt (g := gb101) (o := .cells #[.string a1_0, .int .i64 a1_1, .int .i64 a1_2, .int .i64 a1_3, .int .i64 a1_4, .string a1_5, .int .i64 a1_6, .int .i64 a1_7, .int .i64 a1_8, .int .i64 a1_9, .string a1_10] 28 (0, 0)) (bk_ BK101.out)) : gb120 ≠ gb101)); clear HO_25 BK101 HB; have HO_25 := n0_; have BK101 := n1_; have HB := n2_; have BK120 := n3_; have GW120 := n4_; have GE120 := n5_; have NB101_120 := n6_; have NB120_101 := n7_; clear n0_ n1_ n2_ n3_ n4_ n5_ n6_ n7_; clear hb hbox hg; have hnb53 := NB120_101.out; have hnc53 := NB101_120.out; have hcz54_0 : w52.cell? ⟨gb120, 0, none⟩ = some (.int .i64 0) := (blk_cell BK120.out 0).trans rfl; have hcz54_1 : w52.cell? ⟨gb120, 1, none⟩ = some (.int .i64 0) := (blk_cell BK120.out 1).trans rfl; have hcz54_2 : w52.cell? ⟨gb120, 2, none⟩ = some (.int .i64 0) := (blk_cell BK120.out 2).trans rfl; have hcz54_3 : w52.cell? ⟨gb120, 3, none⟩ = some (.int .i64 0) := (blk_cell BK120.out 3).trans rfl; have hcz54_4 : w52.cell? ⟨gb120, 4, none⟩ = some (.int .i64 0) := (blk_cell BK120.out 4).trans rfl; have hcz54_5 : w52.cell? ⟨gb120, 5, none⟩ = some (.int .i64 0) := (blk_cell BK120.out 5).trans rfl; have hcz54_6 : w52.cell? ⟨gb120, 6, none⟩ = some (.int .i64 0) := (blk_cell BK120.out 6).trans rfl; have hcz54_7 : w52.cell? ⟨gb120, 7, none⟩ = some (.int .i64 0) := (blk_cell BK120.out 7).trans rfl; have hcz54_8 : w52.cell? ⟨gb120, 8, none⟩ = some (.string ⟨#[]⟩) := (blk_cell BK120.out 8).trans rfl; have hfz54_0 := blk_frozen BK120.out 0; have hfz54_1 := blk_frozen BK120.out 1; have hfz54_2 := blk_frozen BK120.out 2; have hfz54_3 := blk_frozen BK120.out 3; have hfz54_4 := blk_frozen BK120.out 4; have hfz54_5 := blk_frozen BK120.out 5; have hfz54_6 := blk_frozen BK120.out 6; have hfz54_7 := blk_frozen BK120.out 7; have hfz54_8 := blk_frozen BK120.out 8; have hcz55_0 : w52.cell? ⟨gb101, 0, none⟩ = some (.string a1_0) := (blk_cell BK101.out 0).trans rfl; have hcz55_1 : w52.cell? ⟨gb101, 1, none⟩ = some (.int .i64 a1_1) := (blk_cell BK101.out 1).trans rfl; have hcz55_2 : w52.cell? ⟨gb101, 2, none⟩ = some (.int .i64 a1_2) := (blk_cell BK101.out 2).trans rfl; have hcz55_3 : w52.cell? ⟨gb101, 3, none⟩ = some (.int .i64 a1_3) := (blk_cell BK101.out 3).trans rfl; have hcz55_4 : w52.cell? ⟨gb101, 4, none⟩ = some (.int .i64 a1_4) := (blk_cell BK101.out 4).trans rfl; have hcz55_5 : w52.cell? ⟨gb101, 5, none⟩ = some (.string a1_5) := (blk_cell BK101.out 5).trans rfl; have hcz55_6 : w52.cell? ⟨gb101, 6, none⟩ = some (.int .i64 a1_6) := (blk_cell BK101.out 6).trans rfl; have hcz55_7 : w52.cell? ⟨gb101, 7, none⟩ = some (.int .i64 a1_7) := (blk_cell BK101.out 7).trans rfl; have hcz55_8 : w52.cell? ⟨gb101, 8, none⟩ = some (.int .i64 a1_8) := (blk_cell BK101.out 8).trans rfl; have hcz55_9 : w52.cell? ⟨gb101, 9, none⟩ = some (.int .i64 a1_9) := (blk_cell BK101.out 9).trans rfl; have hcz55_10 : w52.cell? ⟨gb101, 10, none⟩ = some (.string a1_10) := (blk_cell BK101.out 10).trans rfl; have hfz55_0 := blk_frozen BK101.out 0; have hfz55_1 := blk_frozen BK101.out 1; have hfz55_2 := blk_frozen BK101.out 2; have hfz55_3 := blk_frozen BK101.out 3; have hfz55_4 := blk_frozen BK101.out 4; have hfz55_5 := blk_frozen BK101.out 5; have hfz55_6 := blk_frozen BK101.out 6; have hfz55_7 := blk_frozen BK101.out 7; have hfz55_8 := blk_frozen BK101.out 8; have hfz55_9 := blk_frozen BK101.out 9; have hfz55_10 := blk_frozen BK101.out 10) | ((with_reducible refine gate_callee (f := 28) rfl ?_); refine goesL_ (some 53) rfl rfl Try.func28 (by kernel_rfl) rfl #[.agg #[.int .i64 a1_6, .int .i64 a1_7, .int .i64 a1_8, .int .i64 a1_9], .agg #[.int .i64 a1_1, .int .i64 a1_2, .int .i64 a1_3, .int .i64 a1_4]] rfl (by (try simp only [List.map_toArray, List.map_cons, List.map_nil]); first | done | rfl | (simp only [List.length_drop, List.length_take]; rfl)) ?_; (with_reducible refine (label_Over.calls a1_6 a1_7 a1_8 a1_9 a1_1 a1_2 a1_3 a1_4 false _ A40.out).mono ?_); rintro e w56 ⟨rfl, hb⟩; refine ⟨_, rfl, ?_⟩; have n0_ := Aside0.mk (Kd.R_below (by (with_reducible repeat (first | apply Kd.R_alloc | apply Kd.R_drewN | apply Kd.R_drew)); exact (Kd.R_mono (Kd.R_far (p := ⟨gb120, 8, none⟩) (Kd.R_far (p := ⟨gb120, 7, none⟩) (Kd.R_far (p := ⟨gb120, 6, none⟩) (Kd.R_far (p := ⟨gb120, 5, none⟩) (Kd.R_far (p := ⟨gb120, 4, none⟩) (Kd.R_far (p := ⟨gb120, 3, none⟩) (Kd.R_far (p := ⟨gb120, 2, none⟩) (Kd.R_far (p := ⟨gb120, 1, none⟩) (Kd.R_far (p := ⟨gb120, 0, none⟩) (Kd.R_types HO_25.out BK120.out (by decide)) (fun _ hk => hk.2) (.int .i64 t110)) (fun _ hk => hk.2) (.int .i64 t111)) (fun _ hk => hk.2) (.int .i64 t112)) (fun _ hk => hk.2) (.int .i64 t113)) (fun _ hk => hk.2) (.int .i64 t114)) (fun _ hk => hk.2) (.int .i64 t115)) (fun _ hk => hk.2) (.int .i64 t116)) (fun _ hk => hk.2) (.int .i64 t117)) (fun _ hk => hk.2) (.string t118)) (fun _ h_ => h_.1))) hb); have n1_ := Aside0.mk (blk_below (g := gb101) (o := .cells #[.string a1_0, .int .i64 a1_1, .int .i64 a1_2, .int .i64 a1_3, .int .i64 a1_4, .string a1_5, .int .i64 a1_6, .int .i64 a1_7, .int .i64 a1_8, .int .i64 a1_9, .string a1_10] 28 (0, 0)) (by (iterate 9 ((with_reducible repeat (first | refine blk_drewN ?_ _ | refine blk_drew ?_ | refine blk_alloc ?_ _)); refine blk_far ?_ NB101_120.out _)); (with_reducible repeat (first | refine blk_drewN ?_ _ | refine blk_drew ?_ | refine blk_alloc ?_ _)); exact BK101.out) hb); have n2_ := Aside0.mk (blk_below (g := gb120) (o := .cells #[.int .i64 t110, .int .i64 t111, .int .i64 t112, .int .i64 t113, .int .i64 t114, .int .i64 t115, .int .i64 t116, .int .i64 t117, .string t118] 44 (0, 0)) (by (with_reducible repeat (first | refine blk_drewN ?_ _ | refine blk_drew ?_ | refine blk_alloc ?_ _)); refine blk_put (cs := #[.int .i64 t110, .int .i64 t111, .int .i64 t112, .int .i64 t113, .int .i64 t114, .int .i64 t115, .int .i64 t116, .int .i64 t117, .string ⟨#[]⟩]) ?_ 8 _ rfl; (with_reducible repeat (first | refine blk_drewN ?_ _ | refine blk_drew ?_ | refine blk_alloc ?_ _)); refine blk_put (cs := #[.int .i64 t110, .int .i64 t111, .int .i64 t112, .int .i64 t113, .int .i64 t114, .int .i64 t115, .int .i64 t116, .int .i64 0, .string ⟨#[]⟩]) ?_ 7 _ rfl; (with_reducible repeat (first | refine blk_drewN ?_ _ | refine blk_drew ?_ | refine blk_alloc ?_ _)); refine blk_put (cs := #[.int .i64 t110, .int .i64 t111, .int .i64 t112, .int .i64 t113, .int .i64 t114, .int .i64 t115, .int .i64 0, .int .i64 0, .string ⟨#[]⟩]) ?_ 6 _ rfl; (with_reducible repeat (first | refine blk_drewN ?_ _ | refine blk_drew ?_ | refine blk_alloc ?_ _)); refine blk_put (cs := #[.int .i64 t110, .int .i64 t111, .int .i64 t112, .int .i64 t113, .int .i64 t114, .int .i64 0, .int .i64 0, .int .i64 0, .string ⟨#[]⟩]) ?_ 5 _ rfl; (with_reducible repeat (first | refine blk_drewN ?_ _ | refine blk_drew ?_ | refine blk_alloc ?_ _)); refine blk_put (cs := #[.int .i64 t110, .int .i64 t111, .int .i64 t112, .int .i64 t113, .int .i64 0, .int .i64 0, .int .i64 0, .int .i64 0, .string ⟨#[]⟩]) ?_ 4 _ rfl; (with_reducible repeat (first | refine blk_drewN ?_ _ | refine blk_drew ?_ | refine blk_alloc ?_ _)); refine blk_put (cs := #[.int .i64 t110, .int .i64 t111, .int .i64 t112, .int .i64 0, .int .i64 0, .int .i64 0, .int .i64 0, .int .i64 0, .string ⟨#[]⟩]) ?_ 3 _ rfl; (with_reducible repeat (first | refine blk_drewN ?_ _ | refine blk_drew ?_ | refine blk_alloc ?_ _)); refine blk_put (cs := #[.int .i64 t110, .int .i64 t111, .int .i64 0, .int .i64 0, .int .i64 0, .int .i64 0, .int .i64 0, .int .i64 0, .string ⟨#[]⟩]) ?_ 2 _ rfl; (with_reducible repeat (first | refine blk_drewN ?_ _ | refine blk_drew ?_ | refine blk_alloc ?_ _)); refine blk_put (cs := #[.int .i64 t110, .int .i64 0, .int .i64 0, .int .i64 0, .int .i64 0, .int .i64 0, .int .i64 0, .int .i64 0, .string ⟨#[]⟩]) ?_ 1 _ rfl; (with_reducible repeat (first | refine blk_drewN ?_ _ | refine blk_drew ?_ | refine blk_alloc ?_ _)); refine blk_put (cs := #[.int .i64 0, .int .i64 0, .int .i64 0, .int .i64 0, .int .i64 0, .int .i64 0, .int .i64 0, .int .i64 0, .string ⟨#[]⟩]) ?_ 0 _ rfl; (with_reducible repeat (first | refine blk_drewN ?_ _ | refine blk_drew ?_ | refine blk_alloc ?_ _)); exact BK120.out) hb); have n3_ := Aside0.mk (below_step (bl_ HB.out) hb); clear HO_25 BK101 BK120 HB; have HO_25 := n0_; have BK101 := n1_; have BK120 := n2_; have HB := n3_; clear n0_ n1_ n2_ n3_; (try clear hb); (try clear hb2); (try clear hk); (try clear hi)))
          go_ret2
          exact ⟨by first | rfl | (simp [errW_none, errW_some] <;> rfl) | (simp [*, errW_none, errW_some] <;> rfl), by repeat (first | (with_reducible first | exact HB.out | apply below_alloc | apply pw_below_drewN | apply below_drew1 | refine below_set ?_ GE101.out | refine below_set ?_ GE120.out) | exact HB.out)⟩
         ·replace c49 := Bool.eq_false_iff.mpr c49
          subst c49
          have H1 : (some (0, 19)) = some (r1, r2) := by rw [if_neg (show ¬ (false = true) by decide)] at H; exact H
          clear H
          have H := H1
          clear H1
          simp only [Option.some.injEq, Prod.mk.injEq] at H
          obtain ⟨rfl, rfl⟩ := H
          have hcz57_0 : wr.cell? ⟨gb101, 0, none⟩ = some (.string a1_0) := (blk_cell BK101.out 0).trans rfl
          have hcz57_1 : wr.cell? ⟨gb101, 1, none⟩ = some (.int .i64 a1_1) := (blk_cell BK101.out 1).trans rfl
          have hcz57_2 : wr.cell? ⟨gb101, 2, none⟩ = some (.int .i64 a1_2) := (blk_cell BK101.out 2).trans rfl
          have hcz57_3 : wr.cell? ⟨gb101, 3, none⟩ = some (.int .i64 a1_3) := (blk_cell BK101.out 3).trans rfl
          have hcz57_4 : wr.cell? ⟨gb101, 4, none⟩ = some (.int .i64 a1_4) := (blk_cell BK101.out 4).trans rfl
          have hcz57_5 : wr.cell? ⟨gb101, 5, none⟩ = some (.string a1_5) := (blk_cell BK101.out 5).trans rfl
          have hcz57_6 : wr.cell? ⟨gb101, 6, none⟩ = some (.int .i64 a1_6) := (blk_cell BK101.out 6).trans rfl
          have hcz57_7 : wr.cell? ⟨gb101, 7, none⟩ = some (.int .i64 a1_7) := (blk_cell BK101.out 7).trans rfl
          have hcz57_8 : wr.cell? ⟨gb101, 8, none⟩ = some (.int .i64 a1_8) := (blk_cell BK101.out 8).trans rfl
          have hcz57_9 : wr.cell? ⟨gb101, 9, none⟩ = some (.int .i64 a1_9) := (blk_cell BK101.out 9).trans rfl
          have hcz57_10 : wr.cell? ⟨gb101, 10, none⟩ = some (.string a1_10) := (blk_cell BK101.out 10).trans rfl
          have hfz57_0 := blk_frozen BK101.out 0
          have hfz57_1 := blk_frozen BK101.out 1
          have hfz57_2 := blk_frozen BK101.out 2
          have hfz57_3 := blk_frozen BK101.out 3
          have hfz57_4 := blk_frozen BK101.out 4
          have hfz57_5 := blk_frozen BK101.out 5
          have hfz57_6 := blk_frozen BK101.out 6
          have hfz57_7 := blk_frozen BK101.out 7
          have hfz57_8 := blk_frozen BK101.out 8
          have hfz57_9 := blk_frozen BK101.out 9
          have hfz57_10 := blk_frozen BK101.out 10
          go_wp2_with (first | ((with_reducible refine gate_callee (f := 19) rfl ?_); refine goesL_ (some 40) rfl rfl Try.func19 (by kernel_rfl) rfl #[.slice A0 l0.length c0, .agg #[.string a1_0, .int .i64 a1_1, .int .i64 a1_2, .int .i64 a1_3, .int .i64 a1_4, .string a1_5, .int .i64 a1_6, .int .i64 a1_7, .int .i64 a1_8, .int .i64 a1_9, .string a1_10]] rfl (by (try simp only [List.map_toArray, List.map_cons, List.map_nil]); first | done | rfl | (simp only [List.length_drop, List.length_take]; rfl)) ?_; (with_reducible refine (mail_Rule.calls k2 _ _ l0 a1_0 a1_1 a1_2 a1_3 a1_4 a1_5 a1_6 a1_7 a1_8 a1_9 a1_10 t110 t111 t112 t113 t114 t115 t116 t117 t118 false _ ?side1 ?side2 A32.out).mono ?_); (case side1 => repeat (first | exact (Kd.C_below HR0.out HB.out) | (with_reducible refine Kd.C_alloc ?_ _) | (with_reducible refine Kd.C_drewN ?_ _) | (with_reducible refine Kd.C_drew ?_))); (case side2 => exact HC0.out); rintro e w58 ⟨rfl, hb⟩; refine ⟨_, rfl, ?_⟩; have n0_ := Aside0.mk (Kd.R_below (kr_ HO_25.out) hb); have n1_ := Aside0.mk (blk_below (g := gb101) (o := .cells #[.string a1_0, .int .i64 a1_1, .int .i64 a1_2, .int .i64 a1_3, .int .i64 a1_4, .string a1_5, .int .i64 a1_6, .int .i64 a1_7, .int .i64 a1_8, .int .i64 a1_9, .string a1_10] 28 (0, 0)) (bk_ BK101.out) hb); have n2_ := Aside0.mk (below_step (bl_ HB.out) hb); clear HO_25 BK101 HB; have HO_25 := n0_; have BK101 := n1_; have HB := n2_; clear n0_ n1_ n2_; (try clear hb); (try clear hb2); (try clear hk); (try clear hi)) | ((with_reducible refine gate_dst (N := 9) rfl ?_); refine box_event ?hg (N := 9) ?hd (cs := #[.int .i64 0, .int .i64 0, .int .i64 0, .int .i64 0, .int .i64 0, .int .i64 0, .int .i64 0, .int .i64 0, .string ⟨#[]⟩]) (t := 44) ?hr ?_; (case hd => rfl); (case hg => rfl); (case hr => first | (go_simp; done) | (go_simp; rfl)); intro gb120 hg w59 hbox hb; have n0_ := Aside0.mk (Kd.R_below (kr_ HO_25.out) hb); have n1_ := Aside0.mk (blk_below (g := gb101) (o := .cells #[.string a1_0, .int .i64 a1_1, .int .i64 a1_2, .int .i64 a1_3, .int .i64 a1_4, .string a1_5, .int .i64 a1_6, .int .i64 a1_7, .int .i64 a1_8, .int .i64 a1_9, .string a1_10] 28 (0, 0)) (bk_ BK101.out) hb); have n2_ := Aside0.mk (below_step (bl_ HB.out) hb); have n3_ := Aside0.mk (hbox); have n4_ := Aside0.mk ((by rw [hg]; exact (below_size (bl_ HB.out)) : w.heap.size ≤ gb120)); have n5_ := Aside0.mk ((by rw [hg]; exact (below_size (bl_ HB.out)) : w.heap.size ≤ gb120)); have n6_ := Aside0.mk ((by rw [hg]; exact Nat.ne_of_lt (blk_lt (g := gb101) (o := .cells #[.string a1_0, .int .i64 a1_1, .int .i64 a1_2, .int .i64 a1_3, .int .i64 a1_4, .string a1_5, .int .i64 a1_6, .int .i64 a1_7, .int .i64 a1_8, .int .i64 a1_9, .string a1_10] 28 (0, 0)) (bk_ BK101.out)) : gb101 ≠ gb120)); have n7_ := Aside0.mk ((by rw [hg]; exact Nat.ne_of_gt (blk_lt (g := gb101) (o := .cells #[.string a1_0, .int .i64 a1_1, .int .i64 a1_2, .int .i64 a1_3, .int .i64 a1_4, .string a1_5, .int .i64 a1_6, .int .i64 a1_7, .int .i64 a1_8, .int .i64 a1_9, .string a1_10] 28 (0, 0)) (bk_ BK101.out)) : gb120 ≠ gb101)); clear HO_25 BK101 HB; have HO_25 := n0_; have BK101 := n1_; have HB := n2_; have BK120 := n3_; have GW120 := n4_; have GE120 := n5_; have NB101_120 := n6_; have NB120_101 := n7_; clear n0_ n1_ n2_ n3_ n4_ n5_ n6_ n7_; clear hb hbox hg; have hnb60 := NB120_101.out; have hnc60 := NB101_120.out; have hcz61_0 : w59.cell? ⟨gb120, 0, none⟩ = some (.int .i64 0) := (blk_cell BK120.out 0).trans rfl; have hcz61_1 : w59.cell? ⟨gb120, 1, none⟩ = some (.int .i64 0) := (blk_cell BK120.out 1).trans rfl; have hcz61_2 : w59.cell? ⟨gb120, 2, none⟩ = some (.int .i64 0) := (blk_cell BK120.out 2).trans rfl; have hcz61_3 : w59.cell? ⟨gb120, 3, none⟩ = some (.int .i64 0) := (blk_cell BK120.out 3).trans rfl; have hcz61_4 : w59.cell? ⟨gb120, 4, none⟩ = some (.int .i64 0) := (blk_cell BK120.out 4).trans rfl; have hcz61_5 : w59.cell? ⟨gb120, 5, none⟩ = some (.int .i64 0) := (blk_cell BK120.out 5).trans rfl; have hcz61_6 : w59.cell? ⟨gb120, 6, none⟩ = some (.int .i64 0) := (blk_cell BK120.out 6).trans rfl; have hcz61_7 : w59.cell? ⟨gb120, 7, none⟩ = some (.int .i64 0) := (blk_cell BK120.out 7).trans rfl; have hcz61_8 : w59.cell? ⟨gb120, 8, none⟩ = some (.string ⟨#[]⟩) := (blk_cell BK120.out 8).trans rfl; have hfz61_0 := blk_frozen BK120.out 0; have hfz61_1 := blk_frozen BK120.out 1; have hfz61_2 := blk_frozen BK120.out 2; have hfz61_3 := blk_frozen BK120.out 3; have hfz61_4 := blk_frozen BK120.out 4; have hfz61_5 := blk_frozen BK120.out 5; have hfz61_6 := blk_frozen BK120.out 6; have hfz61_7 := blk_frozen BK120.out 7; have hfz61_8 := blk_frozen BK120.out 8; have hcz62_0 : w59.cell? ⟨gb101, 0, none⟩ = some (.string a1_0) := (blk_cell BK101.out 0).trans rfl; have hcz62_1 : w59.cell? ⟨gb101, 1, none⟩ = some (.int .i64 a1_1) := (blk_cell BK101.out 1).trans rfl; have hcz62_2 : w59.cell? ⟨gb101, 2, none⟩ = some (.int .i64 a1_2) := (blk_cell BK101.out 2).trans rfl; have hcz62_3 : w59.cell? ⟨gb101, 3, none⟩ = some (.int .i64 a1_3) := (blk_cell BK101.out 3).trans rfl; have hcz62_4 : w59.cell? ⟨gb101, 4, none⟩ = some (.int .i64 a1_4) := (blk_cell BK101.out 4).trans rfl; have hcz62_5 : w59.cell? ⟨gb101, 5, none⟩ = some (.string a1_5) := (blk_cell BK101.out 5).trans rfl; have hcz62_6 : w59.cell? ⟨gb101, 6, none⟩ = some (.int .i64 a1_6) := (blk_cell BK101.out 6).trans rfl; have hcz62_7 : w59.cell? ⟨gb101, 7, none⟩ = some (.int .i64 a1_7) := (blk_cell BK101.out 7).trans rfl; have hcz62_8 : w59.cell? ⟨gb101, 8, none⟩ = some (.int .i64 a1_8) := (blk_cell BK101.out 8).trans rfl; have hcz62_9 : w59.cell? ⟨gb101, 9, none⟩ = some (.int .i64 a1_9) := (blk_cell BK101.out 9).trans rfl; have hcz62_10 : w59.cell? ⟨gb101, 10, none⟩ = some (.string a1_10) := (blk_cell BK101.out 10).trans rfl; have hfz62_0 := blk_frozen BK101.out 0; have hfz62_1 := blk_frozen BK101.out 1; have hfz62_2 := blk_frozen BK101.out 2; have hfz62_3 := blk_frozen BK101.out 3; have hfz62_4 := blk_frozen BK101.out 4; have hfz62_5 := blk_frozen BK101.out 5; have hfz62_6 := blk_frozen BK101.out 6; have hfz62_7 := blk_frozen BK101.out 7; have hfz62_8 := blk_frozen BK101.out 8; have hfz62_9 := blk_frozen BK101.out 9; have hfz62_10 := blk_frozen BK101.out 10) | ((with_reducible refine gate_callee (f := 28) rfl ?_); refine goesL_ (some 53) rfl rfl Try.func28 (by kernel_rfl) rfl #[.agg #[.int .i64 a1_6, .int .i64 a1_7, .int .i64 a1_8, .int .i64 a1_9], .agg #[.int .i64 a1_1, .int .i64 a1_2, .int .i64 a1_3, .int .i64 a1_4]] rfl (by (try simp only [List.map_toArray, List.map_cons, List.map_nil]); first | done | rfl | (simp only [List.length_drop, List.length_take]; rfl)) ?_; (with_reducible refine (label_Over.calls a1_6 a1_7 a1_8 a1_9 a1_1 a1_2 a1_3 a1_4 false _ A40.out).mono ?_); rintro e w63 ⟨rfl, hb⟩; refine ⟨_, rfl, ?_⟩; have n0_ := Aside0.mk (Kd.R_below (by (with_reducible repeat (first | apply Kd.R_alloc | apply Kd.R_drewN | apply Kd.R_drew)); exact (Kd.R_mono (Kd.R_far (p := ⟨gb120, 8, none⟩) (Kd.R_far (p := ⟨gb120, 7, none⟩) (Kd.R_far (p := ⟨gb120, 6, none⟩) (Kd.R_far (p := ⟨gb120, 5, none⟩) (Kd.R_far (p := ⟨gb120, 4, none⟩) (Kd.R_far (p := ⟨gb120, 3, none⟩) (Kd.R_far (p := ⟨gb120, 2, none⟩) (Kd.R_far (p := ⟨gb120, 1, none⟩) (Kd.R_far (p := ⟨gb120, 0, none⟩) (Kd.R_types HO_25.out BK120.out (by decide)) (fun _ hk => hk.2) (.int .i64 t110)) (fun _ hk => hk.2) (.int .i64 t111)) (fun _ hk => hk.2) (.int .i64 t112)) (fun _ hk => hk.2) (.int .i64 t113)) (fun _ hk => hk.2) (.int .i64 t114)) (fun _ hk => hk.2) (.int .i64 t115)) (fun _ hk => hk.2) (.int .i64 t116)) (fun _ hk => hk.2) (.int .i64 t117)) (fun _ hk => hk.2) (.string t118)) (fun _ h_ => h_.1))) hb); have n1_ := Aside0.mk (blk_below (g := gb101) (o := .cells #[.string a1_0, .int .i64 a1_1, .int .i64 a1_2, .int .i64 a1_3, .int .i64 a1_4, .string a1_5, .int .i64 a1_6, .int .i64 a1_7, .int .i64 a1_8, .int .i64 a1_9, .string a1_10] 28 (0, 0)) (by (iterate 9 ((with_reducible repeat (first | refine blk_drewN ?_ _ | refine blk_drew ?_ | refine blk_alloc ?_ _)); refine blk_far ?_ NB101_120.out _)); (with_reducible repeat (first | refine blk_drewN ?_ _ | refine blk_drew ?_ | refine blk_alloc ?_ _)); exact BK101.out) hb); have n2_ := Aside0.mk (blk_below (g := gb120) (o := .cells #[.int .i64 t110, .int .i64 t111, .int .i64 t112, .int .i64 t113, .int .i64 t114, .int .i64 t115, .int .i64 t116, .int .i64 t117, .string t118] 44 (0, 0)) (by (with_reducible repeat (first | refine blk_drewN ?_ _ | refine blk_drew ?_ | refine blk_alloc ?_ _)); refine blk_put (cs := #[.int .i64 t110, .int .i64 t111, .int .i64 t112, .int .i64 t113, .int .i64 t114, .int .i64 t115, .int .i64 t116, .int .i64 t117, .string ⟨#[]⟩]) ?_ 8 _ rfl; (with_reducible repeat (first | refine blk_drewN ?_ _ | refine blk_drew ?_ | refine blk_alloc ?_ _)); refine blk_put (cs := #[.int .i64 t110, .int .i64 t111, .int .i64 t112, .int .i64 t113, .int .i64 t114, .int .i64 t115, .int .i64 t116, .int .i64 0, .string ⟨#[]⟩]) ?_ 7 _ rfl; (with_reducible repeat (first | refine blk_drewN ?_ _ | refine blk_drew ?_ | refine blk_alloc ?_ _)); refine blk_put (cs := #[.int .i64 t110, .int .i64 t111, .int .i64 t112, .int .i64 t113, .int .i64 t114, .int .i64 t115, .int .i64 0, .int .i64 0, .string ⟨#[]⟩]) ?_ 6 _ rfl; (with_reducible repeat (first | refine blk_drewN ?_ _ | refine blk_drew ?_ | refine blk_alloc ?_ _)); refine blk_put (cs := #[.int .i64 t110, .int .i64 t111, .int .i64 t112, .int .i64 t113, .int .i64 t114, .int .i64 0, .int .i64 0, .int .i64 0, .string ⟨#[]⟩]) ?_ 5 _ rfl; (with_reducible repeat (first | refine blk_drewN ?_ _ | refine blk_drew ?_ | refine blk_alloc ?_ _)); refine blk_put (cs := #[.int .i64 t110, .int .i64 t111, .int .i64 t112, .int .i64 t113, .int .i64 0, .int .i64 0, .int .i64 0, .int .i64 0, .string ⟨#[]⟩]) ?_ 4 _ rfl; (with_reducible repeat (first | refine blk_drewN ?_ _ | refine blk_drew ?_ | refine blk_alloc ?_ _)); refine blk_put (cs := #[.int .i64 t110, .int .i64 t111, .int .i64 t112, .int .i64 0, .int .i64 0, .int .i64 0, .int .i64 0, .int .i64 0, .string ⟨#[]⟩]) ?_ 3 _ rfl; (with_reducible repeat (first | refine blk_drewN ?_ _ | refine blk_drew ?_ | refine blk_alloc ?_ _)); refine blk_put (cs := #[.int .i64 t110, .int .i64 t111, .int .i64 0, .int .i64 0, .int .i64 0, .int .i64 0, .int .i64 0, .int .i64 0, .string ⟨#[]⟩]) ?_ 2 _ rfl; (with_reducible repeat (first | refine blk_drewN ?_ _ | refine blk_drew ?_ | refine blk_alloc ?_ _)); refine blk_put (cs := #[.int .i64 t110, .int .i64 0, .int .i64 0, .int .i64 0, .int .i64 0, .int .i64 0, .int .i64 0, .int .i64 0, .string ⟨#[]⟩]) ?_ 1 _ rfl; (with_reducible repeat (first | refine blk_drewN ?_ _ | refine blk_drew ?_ | refine blk_alloc ?_ _)); refine blk_put (cs := #[.int .i64 0, .int .i64 0, .int .i64 0, .int .i64 0, .int .i64 0, .int .i64 0, .int .i64 0, .int .i64 0, .string ⟨#[]⟩]) ?_ 0 _ rfl; (with_reducible repeat (first | refine blk_drewN ?_ _ | refine blk_drew ?_ | refine blk_alloc ?_ _)); exact BK120.out) hb); have n3_ := Aside0.mk (below_step (bl_ HB.out) hb); clear HO_25 BK101 BK120 HB; have HO_25 := n0_; have BK101 := n1_; have BK120 := n2_; have HB := n3_; clear n0_ n1_ n2_ n3_; (try clear hb); (try clear hb2); (try clear hk); (try clear hi)))
          go_ret2
          exact ⟨by first | rfl | (simp [errW_none, errW_some] <;> rfl) | (simp [*, errW_none, errW_some] <;> rfl), by repeat (first | (with_reducible first | exact HB.out | apply below_alloc | apply pw_below_drewN | apply below_drew1 | refine below_set ?_ GE101.out | refine below_set ?_ GE120.out) | exact HB.out)⟩

end Go.Proofs.Ytdbnjjkapelekaa.X
