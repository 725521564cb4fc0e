/- Written by a program of this session over the kit's print: YtihknjmibnonjaaDoorF5. -/
import Derived.Test.YtihknjmibnonjaaDoorH
import Derived.Test.YtihknjmibnonjaaDoorE23
import Derived.Test.YtihknjmibnonjaaDoorE26
import Derived.Test.YtihknjmibnonjaaDoorF9
import Derived.Test.YtihknjmibnonjaaDoorF21
import Derived.Test.YtihknjmibnonjaaDoorF22
import Derived.Test.YtihknjmibnonjaaDoorAAl3
import Derived.WalkKit
import Derived.BigCall
import Derived.Test.YtihknjmibnonjaaDoorE23
import Derived.Test.YtihknjmibnonjaaDoorF10
import Derived.Deep.RegionWith
import Derived.BigQuiet
import Derived.Test.YtihknjmibnonjaaDoorPStays
import Derived.Test.YtihknjmibnonjaaDoorE26
import Derived.Deep.CutBlock
import Derived.Deep.DeepCutAuto
namespace Go.Proofs.YtihknjmibnonjaaDoor.X
open Go.RowKit Go.Proofs.YtihknjmibnonjaaDoorW.PrintWords Go.Proofs.YtihknjmibnonjaaDoorW.PrintLast Go.Proofs.YtihknjmibnonjaaDoorW.PrintMore Go.Proofs.YtihknjmibnonjaaDoor.More
attribute [local go_sem] max2_int min2_int max_two min_two max_three min_three max_four min_four binOp_string_leq binOp_string_gtr   -- for this text's walks alone
set_option linter.unusedVariables false
set_option linter.unusedSimpArgs false

/-! ### donjonlaw14_AuditStays: function 5 -/
open Go.Proofs.YtihknjmibnonjaaDoor.Pure Go.Proofs.YtihknjmibnonjaaDoor.Lib Go.Proofs.YtihknjmibnonjaaDoor.More
attribute [local go_sem high] eqA23 eqA26
def donjonlaw14_AuditStays.f (l0 l1 : List (S26)) (a2_0 a2_1 a2_2 a2_3 : Int) : Option Bool := some true
set_option maxHeartbeats 16000000 in
set_option maxRecDepth 100000 in
theorem AuditStays.run (A0 A1 : Option Addr) (c0 c1 : Nat) (l mo : List SE) (a0 : SL) (w : World) (hG : Laid w) (hr0 : Kd.C k26 w A0 l.length l) (hr1 : Kd.C k26 w A1 mo.length mo) : Calls Tryd.prog 5 #[.slice A0 l.length c0, .slice A1 mo.length c1, lv a0] w fun e w' => e = .returned (.bool true) ∧ Below w.heap.size w w' := by
  have HGX : Aside0 (donjonlaw4_Good.f a0.f0 a0.f1 a0.f2 a0.f3 = some ((goodS a0).f0, (goodS a0).f1, (goodS a0).f2, (goodS a0).f3)) := ⟨goodS_f a0⟩
  have HG := Aside0.mk hG
  obtain ⟨N, hN⟩ : ∃ N, l.length = N := ⟨_, rfl⟩
  obtain ⟨N2, hN2⟩ : ∃ N2, mo.length = N2 := ⟨_, rfl⟩
  rw [hN] at hr0 ⊢
  rw [hN2] at hr1 ⊢
  have HC0 := Aside0.mk hr0
  have HC1 := Aside0.mk hr1
  clear hG hr0 hr1 hN hN2
  unfold lv
  go_enter Tryd.func5, Tryd.ntmps5
  go_wp2_with fail
  refine (known14 _ (Laid.below HG.out (below_alloc (Below.refl _ _) _))).mono ?_
  rintro e w1 ⟨rfl, hb⟩
  have HB1 := Aside0.mk (below_step (below_alloc (Below.refl _ w) _) hb)
  have BX1 : Aside0 (BoxL w1 w.heap.size a0) := ⟨blk_below (blk_new w _) hb⟩
  clear hb
  go_wp2_with fail
  refine (log_New.calls _).mono ?_
  rintro e_ w4 ⟨lb, mb, rfl, glb, gmb, hL, hb⟩
  have HBASE : Aside0 (w.heap.size < w1.heap.size) := ⟨blk_lt BX1.out⟩
  have HB4 := Aside0.mk (below_step HB1.out hb)
  have BX4 := Aside0.mk (BX1.out.below hb)
  have HL4 := Aside0.mk hL
  have GM := Aside0.mk gmb
  have GLB := Aside0.mk glb
  have HSZ4 := Aside0.mk (below_size hb)
  have HP : Aside0 ((0 : Nat) ≤ 30) := ⟨by omega⟩
  clear hb hL glb gmb HB1 BX1
  generalize w1.heap.size = base at HBASE HL4 GM GLB HSZ4
  generalize (fun _ => Value.slice none 0 0 : SL → Value) = hdr0 at HL4
  go_upto_block 0 with fail
  go_cut [8] (fun _ wc => ∃ (p : Nat) (rows : SL → List SE), Aside0 (p ≤ 30) ∧ Aside0 (RowsOk rows p) ∧ Aside0 (∃ hdr, LogIs wc lb mb p base hdr rows) ∧ Aside0 (BoxL wc w.heap.size a0) ∧ Aside0 (Below w.heap.size w wc) ∧ Aside0 (base ≤ wc.heap.size))
  case first =>
    go_wp2_with fail
    go_loopw [8] (fun v8 wr => ∃ (i : Int) (rows : SL → List SE), v8 = .int .i64 i ∧ Aside0 (0 ≤ i ∧ i ≤ 30) ∧ Aside0 (RowsOk rows i.toNat) ∧ Aside0 (∃ hdr, LogIs wr lb mb i.toNat base hdr rows) ∧ Aside0 (BoxL wr w.heap.size a0) ∧ Aside0 (Below w.heap.size w wr) ∧ Aside0 (base ≤ wr.heap.size)) (fun v8 _ => 60 - (intOf v8).toNat)
    case atStart => exact ⟨0, fun _ => [], rfl, ⟨by omega⟩, ⟨fun _ => Nat.le_refl _, fun _ _ he => by cases he⟩, ⟨_, HL4.out⟩, BX4, HB4, HSZ4⟩
    case round =>
      clear HL4 BX4 HB4 HSZ4
      obtain ⟨i, rows, rfl, HI, HRO, HLX, BX, HB, HSZ⟩ := hrel
      obtain ⟨hdr, hLX⟩ := HLX.out
      have HL := Aside0.mk hLX
      clear hLX HLX
      by_cases hiN : i < (N : Int)
      · have e1 : decide (i < (N : Int)) = true := decide_eq_true hiN
        by_cases hi30 : i < 30
        · have e2 : decide (i < 30) = true := decide_eq_true hi30
          have HI30 := Aside0.mk hi30
          have ek : wrap64 (i + 1) = i + 1 := wrap64_id (by have := HI.out; omega) (by omega)
          obtain ⟨ad, eA, hx0, hx1, hx2, hx3, hx4, hx5, hx6, hx7, hx8⟩ := at_T26 (Kd.C_below HC0.out HB.out) i HI.out.1 hiN
          obtain ⟨y, hy⟩ : ∃ y, rd_T26 l i = y := ⟨_, rfl⟩
          rw [hy] at hx0 hx1 hx2 hx3 hx4 hx5 hx6 hx7 hx8
          have p1 := eq_true HI.out.1
          have q1 := eq_true hiN
          have p2 : decide ((0 : Int) ≤ i) = true := decide_eq_true HI.out.1
          obtain ⟨gy, hgy⟩ : ∃ gy, goodE y = gy := ⟨_, rfl⟩
          have HGY := Aside0.mk hgy
          have HMY : Aside0 (mayE gy) := ⟨by rw [← hgy]; exact goodE_may y⟩
          cases eA
          clear hiN hi30 hy hgy
          go_wp2_with fail
          refine (good_run y _).mono ?_
          rintro e_ w2 ⟨rfl, hb⟩
          rw [HGY.out]
          unfold ev
          have HB2 := Aside0.mk (below_step HB.out hb)
          have BX2 := Aside0.mk (BX.out.below hb)
          have HL2 := Aside0.mk (HL.out.below hb)
          have HSZ2 := Aside0.mk (Nat.le_trans HSZ.out (below_size hb))
          clear hb HB BX HL HSZ hx0 hx1 hx2 hx3 hx4 hx5 hx6 hx7 hx8 p1 q1 p2
          go_wp2_with fail
          refine (log_Add_any HL2.out gy HMY.out (by have := HI.out; have := HP.out; unfold maxLen; omega) HSZ2.out).mono ?_
          rintro e_ w5 ⟨rv, hdr2, rows2, rfl, hL, hS, hok, hr⟩
          have HL5 := Aside0.mk hL
          have BX5 : Aside0 (BoxL w5 w.heap.size a0) := ⟨hS.low HL2.out GM.out HBASE.out BX2.out⟩
          have HB5 := Aside0.mk (hS.below HB2.out (below_size HB2.out) HL2.out (by have := GM.out; have := HBASE.out; omega) (by have := HBASE.out; omega))
          have HSZ5 := Aside0.mk (Nat.le_trans HSZ2.out hS.size)
          have HRO5 := Aside0.mk (RowsOk.any HRO.out HMY.out.1 hr)
          clear hL hS hok hr HL2 BX2 HB2 HSZ2 HRO
          go_wp2
          go_roundw
          case rel => exact ⟨i + 1, rows2, by rw [ek], ⟨by have := HI.out; have := HI30.out; omega⟩, ⟨by rw [show (i + 1).toNat = i.toNat + 1 by have := HI.out; omega]; exact HRO5.out⟩, ⟨hdr2, by rw [show (i + 1).toNat = i.toNat + 1 by have := HI.out; omega]; exact HL5.out⟩, BX5, HB5, HSZ5⟩
          case measure =>
            rw [ek]
            have := HI.out
            have := HI30.out
            simp only [intOf]
            omega
        · have e2 : decide (i < 30) = false := decide_eq_false hi30
          clear hiN hi30
          go_wp2
          go_meet
          case rel => exact ⟨i.toNat, rows, ⟨by have := HI.out; omega⟩, HRO, ⟨hdr, HL.out⟩, BX, HB, HSZ⟩
      · have e1 : decide (i < (N : Int)) = false := decide_eq_false hiN
        clear hiN
        go_wp2
        go_meet
        case rel => exact ⟨i.toNat, rows, ⟨by have := HI.out; omega⟩, HRO, ⟨hdr, HL.out⟩, BX, HB, HSZ⟩
  case rest =>
    obtain ⟨p, rows, HPP, HRO, HLX, BX, HB, HSZ⟩ := hcut
    clear HL4 BX4 HB4 HSZ4
    obtain ⟨hdr, hLX⟩ := HLX.out
    have HL := Aside0.mk hLX
    clear hLX HLX HP
    have x0 : wc.cell? ⟨w.heap.size, 0, none⟩ = some (.int .i64 a0.f0) := (blk_cell BX.out 0).trans rfl
    have x1 : wc.cell? ⟨w.heap.size, 1, none⟩ = some (.int .i64 a0.f1) := (blk_cell BX.out 1).trans rfl
    have x2 : wc.cell? ⟨w.heap.size, 2, none⟩ = some (.int .i64 a0.f2) := (blk_cell BX.out 2).trans rfl
    have x3 : wc.cell? ⟨w.heap.size, 3, none⟩ = some (.int .i64 a0.f3) := (blk_cell BX.out 3).trans rfl
    go_wp2_with fail
    refine (donjonlaw4_Good.calls a0.f0 a0.f1 a0.f2 a0.f3 (goodS a0).f0 (goodS a0).f1 (goodS a0).f2 (goodS a0).f3 _ HGX.out).mono ?_
    rintro e_ w2 ⟨rfl, hb⟩
    have BX2 := Aside0.mk (BX.out.below hb)
    have HL2 := Aside0.mk (HL.out.below hb)
    have HB2 := Aside0.mk (below_step HB.out hb)
    have HSZ2 := Aside0.mk (Nat.le_trans HSZ.out (below_size hb))
    clear hb BX HL HB HSZ x0 x1 x2 x3
    have x0 : w2.cell? ⟨w.heap.size, 0, none⟩ = some (.int .i64 a0.f0) := (blk_cell BX2.out 0).trans rfl
    have x1 : w2.cell? ⟨w.heap.size, 1, none⟩ = some (.int .i64 a0.f1) := (blk_cell BX2.out 1).trans rfl
    have x2 : w2.cell? ⟨w.heap.size, 2, none⟩ = some (.int .i64 a0.f2) := (blk_cell BX2.out 2).trans rfl
    have x3 : w2.cell? ⟨w.heap.size, 3, none⟩ = some (.int .i64 a0.f3) := (blk_cell BX2.out 3).trans rfl
    have fx0 := blk_frozen BX2.out 0
    have fx1 := blk_frozen BX2.out 1
    have fx2 := blk_frozen BX2.out 2
    have fx3 := blk_frozen BX2.out 3
    obtain ⟨ga, hga⟩ : ∃ ga, goodS a0 = ga := ⟨_, rfl⟩
    have HGA : Aside0 (labOk ga) := ⟨by rw [← hga]; exact goodS_lab a0⟩
    rw [hga]
    clear hga HGX
    go_upto_region 9 with fail
    have BX3 : Aside0 (BoxL (((((w2.setCell ⟨w.heap.size, 0, none⟩ (.int .i64 ga.f0)).setCell ⟨w.heap.size, 1, none⟩ (.int .i64 ga.f1)).setCell ⟨w.heap.size, 2, none⟩ (.int .i64 ga.f2)).setCell ⟨w.heap.size, 3, none⟩ (.int .i64 ga.f3))) w.heap.size ga) := ⟨BX2.out.put ga⟩
    have HL3 : Aside0 (LogIs (((((w2.setCell ⟨w.heap.size, 0, none⟩ (.int .i64 ga.f0)).setCell ⟨w.heap.size, 1, none⟩ (.int .i64 ga.f1)).setCell ⟨w.heap.size, 2, none⟩ (.int .i64 ga.f2)).setCell ⟨w.heap.size, 3, none⟩ (.int .i64 ga.f3))) lb mb p base hdr rows) := ⟨HL2.out.set4 GLB.out GM.out HBASE.out⟩
    have HB3 : Aside0 (Below w.heap.size w (((((w2.setCell ⟨w.heap.size, 0, none⟩ (.int .i64 ga.f0)).setCell ⟨w.heap.size, 1, none⟩ (.int .i64 ga.f1)).setCell ⟨w.heap.size, 2, none⟩ (.int .i64 ga.f2)).setCell ⟨w.heap.size, 3, none⟩ (.int .i64 ga.f3)))) := ⟨below_set4 HB2.out (Nat.le_refl _)⟩
    have HSZ3 : Aside0 (base ≤ (((((w2.setCell ⟨w.heap.size, 0, none⟩ (.int .i64 ga.f0)).setCell ⟨w.heap.size, 1, none⟩ (.int .i64 ga.f1)).setCell ⟨w.heap.size, 2, none⟩ (.int .i64 ga.f2)).setCell ⟨w.heap.size, 3, none⟩ (.int .i64 ga.f3))).heap.size) := ⟨by simpa [World.setCell] using HSZ2.out⟩
    clear BX2 HL2 HB2 HSZ2 x0 x1 x2 x3 fx0 fx1 fx2 fx3
    generalize ((((w2.setCell ⟨w.heap.size, 0, none⟩ (.int .i64 ga.f0)).setCell ⟨w.heap.size, 1, none⟩ (.int .i64 ga.f1)).setCell ⟨w.heap.size, 2, none⟩ (.int .i64 ga.f2)).setCell ⟨w.heap.size, 3, none⟩ (.int .i64 ga.f3)) = w3 at BX3 HL3 HB3 HSZ3 ⊢
    go_upto_if 40 with fail
    go_cut [38] (fun _ wc => ∃ a : SL, Aside0 (labOk a) ∧ Aside0 (BoxL wc w.heap.size a) ∧ Aside0 (LogIs wc lb mb p base hdr rows) ∧ Aside0 (Below w.heap.size w wc) ∧ Aside0 (base ≤ wc.heap.size))
    case first =>
      by_cases hN0 : (0 : Int) < (N : Int)
      · obtain ⟨N', hN'⟩ : ∃ N', N = N' + 1 := ⟨N - 1, by omega⟩
        subst hN'
        obtain ⟨ad, eA, hx0, hx1, hx2, hx3, hx4, hx5, hx6, hx7, hx8⟩ := at_T26 (Kd.C_below HC0.out HB3.out) 0 (Int.le_refl _) hN0
        obtain ⟨y, hy⟩ : ∃ y, rd_T26 l 0 = y := ⟨_, rfl⟩
        rw [hy] at hx0 hx1 hx2 hx3 hx4 hx5 hx6 hx7 hx8
        obtain ⟨gy, hgy⟩ : ∃ gy, goodE y = gy := ⟨_, rfl⟩
        have HGY := Aside0.mk hgy
        have HMY : Aside0 (mayE gy) := ⟨by rw [← hgy]; exact goodE_may y⟩
        have p1 := eq_true hN0
        have p3 : (0 < N' + 1) = True := eq_true (by omega)
        simp only [Int.toNat_zero, Nat.zero_mul, add_zero_] at hx0 hx1 hx2 hx3 hx4 hx5 hx6 hx7 hx8
        cases eA
        clear hN0 hy hgy
        go_wp2_with fail
        refine (good_run y _).mono ?_
        rintro e_ w5 ⟨rfl, hb⟩
        rw [HGY.out]
        unfold ev
        have BX5 := Aside0.mk (BX3.out.below hb)
        have HL5 := Aside0.mk (HL3.out.below hb)
        have HB5 := Aside0.mk (below_step HB3.out hb)
        have HSZ5 := Aside0.mk (Nat.le_trans HSZ3.out (below_size hb))
        clear hb BX3 HL3 HB3 HSZ3 hx0 hx1 hx2 hx3 hx4 hx5 hx6 hx7 hx8
        have hfd : ∀ W : World, (Instr.field 26 (.agg #[.int .i64 gy.f0, .int .i64 gy.f1.f0, .int .i64 gy.f1.f1, .int .i64 gy.f1.f2, .int .i64 gy.f1.f3, .string gy.f2, .int .i64 gy.f3, .string gy.f4, .int .i64 gy.f5]) 1).run Tryd.prog W = .ok (.agg #[.int .i64 gy.f1.f0, .int .i64 gy.f1.f1, .int .i64 gy.f1.f2, .int .i64 gy.f1.f3]) W := fun W => by kernel_rfl
        have x0 : w5.cell? ⟨w.heap.size, 0, none⟩ = some (.int .i64 ga.f0) := (blk_cell BX5.out 0).trans rfl
        have x1 : w5.cell? ⟨w.heap.size, 1, none⟩ = some (.int .i64 ga.f1) := (blk_cell BX5.out 1).trans rfl
        have x2 : w5.cell? ⟨w.heap.size, 2, none⟩ = some (.int .i64 ga.f2) := (blk_cell BX5.out 2).trans rfl
        have x3 : w5.cell? ⟨w.heap.size, 3, none⟩ = some (.int .i64 ga.f3) := (blk_cell BX5.out 3).trans rfl
        have fx0 := blk_frozen BX5.out 0
        have fx1 := blk_frozen BX5.out 1
        have fx2 := blk_frozen BX5.out 2
        have fx3 := blk_frozen BX5.out 3
        go_wp2_with fail
        go_meet
        case rel => exact ⟨gy.f1, ⟨HMY.out.1⟩, ⟨BX5.out.put gy.f1⟩, ⟨HL5.out.set4 GLB.out GM.out HBASE.out⟩, ⟨below_set4 HB5.out (Nat.le_refl _)⟩, ⟨by simpa [World.setCell] using HSZ5.out⟩⟩
      · have h0 : N = 0 := by omega
        clear hN0
        subst h0
        go_wp2_with fail
        go_meet
        case rel => exact ⟨ga, HGA, BX3, HL3, HB3, HSZ3⟩
    case rest =>
      obtain ⟨a, HAA, BX, HL, HB, HSZ⟩ := hcut
      clear BX3 HL3 HB3 HSZ3
      have HX := Aside0.mk HAA.out.wf
      go_upto_region 11 with fail
      go_cut [9, 10] (fun v9 v10 wx => ∃ (A9 A10 : Option Addr) (c9 c10 m9 m10 : Nat) (was seen : List SE) (ats : List SL), v9 = .slice A9 m9 c9 ∧ v10 = .slice A10 m10 c10 ∧ Aside0 (rows a = was ∧ was.length = m9 ∧ (sortS ats).flatMap rows = seen ∧ seen.length = m10 ∧ Seen rows a ats) ∧ Aside0 (RE wx base (okA hdr) (.slice A9 m9 c9) was) ∧ Aside0 (RE wx base (okA hdr) (.slice A10 m10 c10) seen) ∧ Aside0 (BoxL wx w.heap.size a) ∧ Aside0 (LogIs wx lb mb p base hdr rows) ∧ Aside0 (Below w.heap.size w wx) ∧ Aside0 (base ≤ wx.heap.size))
      case first =>
        have x0 : wc.drew.cell? ⟨w.heap.size, 0, none⟩ = some (.int .i64 a.f0) := (blk_cell BX.out 0).trans rfl
        have x1 : wc.drew.cell? ⟨w.heap.size, 1, none⟩ = some (.int .i64 a.f1) := (blk_cell BX.out 1).trans rfl
        have x2 : wc.drew.cell? ⟨w.heap.size, 2, none⟩ = some (.int .i64 a.f2) := (blk_cell BX.out 2).trans rfl
        have x3 : wc.drew.cell? ⟨w.heap.size, 3, none⟩ = some (.int .i64 a.f3) := (blk_cell BX.out 3).trans rfl
        go_region_with (first
          | (go_at_call 14; refine (log_All_len (HL.out.below (below_drew1 (Below.refl _ _))) HX.out rfl rfl (by have := HRO.out.1 a; have := HPP.out; omega)).mono ?_; rintro e_ w6 ⟨A9, c9, rfl, hR9, hb9⟩; have hb9' := below_step (below_drew1 (Below.refl _ wc)) hb9; have HL6 := Aside0.mk (HL.out.below hb9'); have BX6 := Aside0.mk (BX.out.below hb9'); have HB6 := Aside0.mk (below_step HB.out hb9'); have HSZ6 := Aside0.mk (Nat.le_trans HSZ.out (below_size hb9')); have HR9 := Aside0.mk (row_fresh HL.out (Nat.le_refl _) hR9 HSZ.out); clear hb9 hb9' hR9; have xx0 : w6.cell? ⟨w.heap.size, 0, none⟩ = some (.int .i64 a.f0) := (blk_cell BX6.out 0).trans rfl; have xx1 : w6.cell? ⟨w.heap.size, 1, none⟩ = some (.int .i64 a.f1) := (blk_cell BX6.out 1).trans rfl; have xx2 : w6.cell? ⟨w.heap.size, 2, none⟩ = some (.int .i64 a.f2) := (blk_cell BX6.out 2).trans rfl; have xx3 : w6.cell? ⟨w.heap.size, 3, none⟩ = some (.int .i64 a.f3) := (blk_cell BX6.out 3).trans rfl)
          | (go_at_call 20; refine (log_Seen_len HL6.out HX.out (by have := HPP.out; omega) (fun y _ => by have := HRO.out.1 y; have := HPP.out; omega)).mono ?_; rintro e_ w7 ⟨A10, m10, c10, ats, sl, rfl, hS, hsl, hm10, hR10, hb10⟩; have HSL := Aside0.mk (And.intro hsl hm10); have HL7 := Aside0.mk (HL6.out.below hb10); have BX7 := Aside0.mk (BX6.out.below hb10); have HB7 := Aside0.mk (below_step HB6.out hb10); have HSZ7 := Aside0.mk (Nat.le_trans HSZ6.out (below_size hb10)); have HR10 := Aside0.mk (row_fresh HL6.out (Nat.le_refl _) hR10 HSZ6.out); have HR97 := Aside0.mk (Kd.R_below HR9.out hb10); have HS := Aside0.mk hS; clear hb10 hR10 hS hsl hm10))
        all_goals
          go_wp2_with fail
          go_meet
          case rel => exact ⟨_, _, _, _, _, _, _, _, _, rfl, rfl, ⟨rfl, rfl, HSL.out.1, HSL.out.2, HS.out⟩, HR97, HR10, BX7, HL7, HB7, HSZ7⟩
      case rest =>
        obtain ⟨A9, A10, c9, c10, m9, m10, was, seen, ats, rfl, rfl, HWS, HR9, HR10, BX, HL, HB, HSZ⟩ := hcut
        have HP := HPP
        have HRW := HRO
        clear HRO
        go_upto_block 2 with fail
        go_cut [11] (fun _ wx => ∃ (q : Nat) (rows2 : SL → List SE), Aside0 (q ≤ 60) ∧ Aside0 (RowsOk rows2 q) ∧ Aside0 (∃ hdr2, LogIs wx lb mb q base hdr2 rows2 ∧ RE wx base (okA hdr2) (.slice A9 m9 c9) was ∧ RE wx base (okA hdr2) (.slice A10 m10 c10) seen) ∧ Aside0 (∀ y, rows y <+: rows2 y) ∧ Aside0 (BoxL wx w.heap.size a) ∧ Aside0 (Below w.heap.size w wx) ∧ Aside0 (base ≤ wx.heap.size))
        case first =>
          go_wp2_with fail
          go_loopw [11] (fun v11 wr => ∃ (i : Int) (rows2 : SL → List SE), v11 = .int .i64 i ∧ Aside0 (0 ≤ i ∧ i ≤ 30) ∧ Aside0 (RowsOk rows2 (p + i.toNat)) ∧ Aside0 (∃ hdr2, LogIs wr lb mb (p + i.toNat) base hdr2 rows2 ∧ RE wr base (okA hdr2) (.slice A9 m9 c9) was ∧ RE wr base (okA hdr2) (.slice A10 m10 c10) seen) ∧ Aside0 (∀ y, rows y <+: rows2 y) ∧ Aside0 (BoxL wr w.heap.size a) ∧ Aside0 (Below w.heap.size w wr) ∧ Aside0 (base ≤ wr.heap.size)) (fun v11 _ => 60 - (intOf v11).toNat)
          case atStart => exact ⟨0, rows, rfl, ⟨by omega⟩, ⟨HRW.out⟩, ⟨hdr, HL.out, HR9.out, HR10.out⟩, ⟨fun _ => List.prefix_rfl⟩, BX, HB, HSZ⟩
          case round =>
            clear HL HR9 HR10 BX HB HSZ
            obtain ⟨i, rowsB, rfl, HI, HRO, HLX, HPX, BX, HB, HSZ⟩ := hrel
            obtain ⟨hdrB, hLX, hR9, hR10⟩ := HLX.out
            have HL := Aside0.mk hLX
            have HR9 := Aside0.mk hR9
            have HR10 := Aside0.mk hR10
            clear hLX hR9 hR10 HLX
            by_cases hiN : i < (N2 : Int)
            · have e1 : decide (i < (N2 : Int)) = true := decide_eq_true hiN
              by_cases hi30 : i < 30
              · have e2 : decide (i < 30) = true := decide_eq_true hi30
                have HI30 := Aside0.mk hi30
                have ek : wrap64 (i + 1) = i + 1 := wrap64_id (by have := HI.out; omega) (by omega)
                obtain ⟨ad, eA, hx0, hx1, hx2, hx3, hx4, hx5, hx6, hx7, hx8⟩ := at_T26 (Kd.C_below HC1.out HB.out) i HI.out.1 hiN
                obtain ⟨y, hy⟩ : ∃ y, rd_T26 mo i = y := ⟨_, rfl⟩
                rw [hy] at hx0 hx1 hx2 hx3 hx4 hx5 hx6 hx7 hx8
                have p1 := eq_true HI.out.1
                have q1 := eq_true hiN
                have p2 : decide ((0 : Int) ≤ i) = true := decide_eq_true HI.out.1
                obtain ⟨gy, hgy⟩ : ∃ gy, goodE y = gy := ⟨_, rfl⟩
                have HGY := Aside0.mk hgy
                have HMY : Aside0 (mayE gy) := ⟨by rw [← hgy]; exact goodE_may y⟩
                cases eA
                clear hiN hi30 hy hgy
                go_wp2_with fail
                refine (good_run y _).mono ?_
                rintro e_ w2 ⟨rfl, hb⟩
                rw [HGY.out]
                unfold ev
                have HB2 := Aside0.mk (below_step HB.out hb)
                have BX2 := Aside0.mk (BX.out.below hb)
                have HL2 := Aside0.mk (HL.out.below hb)
                have HSZ2 := Aside0.mk (Nat.le_trans HSZ.out (below_size hb))
                have HR92 := Aside0.mk (Kd.R_below HR9.out hb)
                have HR102 := Aside0.mk (Kd.R_below HR10.out hb)
                clear hb HB BX HL HSZ hx0 hx1 hx2 hx3 hx4 hx5 hx6 hx7 hx8 p1 q1 p2
                go_wp2_with fail
                refine (log_Add_any HL2.out gy HMY.out (by have := HI.out; have := HP.out; unfold maxLen; omega) HSZ2.out).mono ?_
                rintro e_ w5 ⟨rv, hdr2, rows2, rfl, hL, hS, hok, hr⟩
                have HL5 := Aside0.mk hL
                have BX5 : Aside0 (BoxL w5 w.heap.size a) := ⟨hS.low HL2.out GM.out HBASE.out BX2.out⟩
                have HB5 := Aside0.mk (hS.below HB2.out (below_size HB2.out) HL2.out (by have := GM.out; have := HBASE.out; omega) (by have := HBASE.out; omega))
                have HSZ5 := Aside0.mk (Nat.le_trans HSZ2.out hS.size)
                have HRO5 := Aside0.mk (RowsOk.any HRO.out HMY.out.1 hr)
                have HR95 := Aside0.mk (row_add hS HL2.out.isMap hok HR92.out)
                have HR105 := Aside0.mk (row_add hS HL2.out.isMap hok HR102.out)
                have HPX5 : Aside0 (∀ y, rows y <+: rows2 y) := ⟨fun y => (HPX.out y).trans (any_sub hr y)⟩
                clear hL hS hok hr HL2 BX2 HB2 HSZ2 HRO
                go_wp2
                go_roundw
                case rel => exact ⟨i + 1, rows2, by rw [ek], ⟨by have := HI.out; have := HI30.out; omega⟩, ⟨by rw [show p + (i + 1).toNat = p + i.toNat + 1 by have := HI.out; omega]; exact HRO5.out⟩, ⟨hdr2, by rw [show p + (i + 1).toNat = p + i.toNat + 1 by have := HI.out; omega]; exact HL5.out, HR95.out, HR105.out⟩, HPX5, BX5, HB5, HSZ5⟩
                case measure =>
                  rw [ek]
                  have := HI.out
                  have := HI30.out
                  simp only [intOf]
                  omega
              · have e2 : decide (i < 30) = false := decide_eq_false hi30
                clear hiN hi30
                go_wp2
                go_meet
                case rel => exact ⟨p + i.toNat, rowsB, ⟨by have := HI.out; have := HP.out; omega⟩, HRO, ⟨hdrB, HL.out, HR9.out, HR10.out⟩, HPX, BX, HB, HSZ⟩
            · have e1 : decide (i < (N2 : Int)) = false := decide_eq_false hiN
              clear hiN
              go_wp2
              go_meet
              case rel => exact ⟨p + i.toNat, rowsB, ⟨by have := HI.out; have := HP.out; omega⟩, HRO, ⟨hdrB, HL.out, HR9.out, HR10.out⟩, HPX, BX, HB, HSZ⟩
        case rest =>
          clear HL HR9 HR10 BX HB HSZ
          obtain ⟨q, rows2, HQ, HRO, HLX, HPX, BX, HB, HSZ⟩ := hcut
          obtain ⟨hdr2, hLX, hR9, hR10⟩ := HLX.out
          have HL := Aside0.mk hLX
          have HR9 := Aside0.mk hR9
          have HR10 := Aside0.mk hR10
          clear hLX hR9 hR10 HLX
          obtain ⟨nl, hnl⟩ : ∃ nl, rows2 a = nl := ⟨_, rfl⟩
          obtain ⟨m12, hm12⟩ : ∃ m12, nl.length = m12 := ⟨_, rfl⟩
          have HNL := Aside0.mk (And.intro hnl hm12)
          have HWP : Aside0 (was <+: nl) := ⟨by rw [← hnl, ← HWS.out.1]; exact HPX.out a⟩
          have HMM : Aside0 (m9 ≤ m12 ∧ m12 ≤ 60) := ⟨by rw [← hm12, ← HWS.out.2.1]; exact HWP.out.length_le, by have h1 := HRO.out.1 a; rw [hnl, hm12] at h1; have := HQ.out; omega⟩
          clear hnl hm12
          have x0 : wc.cell? ⟨w.heap.size, 0, none⟩ = some (.int .i64 a.f0) := (blk_cell BX.out 0).trans rfl
          have x1 : wc.cell? ⟨w.heap.size, 1, none⟩ = some (.int .i64 a.f1) := (blk_cell BX.out 1).trans rfl
          have x2 : wc.cell? ⟨w.heap.size, 2, none⟩ = some (.int .i64 a.f2) := (blk_cell BX.out 2).trans rfl
          have x3 : wc.cell? ⟨w.heap.size, 3, none⟩ = some (.int .i64 a.f3) := (blk_cell BX.out 3).trans rfl
          go_wp2_with fail
          refine (log_All_len HL.out HX.out HNL.out.1 HNL.out.2 (by have := HMM.out; omega)).mono ?_
          rintro e_ w6 ⟨A12, c12, rfl, hR12, hb⟩
          have HL6 := Aside0.mk (HL.out.below hb)
          have BX6 := Aside0.mk (BX.out.below hb)
          have HB6 := Aside0.mk (below_step HB.out hb)
          have HSZ6 := Aside0.mk (Nat.le_trans HSZ.out (below_size hb))
          have HR96 := Aside0.mk (Kd.R_below HR9.out hb)
          have HR106 := Aside0.mk (Kd.R_below HR10.out hb)
          have HR126 := Aside0.mk hR12
          have pn : (m12 < m9) = False := eq_false (by have := HMM.out; omega)
          have pi : ((m12 : Int) < (m9 : Int)) = False := eq_false (by have := HMM.out; omega)
          have dn : decide (m12 < m9) = false := decide_eq_false (by have := HMM.out; omega)
          have di : decide ((m12 : Int) < (m9 : Int)) = false := decide_eq_false (by have := HMM.out; omega)
          obtain ⟨i0_, hi0, _, _, _⟩ := info_parts info26
          have hct : ∀ W : World, (Instr.slice 34 (.slice A12 m12 c12) none (some (.int .i64 (m9 : Int))) none).run Tryd.prog W = .ok (.slice A12 m9 c12) W := cut_to 34 26 .i64 Tryd.underlying34 hi0 A12 m12 c12 (m9 : Int) (by omega) (by have := HMM.out; omega) (Kd.R_reads' hR12).2.1
          clear hb hR12 HL BX HB HSZ HR9 HR10 hi0 x0 x1 x2 x3
          go_wp2_with fail
          have HS1 : Aside0 (Kd.C k26 w6 A12 was.length was ∧ was.length ≤ c12) := ⟨by
            have h1 := Kd.R_take HR126.out (m := m9) (by rw [HNL.out.2]; exact HMM.out.1)
            have h2 : nl.take m9 = was := by rw [← HWS.out.2.1]; exact (List.prefix_iff_eq_take.1 HWP.out).symm
            rw [h2] at h1
            have h3 := Kd.R_reads' h1
            rw [h3.1] at h3
            exact ⟨h3.2.2, h3.2.1⟩⟩
          have hsm := donjonlaw14_same.calls (was.length + 1) A12 c12 was A9 c9 was true w6 HS1.out.1 HS1.out.2 (by have h3 := (Kd.R_reads' HR96.out); exact h3.2.2) (by have h3 := (Kd.R_reads' HR96.out); rw [← h3.1]; exact h3.2.1) (same_self was (by rw [HWS.out.2.1]; have := HMM.out; omega))
          rw [HWS.out.2.1] at hsm
          refine hsm.mono ?_
          rintro e_ w7 ⟨rfl, hd⟩
          have HL7 := Aside0.mk (HL6.out.below hd.below)
          have BX7 := Aside0.mk (BX6.out.below hd.below)
          have HB7 := Aside0.mk (below_step HB6.out hd.below)
          have HSZ7 := Aside0.mk (Nat.le_trans HSZ6.out (below_size hd.below))
          have HR107 := Aside0.mk (Kd.R_below HR106.out hd.below)
          clear hd hsm HL6 BX6 HB6 HSZ6 HR96 HR106 HR126 HS1 hct pn pi dn di
          have x0 : w7.cell? ⟨w.heap.size, 0, none⟩ = some (.int .i64 a.f0) := (blk_cell BX7.out 0).trans rfl
          have x1 : w7.cell? ⟨w.heap.size, 1, none⟩ = some (.int .i64 a.f1) := (blk_cell BX7.out 1).trans rfl
          have x2 : w7.cell? ⟨w.heap.size, 2, none⟩ = some (.int .i64 a.f2) := (blk_cell BX7.out 2).trans rfl
          have x3 : w7.cell? ⟨w.heap.size, 3, none⟩ = some (.int .i64 a.f3) := (blk_cell BX7.out 3).trans rfl
          go_wp2_with fail
          refine (log_Seen_len HL7.out HX.out (by have := HQ.out; omega) (fun y _ => by have := HRO.out.1 y; have := HQ.out; omega)).mono ?_
          rintro e_ w8 ⟨A13, m13, c13, ats2, al, rfl, hS2, hal, hm13, hR13, hb⟩
          have HSUB : Aside0 (seen.Sublist al) := ⟨by rw [← hal, ← HWS.out.2.2.1]; exact seen_sub HWS.out.2.2.2.2 hS2 (fun y => (HPX.out y).sublist)⟩
          have HOV : Aside0 (∀ e ∈ al, donjonref4_Over.f a.f0 a.f1 a.f2 a.f3 e.f1.f0 e.f1.f1 e.f1.f2 e.f1.f3 = some true) := ⟨fun e he => by
            rw [← hal] at he
            obtain ⟨y, hy, hey⟩ := List.mem_flatMap.1 he
            obtain ⟨h1, h2⟩ := HRO.out.2 y e hey
            rw [h1]
            exact over_ref HAA.out h2 (hS2.1 y ((sortS_perm2 ats2).mem_iff.1 hy)).2⟩
          have HC10 := Aside0.mk (Kd.R_reads' (Kd.R_below HR107.out hb)).2.2
          have HC13 := Aside0.mk (Kd.R_reads' hR13).2.2
          have HM10 : Aside0 (seen.length = m10 ∧ m10 ≤ 9223372036854775807) := ⟨HWS.out.2.2.2.1, by rw [← HWS.out.2.2.2.1]; exact HC10.out.2.1⟩
          have HM13 : Aside0 (al.length = m13 ∧ m13 ≤ 9223372036854775807) := ⟨hm13, by rw [← hm13]; exact HC13.out.2.1⟩
          have BX8 := Aside0.mk (BX7.out.below hb)
          have HB8 := Aside0.mk (below_step HB7.out hb)
          rw [HM10.out.1] at HC10
          rw [HM13.out.1] at HC13
          clear hS2 hal hm13 hR13 hb HL7 BX7 HB7 HSZ7 HR107 x0 x1 x2 x3
          go_wp2
          go_loopw [14, 15] (fun v14 v15 wr => ∃ (n i : Int), v14 = .int .i64 n ∧ v15 = .int .i64 i ∧ Aside0 (0 ≤ n ∧ n ≤ (m10 : Int) ∧ 0 ≤ i ∧ i ≤ (m13 : Int)) ∧ Aside0 ((seen.drop n.toNat).Sublist (al.drop i.toNat)) ∧ Aside0 (BoxL wr w.heap.size a) ∧ Aside0 (Below w8.heap.size w8 wr)) (fun _ v15 _ => m13 - (intOf v15).toNat)
          case atStart => exact ⟨0, 0, rfl, rfl, ⟨by omega⟩, HSUB, BX8, ⟨Below.refl _ _⟩⟩
          case round =>
            obtain ⟨n, i, rfl, rfl, HI, HSB, BX, HBB⟩ := hrel
            clear BX8
            by_cases hi : i < (m13 : Int)
            · have e1 : decide (i < (m13 : Int)) = true := decide_eq_true hi
              have ek : wrap64 (i + 1) = i + 1 := wrap64_id (by have := HI.out; omega) (by have := HM13.out; omega)
              have en : n < (m10 : Int) → wrap64 (n + 1) = n + 1 := fun hn => wrap64_id (by have := HI.out; omega) (by have := HM10.out; omega)
              have HEN := Aside0.mk en
              have HIM := Aside0.mk hi
              obtain ⟨ad, eA, hx0, hx1, hx2, hx3, hx4, hx5, hx6, hx7, hx8⟩ := at_T26 (Kd.C_below HC13.out HBB.out) i HI.out.2.2.1 hi
              obtain ⟨y, hy⟩ : ∃ y, rd_T26 al i = y := ⟨_, rfl⟩
              have HOVY : Aside0 (donjonref4_Over.f a.f0 a.f1 a.f2 a.f3 y.f1.f0 y.f1.f1 y.f1.f2 y.f1.f3 = some true) := ⟨HOV.out y (by rw [← hy]; exact rd_mem al i HI.out.2.2.1 (by rw [HM13.out.1]; exact hi))⟩
              have HDY : Aside0 (al.drop i.toNat = y :: al.drop (i + 1).toNat) := ⟨by rw [← hy]; exact drop_rd al i HI.out.2.2.1 (by rw [HM13.out.1]; exact hi)⟩
              rw [hy] at hx0 hx1 hx2 hx3 hx4 hx5 hx6 hx7 hx8
              have p1 := eq_true HI.out.2.2.1
              have q1 := eq_true hi
              have p2 : decide ((0 : Int) ≤ i) = true := decide_eq_true HI.out.2.2.1
              cases eA
              clear hi hy en
              have HXX := Aside0.mk (And.intro hx0 (And.intro hx1 (And.intro hx2 (And.intro hx3 (And.intro hx4 (And.intro hx5 (And.intro hx6 (And.intro hx7 hx8))))))))
              go_upto_region 24 with fail
              go_cut [102] (fun v102 wx => v102 = .bool false ∧ Aside0 (Below wr.heap.size wr wx))
              case first =>
                have x0 : wr.drew.cell? ⟨w.heap.size, 0, none⟩ = some (.int .i64 a.f0) := (blk_cell BX.out 0).trans rfl
                have x1 : wr.drew.cell? ⟨w.heap.size, 1, none⟩ = some (.int .i64 a.f1) := (blk_cell BX.out 1).trans rfl
                have x2 : wr.drew.cell? ⟨w.heap.size, 2, none⟩ = some (.int .i64 a.f2) := (blk_cell BX.out 2).trans rfl
                have x3 : wr.drew.cell? ⟨w.heap.size, 3, none⟩ = some (.int .i64 a.f3) := (blk_cell BX.out 3).trans rfl
                have hy1 : wr.drew.cell? ⟨(ad.add (i.toNat * 9)).block, (ad.add (i.toNat * 9)).off + 1, none⟩ = some (.int .i64 y.f1.f0) := hx1
                have hy2 : wr.drew.cell? ⟨(ad.add (i.toNat * 9)).block, (ad.add (i.toNat * 9)).off + 2, none⟩ = some (.int .i64 y.f1.f1) := hx2
                have hy3 : wr.drew.cell? ⟨(ad.add (i.toNat * 9)).block, (ad.add (i.toNat * 9)).off + 3, none⟩ = some (.int .i64 y.f1.f2) := hx3
                have hy4 : wr.drew.cell? ⟨(ad.add (i.toNat * 9)).block, (ad.add (i.toNat * 9)).off + 4, none⟩ = some (.int .i64 y.f1.f3) := hx4
                go_region_with (go_at_call 22; refine (donjonref4_Over.calls a.f0 a.f1 a.f2 a.f3 y.f1.f0 y.f1.f1 y.f1.f2 y.f1.f3 true _ HOVY.out).mono ?_; rintro e_ w9 ⟨rfl, hb⟩; have HB9 := Aside0.mk (below_step (below_drew1 (Below.refl _ wr)) hb); clear hb)
                all_goals
                  go_wp2_with fail
                  go_meet
                  case rel => exact ⟨rfl, HB9⟩
              case rest =>
                obtain ⟨rfl, HB9⟩ := hcut
                have HBB9 := Aside0.mk (below_step HBB.out HB9.out)
                have BX9 := Aside0.mk (BX.out.below HB9.out)
                have hw : ∀ (ad_ : Addr) (v : Value), wr.cell? ad_ = some v → wc.cell? ad_ = some v := fun ad_ v h => (HB9.out.cell (World.block_lt_of_cell? _ _ h)).trans h
                have HW := Aside0.mk hw
                clear hw hx0 hx1 hx2 hx3 hx4 hx5 hx6 hx7 hx8
                have hx0 := HW.out _ _ HXX.out.1
                have hx1 := HW.out _ _ HXX.out.2.1
                have hx2 := HW.out _ _ HXX.out.2.2.1
                have hx3 := HW.out _ _ HXX.out.2.2.2.1
                have hx4 := HW.out _ _ HXX.out.2.2.2.2.1
                have hx5 := HW.out _ _ HXX.out.2.2.2.2.2.1
                have hx6 := HW.out _ _ HXX.out.2.2.2.2.2.2.1
                have hx7 := HW.out _ _ HXX.out.2.2.2.2.2.2.2.1
                have hx8 := HW.out _ _ HXX.out.2.2.2.2.2.2.2.2
                clear HBB BX HXX
                by_cases hn : n < (m10 : Int)
                · have e2 : decide (n < (m10 : Int)) = true := decide_eq_true hn
                  have en := HEN.out hn
                  have HNM := Aside0.mk hn
                  obtain ⟨az, eZ, hz0, hz1, hz2, hz3, hz4, hz5, hz6, hz7, hz8⟩ := at_T26 (Kd.C_below HC10.out HBB9.out) n HI.out.1 hn
                  obtain ⟨z, hz⟩ : ∃ z, rd_T26 seen n = z := ⟨_, rfl⟩
                  have HDZ : Aside0 (seen.drop n.toNat = z :: seen.drop (n + 1).toNat) := ⟨by rw [← hz]; exact drop_rd seen n HI.out.1 (by rw [HM10.out.1]; exact hn)⟩
                  rw [hz] at hz0 hz1 hz2 hz3 hz4 hz5 hz6 hz7 hz8
                  have p3 := eq_true HI.out.1
                  have q3 := eq_true hn
                  have p4 : decide ((0 : Int) ≤ n) = true := decide_eq_true HI.out.1
                  cases eZ
                  clear hn hz
                  have HSTEP := Aside0.mk (sub_step (by have h1 := HSB.out; rw [HDZ.out, HDY.out] at h1; exact h1))
                  by_cases hyz : y = z
                  · have heq := eqE_self hyz
                    have HYZ := Aside0.mk hyz
                    clear hyz
                    go_wp2
                    go_quiet (fail)
                    go_wp2
                    go_roundw
                    case rel => exact ⟨n + 1, i + 1, by rw [en], by rw [ek], ⟨by have := HI.out; have := HNM.out; have := HIM.out; omega⟩, ⟨HSTEP.out.1 HYZ.out⟩, ⟨BX9.out.below (pw_below_drewN (Below.refl _ _) _)⟩, ⟨pw_below_drewN HBB9.out _⟩⟩
                    case measure =>
                      rw [ek]
                      have := HI.out
                      have := HIM.out
                      simp only [intOf]
                      omega
                  · have heq := eqE_ne hyz
                    have HYZ := Aside0.mk hyz
                    clear hyz
                    go_wp2
                    go_quiet (fail)
                    go_wp2
                    go_roundw
                    case rel => exact ⟨n, i + 1, rfl, by rw [ek], ⟨by have := HI.out; have := HIM.out; omega⟩, ⟨by rw [HDZ.out]; exact HSTEP.out.2 HYZ.out⟩, ⟨BX9.out.below (pw_below_drewN (Below.refl _ _) _)⟩, ⟨pw_below_drewN HBB9.out _⟩⟩
                    case measure =>
                      rw [ek]
                      have := HI.out
                      have := HIM.out
                      simp only [intOf]
                      omega
                · have e2 : decide (n < (m10 : Int)) = false := decide_eq_false hn
                  have HDN : Aside0 (seen.drop n.toNat = []) := ⟨List.drop_eq_nil_of_le (by have := HI.out; have := HM10.out; omega)⟩
                  clear hn
                  go_wp2
                  go_quiet (fail)
                  go_wp2
                  go_roundw
                  case rel => exact ⟨n, i + 1, rfl, by rw [ek], ⟨by have := HI.out; have := HIM.out; omega⟩, ⟨by rw [HDN.out]; exact List.nil_sublist _⟩, ⟨BX9.out.below (pw_below_drewN (Below.refl _ _) _)⟩, ⟨pw_below_drewN HBB9.out _⟩⟩
                  case measure =>
                    rw [ek]
                    have := HI.out
                    have := HIM.out
                    simp only [intOf]
                    omega
            · have e1 : decide (i < (m13 : Int)) = false := decide_eq_false hi
              have hnm : n = (m10 : Int) := by
                have h1 := HSB.out
                rw [List.drop_eq_nil_of_le (show al.length ≤ i.toNat by have := HI.out; have := HM13.out; omega), List.sublist_nil, List.drop_eq_nil_iff] at h1
                have := HI.out
                have := HM10.out
                omega
              have hq : (n == (m10 : Int)) = true := by rw [hnm]; exact beq_self_eq_true _
              clear hi hnm
              go_wp2
              go_ret
              exact ⟨rfl, below_step HB8.out HBB.out⟩
theorem donjonlaw14_AuditStays.calls (A0 : Option Addr) (c0 : Nat) (l0 : List (S26)) (A1 : Option Addr) (c1 : Nat) (l1 : List (S26)) (a2_0 a2_1 a2_2 a2_3 : Int) (r : Bool) (w : World) (hG : Laid w) (hr0 : Kd.C k26 w A0 l0.length l0) (hc0 : l0.length ≤ c0) (hr1 : Kd.C k26 w A1 l1.length l1) (hc1 : l1.length ≤ c1) (h : donjonlaw14_AuditStays.f l0 l1 a2_0 a2_1 a2_2 a2_3 = some r) :
    Calls Tryd.prog 5 #[.slice A0 l0.length c0, .slice A1 l1.length c1, .agg #[.int .i64 a2_0, .int .i64 a2_1, .int .i64 a2_2, .int .i64 a2_3]] w fun e w' => e = .returned (.bool r) ∧ Below w.heap.size w w' := by
  obtain rfl : true = r := Option.some.inj h
  exact AuditStays.run A0 A1 c0 c1 l0 l1 ⟨a2_0, a2_1, a2_2, a2_3⟩ w hG hr0 hr1

end Go.Proofs.YtihknjmibnonjaaDoor.X
